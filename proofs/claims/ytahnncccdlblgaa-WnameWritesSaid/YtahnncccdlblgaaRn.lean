/- The reference's Name: it writes and keeps what nameR tells. Conditions: a sound name, not too many bytes. -/
import Derived.Test.YtahnncccdlblgaaRn0
import Derived.Below
import Derived.Deep.Draws
import Derived.Deep.AppendLies
import Derived.Maps.AppendAt
import Derived.OwnWalk
import Derived.Laws.BytesArg
import Derived.Laws.MakeOwn
import Derived.Laws.OwnMore
import Derived.Deep.OwnRows
import Derived.Tactics
import Derived.Lib.ConvBytes
import Derived.Laws.Slices
import Derived.WalkKit
import Derived.KernelRfl
import Derived.RowKit3
import Derived.Deep.LoopGhost
import Derived.Deep.QuietTactic
import Derived.BigQuiet
import Derived.WideLaws
import Derived.Deep.DeepCutAuto
import Derived.Deep.CutBlock
import Derived.Deep.RegionHeld3
import Derived.Laws.Rows
import Derived.Lib.AppendStr
import Derived.ArgAppend
import Derived.Laws.IdiomCopy
import Derived.OrdersHeld
import Derived.Laws.BitsLemmas
import Derived.RowKit
namespace Go.Proofs.Ytahnncccdlblgaa.G
open Go.RowKit Go.Proofs.YtahnncccdlblgaaW.PrintWords Go.Proofs.YtahnncccdlblgaaW.PrintLast Go.Proofs.YtahnncccdlblgaaW.PrintMore Go.Proofs.Ytahnncccdlblgaa.Plain
attribute [local go_sem] max2_int min2_int max_two min_two max_three min_three max_four min_four
set_option linter.unusedVariables false
set_option linter.unusedSimpArgs false
/-- The reference's Writer in the midst of what a call does. -/
def RSt (w : World) (base : Nat) (G : Nat → Prop) (g : Nat) (ys : List Int) (rs : List (Int × List ByteArray)) (wr : World) : Prop := ∃ G1, Rw wr base G1 g ys rs ∧ Upd w wr G ∧ ∀ k, G1 k → G k ∨ w.heap.size ≤ k
section
variable {w : World} {base : Nat} {G : Nat → Prop} {g : Nat} {ys : List Int} {rs : List (Int × List ByteArray)} {wr : World}
theorem RSt.start (h : Rw w base G g ys rs) : RSt w base G g ys rs w := ⟨G, h, Upd.refl _ _, fun _ hk => .inl hk⟩
theorem RSt.after {w' : World} {ys' : List Int} {rs' : List (Int × List ByteArray)} {F1 F2 : Nat → Prop} (hu : Upd w wr G) (hs : ∀ k, F1 k → G k ∨ w.heap.size ≤ k) (h2 : Rw w' base F2 g ys' rs') (hu2 : Upd wr w' F1) (hs2 : ∀ k, F2 k → F1 k ∨ wr.heap.size ≤ k) : RSt w base G g ys' rs' w' :=
  ⟨F2, h2, hu.trans hu2 hs, fun k hk => (hs2 k hk).elim (hs k) (fun hge => .inr (Nat.le_trans hu.size hge))⟩
theorem RSt.below {w' : World} (h : RSt w base G g ys rs wr) (hb : Below wr.heap.size wr w') : RSt w base G g ys rs w' := by
  obtain ⟨F1, h1, h2, h3⟩ := h
  exact ⟨F1, h1.below hb, h2.trans (Upd.of_below hb G) (fun _ h => .inl h), h3⟩
theorem RSt.alloc (h : RSt w base G g ys rs wr) (o : Obj) : RSt w base G g ys rs (wr.alloc o) := h.below (below_alloc (Below.refl _ _) o)
theorem RSt.drew (h : RSt w base G g ys rs wr) : RSt w base G g ys rs wr.drew := h.below (below_drew (Below.refl _ _))
theorem RSt.drewN (h : RSt w base G g ys rs wr) (m : Nat) : RSt w base G g ys rs (wr.drewN m) := h.below (pw_below_drewN (Below.refl _ _) m)
theorem RSt.upd (h : RSt w base G g ys rs wr) : Upd w wr G := by
  obtain ⟨G1, h1, h2, h3⟩ := h
  exact h2
theorem RSt.cells (h : RSt w base G g ys rs wr) : ∃ (G1 : Nat → Prop) (A : Option Addr) (c : Nat) (B : Option Addr) (d : Nat), wr.heap[g]? = some (.cells #[.slice A ys.length c, .slice B rs.length d] 53 (0, 0)) ∧ kRest.R 86 wr base G1 (.slice B rs.length d) rs ∧ base ≤ wr.heap.size ∧
    ∀ W w1 rs' B' d', Below wr.heap.size wr W → W.grownBy w1 (Value.slice B rs.length d).ownBlock → kRest.R 86 w1 base (fun k => G1 k ∨ wr.heap.size ≤ k) (.slice B' rs'.length d') rs' → RSt w base G g ys rs' (w1.setCell ⟨g, 1, none⟩ (.slice B' rs'.length d')) := by
  obtain ⟨G1, hw, hu, hs⟩ := h
  have hb := hw.base_le
  obtain ⟨A, c, B, d, h1, h2, h3, h4, h5⟩ := hw
  refine ⟨G1, A, c, B, d, h1, h3, hb, fun W w1 rs' B' d' hW hg hv => ?_⟩
  obtain ⟨G', q1, q2, q3⟩ := pushed h1 h2 h3 h4 h5 hW hg hv
  exact RSt.after hu hs q1 q2 q3
theorem rst_Num (h : RSt w base G g ys rs wr) (x s : Int) (hx : x ≤ 9223372036854775807) (hl : ys.length ≤ 70368744177664) :
    Calls Try.prog 28 #[.pointer (some ⟨g, 0, none⟩), .int .i64 x, .int .i64 s] wr fun e w' => e = .returned (.tuple #[]) ∧ RSt w base G g (ys ++ numB x s) rs w' := by
  obtain ⟨F1, h1, h2, h3⟩ := h
  refine (ref_Num base g F1 ys rs x s wr h1 hx hl).mono ?_
  rintro e w' ⟨rfl, F2, q1, q2, q3⟩
  exact ⟨rfl, RSt.after h2 h3 q1 q2 q3⟩
theorem rst_Raw (h : RSt w base G g ys rs wr) (B : Option Addr) (cb : Nat) (zs : List Int) {m : Nat} (hm : m = zs.length) (hz : Kd.C (Kd.int .u8) wr B m zs) (hl : ys.length + zs.length < 140737488355328) :
    Calls Try.prog 26 #[.pointer (some ⟨g, 0, none⟩), .slice B m cb] wr fun e w' => e = .returned (.tuple #[]) ∧ RSt w base G g (ys ++ zs) rs w' := by
  obtain ⟨F1, h1, h2, h3⟩ := h
  refine (ref_Raw base g F1 ys rs B cb zs hm wr h1 hz hl).mono ?_
  rintro e w' ⟨rfl, F2, q1, q2, q3⟩
  exact ⟨rfl, RSt.after h2 h3 q1 q2 q3⟩
theorem rst_find (h : RSt w base G g ys rs wr) (Al : Option Addr) (cl : Nat) (l : List ByteArray) (hC : Kd.C Kd.string wr Al l.length l) (hc : l.length ≤ cl) {r : Int} (hr : findR rs l = r) :
    Calls Try.prog 47 #[.pointer (some ⟨g, 0, none⟩), .slice Al l.length cl] wr fun e w' => e = .returned (.int .i64 r) ∧ Drawn0 wr w' := by
  subst hr
  obtain ⟨F1, h1, h2, h3⟩ := h
  exact ref_find base g F1 ys rs Al cl l wr h1 hC hc
end
theorem cell_str {w : World} {ad : Addr} {n : Nat} {l : List ByteArray} (h : Kd.C Kd.string w (some ad) n l) {j : Nat} (hj : j < n) {s : ByteArray} (hs : rdOf ByteArray.empty l (j : Int) = s) : w.cell? (ad.add j) = some (.string s) := by
  subst hs
  have := Kd.foot_string h (j : Int) (by omega) (by omega)
  rwa [Int.toNat_natCast] at this
/-- The reference's Writer holds ys, and keeps the places m. -/
def RN (w : World) (base : Nat) (G : Nat → Prop) (g : Nat) (ys : List Int) (m : PMap) : Prop := ∃ rs, Rw w base G g ys rs ∧ pm rs = m ∧ Places rs ∧ rs.length ≤ ys.length
set_option maxRecDepth 100000 in
set_option maxHeartbeats 4000000 in
theorem ref_Name (base g : Nat) (G : Nat → Prop) (ys : List Int) (m : PMap) (short : Bool) (A : Option Addr) (c : Nat) (l : List ByteArray) (w : World) (h : RN w base G g ys m) (hC : ∀ w', Upd w w' G → Kd.C Kd.string w' A l.length l) (hc : l.length ≤ c)
    (hs : soundB l = true) (hl : ys.length ≤ 1000000000) :
    Calls Try.prog 31 #[.pointer (some ⟨g, 0, none⟩), .slice A l.length c, .bool short] w fun e w' => e = .returned (.tuple #[]) ∧ ∃ G', RN w' base G' g (nameR short l ys m).1 (nameR short l ys m).2 ∧ Upd w w' G ∧ ∀ k, G' k → G k ∨ w.heap.size ≤ k := by
  obtain ⟨rs, hW, rfl, hP, hrl⟩ := h
  obtain ⟨hl255, hlab, hrest⟩ := sound_iff.1 hs
  have HC := Aside0.mk hC
  have HLAB := Aside0.mk hlab
  have HREST := Aside0.mk hrest
  have HL := Aside0.mk hl
  obtain ⟨R, hR⟩ : ∃ R, nameR short l ys (pm rs) = R := ⟨_, rfl⟩
  rw [hR]
  have HR := Aside0.mk hR
  have HW := Aside0.mk hW
  have HP := Aside0.mk hP
  have HRL0 := Aside0.mk hrl
  have HCC := Aside0.mk hc
  obtain ⟨iS, hiS, _, hszS, _⟩ := info_parts infoS
  have HIS := Aside0.mk hiS
  have HSZ := Aside0.mk hszS
  clear hlab hrest hs hC hl hR hW hP hrl hc hiS hszS
  go_enter Try.func31, Try.ntmps31
  go_wp2_with (fail)
  go_loopw [6] (fun i wr => ∃ (j : Nat) (yj : List Int) (rj : List (Int × List ByteArray)), j ≤ l.length ∧ i = .int .i64 j ∧ Aside0 (RSt w base G g yj rj wr) ∧ Aside0 (Places rj) ∧ Aside0 (rj.length ≤ yj.length) ∧ Aside0 (nameR short (l.drop j) yj (pm rj) = R) ∧ Aside0 (yj.length ≤ ys.length + 64 * j)) (fun i _ => l.length - (intOf i).toNat)
  case atStart => exact ⟨0, ys, rs, Nat.zero_le _, rfl, ⟨RSt.start HW.out⟩, ⟨HP.out⟩, ⟨HRL0.out⟩, ⟨HR.out⟩, ⟨by omega⟩⟩
  case round =>
    obtain ⟨j, yj, rj, hj, rfl, HS, HPL, HRL, HRJ, HYJ⟩ := hrel
    have HLY := Aside0.mk (show yj.length ≤ 70368744177664 by have := HYJ.out; have := HL.out; omega)
    by_cases hlt : j < l.length
    · have hcr := HC.out wr HS.out.upd
      obtain ⟨ad, rfl, hx⟩ := Kd.at_string hcr (j : Int) (by omega) (by omega)
      clear hx
      have hcut := cut_from (P := Try.prog) 34 9 .i64 Try.underlying34 HIS.out 1 HSZ.out (some ad) l.length c (j : Int) (by omega) (by omega)
      have hcq := Kd.C_drop (m := j) (c := c) hcr (by omega) HCC.out
      simp only [Int.toNat_natCast] at hcut
      have hdl : (l.drop j).length = l.length - j := List.length_drop
      have hdc : l.drop j = rdOf ByteArray.empty l (j : Int) :: l.drop (j + 1) := by
        rw [List.drop_eq_getElem_cons hlt]
        simp [rdOf, List.getD_eq_getElem?_getD, hlt]
      have hsl := HLAB.out _ (rdOf_mem hlt)
      obtain ⟨A', hA'⟩ : ∃ A', A' = (if c = j then some ad else (some ad).map (·.add (j * 1))) := ⟨_, rfl⟩
      rw [← hA', ← hdl] at hcut
      have HQC2 := Aside0.mk (show (l.drop j).length ≤ c - j by have := HCC.out; omega)
      have HQN := Aside0.mk (show (l.drop j).length ≤ 255 by omega)
      obtain ⟨q, hq⟩ : ∃ q, l.drop j = q := ⟨_, rfl⟩
      have hHRJ := HRJ.out
      rw [hq] at hcut hcq hdc hHRJ HQC2 HQN
      obtain ⟨s, hse⟩ : ∃ s, rdOf ByteArray.empty l (j : Int) = s := ⟨_, rfl⟩
      have HSE := Aside0.mk hse
      rw [hse] at hdc hsl
      have HCQ := Aside0.mk (show Kd.C Kd.string wr A' q.length q from by rw [hA']; exact hcq)
      have HQC := Aside0.mk hdc
      have HRQ := Aside0.mk hHRJ
      have kb := fun W => print_bytes (P := Try.prog) 9 24 5 Try.underlying9 Try.underlying24 Try.underlying5 s W
      have hlen : (yj ++ [(s.size : Int)] ++ bytesOf s).length = yj.length + 1 + s.size := by simp [bytesOf_length]; omega
      have hls : yj ++ [(s.size : Int)] ++ bytesOf s = yj ++ lab s := by rw [lab, show (s.size : Int) % 256 = s.size by omega]; simp
      have HLN := Aside0.mk hlen
      have HLS := Aside0.mk hls
      clear hcr hcq hdl hdc hA' hq hse hHRJ HRJ hlen hls
      obtain ⟨o, ho⟩ : ∃ o, pm rj q = o := ⟨_, rfl⟩
      have HO0 := Aside0.mk ho
      cases o with
      | some p =>
        have hfp := pm_some ho
        have hpr : p < 16384 := by rcases findR_range rj HPL.out q with h | h <;> omega
        have HFR := Aside0.mk hfp.1
        have hp0 : 0 ≤ p := hfp.2
        have k5 := decide_eq_true hp0
        clear ho hfp
        cases short with
        | true =>
          go_wp2_with (first | (go_at_call 47; (with_reducible refine (rst_find (by first | (with_reducible exact HS.out) | ((with_reducible repeat (first | apply RSt.alloc | apply RSt.drewN | apply RSt.drew)); exact HS.out)) A' (c - j) q HCQ.out HQC2.out HFR.out).mono ?_); rintro e w18 ⟨rfl, ⟨nd, rfl⟩⟩) | (go_at_call 28; (with_reducible refine (rst_Num (by first | (with_reducible exact HS.out) | ((with_reducible repeat (first | apply RSt.alloc | apply RSt.drewN | apply RSt.drew)); exact HS.out)) _ _ (by omega) HLY.out).mono ?_); rintro e w27 ⟨rfl, hs3⟩; rw [numB_two _ hp0 hpr] at hs3; have HS1 := Aside0.mk hs3; clear hs3))
          refine bodyPost_ret (results_none rfl _ _ _) rfl ?_
          have e := HRQ.out
          rw [HQC.out, nameR] at e
          rw [← HQC.out, HO0.out] at e
          simp only [if_true] at e
          rw [← e]
          obtain ⟨G2, q1, q2, q3⟩ := HS1.out
          exact ⟨rfl, G2, ⟨rj, q1, rfl, HPL.out, by have := HRL.out; rw [List.length_append]; omega⟩, q2, q3⟩
        | false =>
          have e := HRQ.out
          rw [HQC.out, nameR] at e
          rw [← HQC.out, HO0.out] at e
          simp only [Bool.false_eq_true, if_false] at e
          by_cases hy : yj.length < 16384
          · have HYL := Aside0.mk hy
            have k6 := decide_eq_true hy
            have k7 : decide ((yj.length : Int) < 16384) = true := decide_eq_true (by omega)
            have HE := Aside0.mk e
            clear e hy
            obtain ⟨G1, A1, c1, B1, d1, hg0, hrr, hbs, hcont⟩ := HS.out.cells
            have h0_ := (blk_cell hg0 0).trans (show _ = some (Value.slice A1 yj.length c1) from rfl)
            have HG0 := Aside0.mk hg0
            have HRR := Aside0.mk hrr
            have HBS := Aside0.mk hbs
            have HCONT := Aside0.mk hcont
            clear hg0 hrr hbs hcont
            go_upto_region 7 with ((go_at_call 47; (with_reducible refine (rst_find (by first | (with_reducible exact HS.out) | ((with_reducible repeat (first | apply RSt.alloc | apply RSt.drewN | apply RSt.drew)); exact HS.out)) A' (c - j) q HCQ.out HQC2.out HFR.out).mono ?_); rintro e w18 ⟨rfl, ⟨nd, rfl⟩⟩))
            refine start_ (n := 21) (S := fun w' => w'.cell? ⟨g, 0, none⟩ = some (.slice A1 yj.length c1) ∧ w'.cell? ⟨g, 1, none⟩ = some (.slice B1 rj.length d1)) (ds := [17, 20]) #[false, false, false, false, false, false, false, false, false, false, false, false, false, false, false, false, false, false, false, false, false] (by kernel_rfl) rfl rfl ⟨(blk_cell HG0.out 0).trans rfl, (blk_cell HG0.out 1).trans rfl⟩ (fun hHeld => ?_)
            have HB := Aside0.mk (show Below wr.heap.size wr ((wr.drewN nd).drew) from below_drew (pw_below_drewN (Below.refl _ _) nd))
            generalize (wr.drewN nd).drew = wd at HB hHeld ⊢
            refine pure_ (i := 0) (N := some 34) (v := ?_) (a' := ?_) #[true, false, false, false, false, false, false, false, false, false, false, false, false, false, false, false, false, false, false, false, false] rfl rfl (by kernel_rfl) (fun _ _ _ h => h) (Or.inl ⟨by rfl, ?hy1⟩) ?ha1 ?_; (case hy1 => (intro w'; go_simp; with_reducible rfl)); (case ha1 => (simp only [Act.put, List.setIfInBounds_toArray, List.set_cons_zero, List.set_cons_succ, i64_w, i32_w]; rfl))
            refine pure_ (i := 1) (N := some 35) (v := ?_) (a' := ?_) #[true, true, false, false, false, false, false, false, false, false, false, false, false, false, false, false, false, false, false, false, false] rfl rfl (by kernel_rfl) (fun _ _ _ h => h) (Or.inl ⟨by rfl, ?hy2⟩) ?ha2 ?_; (case hy2 => (intro w'; go_simp; with_reducible rfl)); (case ha2 => (simp only [Act.put, List.setIfInBounds_toArray, List.set_cons_zero, List.set_cons_succ, i64_w, i32_w]; rfl))
            refine pure_ (i := 2) (N := some 36) (v := ?_) (a' := ?_) #[true, true, true, false, false, false, false, false, false, false, false, false, false, false, false, false, false, false, false, false, false] rfl rfl (by kernel_rfl) (fun _ _ _ h => h) (Or.inl ⟨by rfl, ?hy3⟩) ?ha3 ?_; (case hy3 => (intro w'; go_simp; with_reducible rfl)); (case ha3 => (simp only [Act.put, List.setIfInBounds_toArray, List.set_cons_zero, List.set_cons_succ, i64_w, i32_w]; rfl))
            refine pure_ (i := 3) (N := some 37) (v := ?_) (a' := ?_) #[true, true, true, true, false, false, false, false, false, false, false, false, false, false, false, false, false, false, false, false, false] rfl rfl (by kernel_rfl) (fun _ _ _ h => h) (Or.inl ⟨by rfl, ?hy4⟩) ?ha4 ?_; (case hy4 => (intro w'; go_simp; with_reducible rfl)); (case ha4 => (simp only [Act.put, List.setIfInBounds_toArray, List.set_cons_zero, List.set_cons_succ, i64_w, i32_w]; rfl))
            refine take_ (i := 4) (N := some 38) (v := ?_) (a' := ?_) #[true, true, true, true, true, false, false, false, false, false, false, false, false, false, false, false, false, false, false, false, false] rfl rfl (by kernel_rfl) (fun _ _ _ h => h) (Or.inl ⟨by rfl, ?hy5⟩) hHeld ?ha5 ?_; (case hy5 => (rintro w' ⟨s0,s1⟩; go_simp; with_reducible rfl)); (case ha5 => (simp only [Act.put, List.setIfInBounds_toArray, List.set_cons_zero, List.set_cons_succ, i64_w, i32_w]; rfl))
            refine pure_ (i := 5) (N := some 39) (v := ?_) (a' := ?_) #[true, true, true, true, true, true, false, false, false, false, false, false, false, false, false, false, false, false, false, false, false] rfl rfl (by kernel_rfl) (fun _ _ _ h => h) (Or.inl ⟨by rfl, ?hy6⟩) ?ha6 ?_; (case hy6 => (intro w'; go_simp; with_reducible rfl)); (case ha6 => (simp only [Act.put, List.setIfInBounds_toArray, List.set_cons_zero, List.set_cons_succ, i64_w, i32_w]; rfl))
            refine pure_ (i := 6) (N := some 40) (v := ?_) (a' := ?_) #[true, true, true, true, true, true, true, false, false, false, false, false, false, false, false, false, false, false, false, false, false] rfl rfl (by kernel_rfl) (fun _ _ _ h => h) (Or.inl ⟨by rfl, ?hy7⟩) ?ha7 ?_; (case hy7 => (intro w'; go_simp; with_reducible rfl)); (case ha7 => (simp only [Act.put, List.setIfInBounds_toArray, List.set_cons_zero, List.set_cons_succ, i64_w, i32_w]; rfl))
            refine pure_ (i := 7) (N := some 41) (v := ?_) (a' := ?_) #[true, true, true, true, true, true, true, true, false, false, false, false, false, false, false, false, false, false, false, false, false] rfl rfl (by kernel_rfl) (fun _ _ _ h => h) (Or.inl ⟨by rfl, ?hy8⟩) ?ha8 ?_; (case hy8 => (intro w'; go_simp; with_reducible rfl)); (case ha8 => (simp only [Act.put, List.setIfInBounds_toArray, List.set_cons_zero, List.set_cons_succ, i64_w, i32_w]; rfl))
            refine take_ (i := 8) (N := some 42) (v := ?_) (a' := ?_) #[true, true, true, true, true, true, true, true, true, false, false, false, false, false, false, false, false, false, false, false, false] rfl rfl (by kernel_rfl) (fun _ _ _ h => h) (Or.inl ⟨by rfl, ?hy9⟩) hHeld ?ha9 ?_; (case hy9 => (rintro w' ⟨s0,s1⟩; go_simp; with_reducible rfl)); (case ha9 => (simp only [Act.put, List.setIfInBounds_toArray, List.set_cons_zero, List.set_cons_succ, i64_w, i32_w]; rfl))
            refine pure_ (i := 9) (N := some 43) (v := ?_) (a' := ?_) #[true, true, true, true, true, true, true, true, true, true, false, false, false, false, false, false, false, false, false, false, false] rfl rfl (by kernel_rfl) (fun _ _ _ h => h) (Or.inl ⟨by rfl, ?hy10⟩) ?ha10 ?_; (case hy10 => (intro w'; go_simp; with_reducible rfl)); (case ha10 => (simp only [Act.put, List.setIfInBounds_toArray, List.set_cons_zero, List.set_cons_succ, i64_w, i32_w]; rfl))
            refine pure_ (i := 11) (N := some 45) (v := ?_) (a' := ?_) #[true, true, true, true, true, true, true, true, true, true, false, true, false, false, false, false, false, false, false, false, false] rfl rfl (by kernel_rfl) (fun _ _ _ h => h) (Or.inl ⟨by rfl, ?hy11⟩) ?ha11 ?_; (case hy11 => (intro w'; go_simp; with_reducible rfl)); (case ha11 => (simp only [Act.put, List.setIfInBounds_toArray, List.set_cons_zero, List.set_cons_succ, i64_w, i32_w]; rfl))
            refine pure_ (i := 12) (N := some 46) (v := ?_) (a' := ?_) #[true, true, true, true, true, true, true, true, true, true, false, true, true, false, false, false, false, false, false, false, false] rfl rfl (by kernel_rfl) (fun _ _ _ h => h) (Or.inl ⟨by rfl, ?hy12⟩) ?ha12 ?_; (case hy12 => (intro w'; go_simp; with_reducible rfl)); (case ha12 => (simp only [Act.put, List.setIfInBounds_toArray, List.set_cons_zero, List.set_cons_succ, i64_w, i32_w]; rfl))
            refine pure_ (i := 13) (N := some 47) (v := ?_) (a' := ?_) #[true, true, true, true, true, true, true, true, true, true, false, true, true, true, false, false, false, false, false, false, false] rfl rfl (by kernel_rfl) (fun _ _ _ h => h) (Or.inl ⟨by rfl, ?hy13⟩) ?ha13 ?_; (case hy13 => (intro w'; go_simp; with_reducible rfl)); (case ha13 => (simp only [Act.put, List.setIfInBounds_toArray, List.set_cons_zero, List.set_cons_succ, i64_w, i32_w]; rfl))
            refine one_ (i := 10) (N := some 44) #[true, true, true, true, true, true, true, true, true, true, true, true, true, true, false, false, false, false, false, false, false] rfl rfl (by kernel_rfl) (by decide) (fun K hK => ?_)
            refine Kd.R_lit_step (w0 := wr) Kd.string wr.heap.size 9 (by rfl) (N := 44) rfl (xs := ([] : List ByteArray)) (inner := []) (ok := fun _ => True) (okp := fun _ => False) (lit_str rfl) (Reps.none _ _) (fun _ hk => hk.elim) trivial HB.out HB.out.size (Nat.zero_le _) ?_
            intro v44 w44 ho hb hg hat
            clear HB hg hat
            have HB := Aside0.mk hb
            have HO := Aside0.mk ho
            clear hb ho
            refine hK.out _ _ ⟨(blk_cell (blk_below HG0.out HB.out) 0).trans rfl, (blk_cell (blk_below HG0.out HB.out) 1).trans rfl⟩ (fun hHeld => ?_)
            clear hK K
            refine norm_ (a' := ?_) ?hn15 ?_; (case hn15 => (show Act.put _ (some 44) _ = _; simp only [Act.put, List.setIfInBounds_toArray, List.set_cons_zero, List.set_cons_succ, i64_w, i32_w]; rfl))
            refine one_ (i := 14) (N := some 48) #[true, true, true, true, true, true, true, true, true, true, true, true, true, true, true, false, false, false, false, false, false] rfl rfl (by kernel_rfl) (by decide) (fun K hK => ?_)
            refine Kd.R_append_rows_step Kd.string (w0 := wr) wr.heap.size (by rfl) (.tmp 44) (.tmp 47) 34 9 (.string ByteArray.empty) 16 rfl Try.underlying34 infoS rfl (by decide) (by omega) v44 [] q _ _ _ (fun _ => True) (fun _ => False) rfl rfl HO.out (Kd.C_below HCQ.out HB.out) (fun _ _ h => h) (fun _ h => h.elim) (fun _ _ => trivial) HB.out HB.out.size (by have := HQN.out; simp; omega) ?_
            intro v48 w48 ho hb hg hat
            rw [List.nil_append] at ho
            clear HB HO hg hat
            have HB := Aside0.mk hb
            have HO := Aside0.mk ho
            clear hb ho
            obtain ⟨A48, c48, e48⟩ := Kd.R_slice HO.out
            subst e48
            refine hK.out _ _ ⟨(blk_cell (blk_below HG0.out HB.out) 0).trans rfl, (blk_cell (blk_below HG0.out HB.out) 1).trans rfl⟩ (fun hHeld => ?_)
            clear hK K
            refine norm_ (a' := ?_) ?hn17 ?_; (case hn17 => (show Act.put _ (some 48) _ = _; simp only [Act.put, List.setIfInBounds_toArray, List.set_cons_zero, List.set_cons_succ, i64_w, i32_w]; rfl))
            refine pure_ (i := 15) (N := some 49) (v := ?_) (a' := ?_) #[true, true, true, true, true, true, true, true, true, true, true, true, true, true, true, true, false, false, false, false, false] rfl rfl (by kernel_rfl) (fun _ _ _ h => h) (Or.inl ⟨by rfl, ?hy18⟩) ?ha18 ?_; (case hy18 => (intro w'; go_simp; with_reducible rfl)); (case ha18 => (simp only [Act.put, List.setIfInBounds_toArray, List.set_cons_zero, List.set_cons_succ, i64_w, i32_w]; rfl))
            refine one_ (i := 16) (N := some 50) #[true, true, true, true, true, true, true, true, true, true, true, true, true, true, true, true, true, false, false, false, false] rfl rfl (by kernel_rfl) (by decide) (fun K hK => ?_)
            refine value_ (by rfl) rfl (lit_rest rfl rfl) ?_
            refine hK.out _ _ ⟨(blk_cell (blk_below HG0.out (below_alloc HB.out _)) 0).trans rfl, (blk_cell (blk_below HG0.out (below_alloc HB.out _)) 1).trans rfl⟩ (fun hHeld => ?_)
            clear hK K
            refine norm_ (a' := ?_) ?hn20 ?_; (case hn20 => (show Act.put _ (some 50) _ = _; simp only [Act.put, List.setIfInBounds_toArray, List.set_cons_zero, List.set_cons_succ, i64_w, i32_w]; rfl))
            have hsz := HB.out.size
            have hro := Kd.R_lt HRR.out
            refine last_ (i := 17) (N := some 51) #[true, true, true, true, true, true, true, true, true, true, true, true, true, true, true, true, true, true, false, false, false] rfl rfl (by kernel_rfl) (by decide) (fun K hK => ?_)
            refine Kd.R_append_step kRest (w0 := wr) base (by rfl) (.tmp 38) (.tmp 50) 51 86 (.agg #[.int .i64 0, .slice none 0 0]) 32 rfl Try.underlying51 infoRest rfl (by decide) (by omega) (.slice B1 rj.length d1) rj ((yj.length : Int), q) [.int .i64 (yj.length : Int), .slice A48 q.length c48] (fun k => G1 k ∨ wr.heap.size ≤ k) (fun k => wr.heap.size ≤ k) rfl rfl ⟨[.int .i64 (yj.length : Int)], [.slice A48 q.length c48], rfl, rfl, _, rfl, Kd.R_mono (Kd.R_lower (Kd.R_bound HO.out) HBS.out) (fun k hk => hk.2.1)⟩ (fun k hk => ⟨.inr hk, fun e => by have := hro k e.symm; omega⟩) (fun k hk => .inr (Nat.le_trans hsz hk)) (Kd.R_mono (Kd.R_below HRR.out HB.out) (fun k hk => .inl hk)) (HB.out.mono HBS.out) (Nat.le_trans HBS.out hsz) (by have := HRL.out; have := HYL.out; omega) ?_
            intro v51 w51 ho hb hg hat
            obtain ⟨rj2, hrj2⟩ : ∃ r, rj ++ [((yj.length : Int), q)] = r := ⟨_, rfl⟩
            rw [hrj2] at ho
            obtain ⟨B2, d2, e51⟩ := Kd.R_slice ho
            subst e51
            have HS2 := Aside0.mk (HCONT.out w48 w51 rj2 B2 d2 HB.out hg ho)
            have hgx := blk_grown (blk_below HG0.out HB.out) hg (Kd.R_ne (Kd.R_below HRR.out HB.out) (blk_below HG0.out HB.out) (by decide))
            have hy0 := (blk_cell hgx 1).trans (show _ = some (Value.slice B1 rj.length d1) from rfl)
            have hy1 := blk_frozen hgx 1
            have HRJ2 := Aside0.mk hrj2
            clear ho hb hg hat hgx hrj2 hro hsz HO HB HCONT HRR HG0
            refine hK.out _ _ ?_
            clear hK K
            refine norm_ (a' := ?_) ?hn22 ?_; (case hn22 => (show Act.put _ (some 51) _ = _; simp only [Act.put, List.setIfInBounds_toArray, List.set_cons_zero, List.set_cons_succ, i64_w, i32_w]; rfl))
            refine pure_ (i := 18) (N := some 52) (v := ?_) (a' := ?_) #[true, true, true, true, true, true, true, true, true, true, true, true, true, true, true, true, true, true, true, false, false] rfl rfl (by kernel_rfl) (fun _ _ _ h => h) (Or.inl ⟨by rfl, ?hy23⟩) ?ha23 ?_; (case hy23 => (intro w'; go_simp; with_reducible rfl)); (case ha23 => (simp only [Act.put, List.setIfInBounds_toArray, List.set_cons_zero, List.set_cons_succ, i64_w, i32_w]; rfl))
            refine pure_ (i := 19) (N := some 53) (v := ?_) (a' := ?_) #[true, true, true, true, true, true, true, true, true, true, true, true, true, true, true, true, true, true, true, true, false] rfl rfl (by kernel_rfl) (fun _ _ _ h => h) (Or.inl ⟨by rfl, ?hy24⟩) ?ha24 ?_; (case hy24 => (intro w'; go_simp; with_reducible rfl)); (case ha24 => (simp only [Act.put, List.setIfInBounds_toArray, List.set_cons_zero, List.set_cons_succ, i64_w, i32_w]; rfl))
            refine last_ (i := 20) (N := none) #[true, true, true, true, true, true, true, true, true, true, true, true, true, true, true, true, true, true, true, true, true] rfl rfl (by kernel_rfl) (by decide) (fun K hK => ?_)
            refine skip_ (w1 := w51.setCell ⟨g, 1, none⟩ (.slice B2 rj2.length d2)) (by rfl) rfl ?hst1 ?_
            (case hst1 => first | (go_simp; done) | (go_simp; rfl))
            refine hK.out _ _ ?_
            clear hK K hy0 hy1
            refine done_ (by kernel_rfl) ?_
            have HS1 := HS2
            clear HS2
            have hx8 := cell_str (HC.out _ HS1.out.upd) hlt HSE.out
            generalize w51.setCell ⟨g, 1, none⟩ (.slice B2 rj2.length d2) = ws at HS1 hx8 ⊢
            go_wp2_with (first | (go_at_call 28; (with_reducible refine (rst_Num (by first | (with_reducible exact HS1.out) | ((with_reducible repeat (first | apply RSt.alloc | apply RSt.drewN | apply RSt.drew)); exact HS1.out)) _ _ (by omega) HLY.out).mono ?_); rintro e w60 ⟨rfl, hs3⟩; rw [numB_one _ (by omega) (by omega)] at hs3; have hx9 := cell_str (HC.out _ (RSt.upd hs3)) hlt HSE.out; clear HS1; have HS1 := Aside0.mk hs3; clear hs3) | (go_at_call 26; (with_reducible refine (rst_Raw (m := s.size) (HS1.out.below (bytes_below (Below.refl _ _) (Nat.le_refl _) _ _)) _ _ (bytesOf s) (bytesOf_length s).symm ?s1 ?s2).mono ?_); (case s1 => exact Kd.C_of_reads (d := (0 : Int)) (h1 := fun _ => rfl) (bytes_reads _ _ s (by omega))); (case s2 => have := HLY.out; rw [List.length_append, bytesOf_length]; simp only [List.length_singleton]; omega); rintro e w67 ⟨rfl, hs4⟩; clear HS1; have HS1 := Aside0.mk hs4; clear hs4))
            go_roundw
            case rel => exact ⟨j + 1, yj ++ lab s, rj2, by omega, by go_num, ⟨by rw [← HLS.out]; exact HS1.out⟩, ⟨by rw [← HRJ2.out]; exact places_push HPL.out (by omega) (by have := HYL.out; omega)⟩, ⟨by rw [← HLS.out, HLN.out]; have := HRL.out; rw [← HRJ2.out]; simp only [List.length_append, List.length_singleton]; omega⟩, ⟨by rw [← HRJ2.out, pm_push_some HPL.out HO0.out]; exact HE.out⟩, ⟨by have := HYJ.out; rw [← HLS.out, HLN.out]; omega⟩⟩
            case measure => simp [intOf] <;> omega
          · have k6 := decide_eq_false hy
            have k7 : decide ((yj.length : Int) < 16384) = false := decide_eq_false (by omega)
            have HE := Aside0.mk e
            clear e hy
            obtain ⟨G1, A1, c1, B1, d1, hg0, hrr, hbs, hcont⟩ := HS.out.cells
            have h0_ := (blk_cell hg0 0).trans (show _ = some (Value.slice A1 yj.length c1) from rfl)
            have hx8 := cell_str (HC.out _ HS.out.upd) hlt HSE.out
            have HS1 := HS
            clear hg0 hrr hbs hcont
            go_wp2_with (first | (go_at_call 47; (with_reducible refine (rst_find (by first | (with_reducible exact HS.out) | ((with_reducible repeat (first | apply RSt.alloc | apply RSt.drewN | apply RSt.drew)); exact HS.out)) A' (c - j) q HCQ.out HQC2.out HFR.out).mono ?_); rintro e w18 ⟨rfl, ⟨nd, rfl⟩⟩) | (go_at_call 28; (with_reducible refine (rst_Num (by first | (with_reducible exact HS1.out) | ((with_reducible repeat (first | apply RSt.alloc | apply RSt.drewN | apply RSt.drew)); exact HS1.out)) _ _ (by omega) HLY.out).mono ?_); rintro e w60 ⟨rfl, hs3⟩; rw [numB_one _ (by omega) (by omega)] at hs3; have hx9 := cell_str (HC.out _ (RSt.upd hs3)) hlt HSE.out; clear HS1; have HS1 := Aside0.mk hs3; clear hs3) | (go_at_call 26; (with_reducible refine (rst_Raw (m := s.size) (HS1.out.below (bytes_below (Below.refl _ _) (Nat.le_refl _) _ _)) _ _ (bytesOf s) (bytesOf_length s).symm ?s1 ?s2).mono ?_); (case s1 => exact Kd.C_of_reads (d := (0 : Int)) (h1 := fun _ => rfl) (bytes_reads _ _ s (by omega))); (case s2 => have := HLY.out; rw [List.length_append, bytesOf_length]; simp only [List.length_singleton]; omega); rintro e w67 ⟨rfl, hs4⟩; clear HS1; have HS1 := Aside0.mk hs4; clear hs4))
            go_roundw
            case rel => exact ⟨j + 1, yj ++ lab s, rj, by omega, by go_num, ⟨by rw [← HLS.out]; exact HS1.out⟩, ⟨HPL.out⟩, ⟨by have := HRL.out; rw [← HLS.out, HLN.out]; omega⟩, ⟨HE.out⟩, ⟨by have := HYJ.out; rw [← HLS.out, HLN.out]; omega⟩⟩
            case measure => simp [intOf] <;> omega
      | none =>
        have hfp := pm_none HPL.out ho
        have HFR := Aside0.mk hfp
        clear ho hfp
        have e := HRQ.out
        rw [HQC.out, nameR] at e
        rw [← HQC.out, HO0.out] at e
        simp only at e
        by_cases hy : yj.length < 16384
        · rw [if_pos hy] at e
          have HYL := Aside0.mk hy
          have k6 := decide_eq_true hy
          have k7 : decide ((yj.length : Int) < 16384) = true := decide_eq_true (by omega)
          have HE := Aside0.mk e
          clear e hy
          obtain ⟨G1, A1, c1, B1, d1, hg0, hrr, hbs, hcont⟩ := HS.out.cells
          have h0_ := (blk_cell hg0 0).trans (show _ = some (Value.slice A1 yj.length c1) from rfl)
          have HG0 := Aside0.mk hg0
          have HRR := Aside0.mk hrr
          have HBS := Aside0.mk hbs
          have HCONT := Aside0.mk hcont
          clear hg0 hrr hbs hcont
          go_upto_region 7 with ((go_at_call 47; (with_reducible refine (rst_find (by first | (with_reducible exact HS.out) | ((with_reducible repeat (first | apply RSt.alloc | apply RSt.drewN | apply RSt.drew)); exact HS.out)) A' (c - j) q HCQ.out HQC2.out HFR.out).mono ?_); rintro e w18 ⟨rfl, ⟨nd, rfl⟩⟩))
          refine start_ (n := 21) (S := fun w' => w'.cell? ⟨g, 0, none⟩ = some (.slice A1 yj.length c1) ∧ w'.cell? ⟨g, 1, none⟩ = some (.slice B1 rj.length d1)) (ds := [17, 20]) #[false, false, false, false, false, false, false, false, false, false, false, false, false, false, false, false, false, false, false, false, false] (by kernel_rfl) rfl rfl ⟨(blk_cell HG0.out 0).trans rfl, (blk_cell HG0.out 1).trans rfl⟩ (fun hHeld => ?_)
          have HB := Aside0.mk (show Below wr.heap.size wr ((wr.drewN nd).drew) from below_drew (pw_below_drewN (Below.refl _ _) nd))
          generalize (wr.drewN nd).drew = wd at HB hHeld ⊢
          refine pure_ (i := 0) (N := some 34) (v := ?_) (a' := ?_) #[true, false, false, false, false, false, false, false, false, false, false, false, false, false, false, false, false, false, false, false, false] rfl rfl (by kernel_rfl) (fun _ _ _ h => h) (Or.inl ⟨by rfl, ?hy26⟩) ?ha26 ?_; (case hy26 => (intro w'; go_simp; with_reducible rfl)); (case ha26 => (simp only [Act.put, List.setIfInBounds_toArray, List.set_cons_zero, List.set_cons_succ, i64_w, i32_w]; rfl))
          refine pure_ (i := 1) (N := some 35) (v := ?_) (a' := ?_) #[true, true, false, false, false, false, false, false, false, false, false, false, false, false, false, false, false, false, false, false, false] rfl rfl (by kernel_rfl) (fun _ _ _ h => h) (Or.inl ⟨by rfl, ?hy27⟩) ?ha27 ?_; (case hy27 => (intro w'; go_simp; with_reducible rfl)); (case ha27 => (simp only [Act.put, List.setIfInBounds_toArray, List.set_cons_zero, List.set_cons_succ, i64_w, i32_w]; rfl))
          refine pure_ (i := 2) (N := some 36) (v := ?_) (a' := ?_) #[true, true, true, false, false, false, false, false, false, false, false, false, false, false, false, false, false, false, false, false, false] rfl rfl (by kernel_rfl) (fun _ _ _ h => h) (Or.inl ⟨by rfl, ?hy28⟩) ?ha28 ?_; (case hy28 => (intro w'; go_simp; with_reducible rfl)); (case ha28 => (simp only [Act.put, List.setIfInBounds_toArray, List.set_cons_zero, List.set_cons_succ, i64_w, i32_w]; rfl))
          refine pure_ (i := 3) (N := some 37) (v := ?_) (a' := ?_) #[true, true, true, true, false, false, false, false, false, false, false, false, false, false, false, false, false, false, false, false, false] rfl rfl (by kernel_rfl) (fun _ _ _ h => h) (Or.inl ⟨by rfl, ?hy29⟩) ?ha29 ?_; (case hy29 => (intro w'; go_simp; with_reducible rfl)); (case ha29 => (simp only [Act.put, List.setIfInBounds_toArray, List.set_cons_zero, List.set_cons_succ, i64_w, i32_w]; rfl))
          refine take_ (i := 4) (N := some 38) (v := ?_) (a' := ?_) #[true, true, true, true, true, false, false, false, false, false, false, false, false, false, false, false, false, false, false, false, false] rfl rfl (by kernel_rfl) (fun _ _ _ h => h) (Or.inl ⟨by rfl, ?hy30⟩) hHeld ?ha30 ?_; (case hy30 => (rintro w' ⟨s0,s1⟩; go_simp; with_reducible rfl)); (case ha30 => (simp only [Act.put, List.setIfInBounds_toArray, List.set_cons_zero, List.set_cons_succ, i64_w, i32_w]; rfl))
          refine pure_ (i := 5) (N := some 39) (v := ?_) (a' := ?_) #[true, true, true, true, true, true, false, false, false, false, false, false, false, false, false, false, false, false, false, false, false] rfl rfl (by kernel_rfl) (fun _ _ _ h => h) (Or.inl ⟨by rfl, ?hy31⟩) ?ha31 ?_; (case hy31 => (intro w'; go_simp; with_reducible rfl)); (case ha31 => (simp only [Act.put, List.setIfInBounds_toArray, List.set_cons_zero, List.set_cons_succ, i64_w, i32_w]; rfl))
          refine pure_ (i := 6) (N := some 40) (v := ?_) (a' := ?_) #[true, true, true, true, true, true, true, false, false, false, false, false, false, false, false, false, false, false, false, false, false] rfl rfl (by kernel_rfl) (fun _ _ _ h => h) (Or.inl ⟨by rfl, ?hy32⟩) ?ha32 ?_; (case hy32 => (intro w'; go_simp; with_reducible rfl)); (case ha32 => (simp only [Act.put, List.setIfInBounds_toArray, List.set_cons_zero, List.set_cons_succ, i64_w, i32_w]; rfl))
          refine pure_ (i := 7) (N := some 41) (v := ?_) (a' := ?_) #[true, true, true, true, true, true, true, true, false, false, false, false, false, false, false, false, false, false, false, false, false] rfl rfl (by kernel_rfl) (fun _ _ _ h => h) (Or.inl ⟨by rfl, ?hy33⟩) ?ha33 ?_; (case hy33 => (intro w'; go_simp; with_reducible rfl)); (case ha33 => (simp only [Act.put, List.setIfInBounds_toArray, List.set_cons_zero, List.set_cons_succ, i64_w, i32_w]; rfl))
          refine take_ (i := 8) (N := some 42) (v := ?_) (a' := ?_) #[true, true, true, true, true, true, true, true, true, false, false, false, false, false, false, false, false, false, false, false, false] rfl rfl (by kernel_rfl) (fun _ _ _ h => h) (Or.inl ⟨by rfl, ?hy34⟩) hHeld ?ha34 ?_; (case hy34 => (rintro w' ⟨s0,s1⟩; go_simp; with_reducible rfl)); (case ha34 => (simp only [Act.put, List.setIfInBounds_toArray, List.set_cons_zero, List.set_cons_succ, i64_w, i32_w]; rfl))
          refine pure_ (i := 9) (N := some 43) (v := ?_) (a' := ?_) #[true, true, true, true, true, true, true, true, true, true, false, false, false, false, false, false, false, false, false, false, false] rfl rfl (by kernel_rfl) (fun _ _ _ h => h) (Or.inl ⟨by rfl, ?hy35⟩) ?ha35 ?_; (case hy35 => (intro w'; go_simp; with_reducible rfl)); (case ha35 => (simp only [Act.put, List.setIfInBounds_toArray, List.set_cons_zero, List.set_cons_succ, i64_w, i32_w]; rfl))
          refine pure_ (i := 11) (N := some 45) (v := ?_) (a' := ?_) #[true, true, true, true, true, true, true, true, true, true, false, true, false, false, false, false, false, false, false, false, false] rfl rfl (by kernel_rfl) (fun _ _ _ h => h) (Or.inl ⟨by rfl, ?hy36⟩) ?ha36 ?_; (case hy36 => (intro w'; go_simp; with_reducible rfl)); (case ha36 => (simp only [Act.put, List.setIfInBounds_toArray, List.set_cons_zero, List.set_cons_succ, i64_w, i32_w]; rfl))
          refine pure_ (i := 12) (N := some 46) (v := ?_) (a' := ?_) #[true, true, true, true, true, true, true, true, true, true, false, true, true, false, false, false, false, false, false, false, false] rfl rfl (by kernel_rfl) (fun _ _ _ h => h) (Or.inl ⟨by rfl, ?hy37⟩) ?ha37 ?_; (case hy37 => (intro w'; go_simp; with_reducible rfl)); (case ha37 => (simp only [Act.put, List.setIfInBounds_toArray, List.set_cons_zero, List.set_cons_succ, i64_w, i32_w]; rfl))
          refine pure_ (i := 13) (N := some 47) (v := ?_) (a' := ?_) #[true, true, true, true, true, true, true, true, true, true, false, true, true, true, false, false, false, false, false, false, false] rfl rfl (by kernel_rfl) (fun _ _ _ h => h) (Or.inl ⟨by rfl, ?hy38⟩) ?ha38 ?_; (case hy38 => (intro w'; go_simp; with_reducible rfl)); (case ha38 => (simp only [Act.put, List.setIfInBounds_toArray, List.set_cons_zero, List.set_cons_succ, i64_w, i32_w]; rfl))
          refine one_ (i := 10) (N := some 44) #[true, true, true, true, true, true, true, true, true, true, true, true, true, true, false, false, false, false, false, false, false] rfl rfl (by kernel_rfl) (by decide) (fun K hK => ?_)
          refine Kd.R_lit_step (w0 := wr) Kd.string wr.heap.size 9 (by rfl) (N := 44) rfl (xs := ([] : List ByteArray)) (inner := []) (ok := fun _ => True) (okp := fun _ => False) (lit_str rfl) (Reps.none _ _) (fun _ hk => hk.elim) trivial HB.out HB.out.size (Nat.zero_le _) ?_
          intro v44 w44 ho hb hg hat
          clear HB hg hat
          have HB := Aside0.mk hb
          have HO := Aside0.mk ho
          clear hb ho
          refine hK.out _ _ ⟨(blk_cell (blk_below HG0.out HB.out) 0).trans rfl, (blk_cell (blk_below HG0.out HB.out) 1).trans rfl⟩ (fun hHeld => ?_)
          clear hK K
          refine norm_ (a' := ?_) ?hn40 ?_; (case hn40 => (show Act.put _ (some 44) _ = _; simp only [Act.put, List.setIfInBounds_toArray, List.set_cons_zero, List.set_cons_succ, i64_w, i32_w]; rfl))
          refine one_ (i := 14) (N := some 48) #[true, true, true, true, true, true, true, true, true, true, true, true, true, true, true, false, false, false, false, false, false] rfl rfl (by kernel_rfl) (by decide) (fun K hK => ?_)
          refine Kd.R_append_rows_step Kd.string (w0 := wr) wr.heap.size (by rfl) (.tmp 44) (.tmp 47) 34 9 (.string ByteArray.empty) 16 rfl Try.underlying34 infoS rfl (by decide) (by omega) v44 [] q _ _ _ (fun _ => True) (fun _ => False) rfl rfl HO.out (Kd.C_below HCQ.out HB.out) (fun _ _ h => h) (fun _ h => h.elim) (fun _ _ => trivial) HB.out HB.out.size (by have := HQN.out; simp; omega) ?_
          intro v48 w48 ho hb hg hat
          rw [List.nil_append] at ho
          clear HB HO hg hat
          have HB := Aside0.mk hb
          have HO := Aside0.mk ho
          clear hb ho
          obtain ⟨A48, c48, e48⟩ := Kd.R_slice HO.out
          subst e48
          refine hK.out _ _ ⟨(blk_cell (blk_below HG0.out HB.out) 0).trans rfl, (blk_cell (blk_below HG0.out HB.out) 1).trans rfl⟩ (fun hHeld => ?_)
          clear hK K
          refine norm_ (a' := ?_) ?hn42 ?_; (case hn42 => (show Act.put _ (some 48) _ = _; simp only [Act.put, List.setIfInBounds_toArray, List.set_cons_zero, List.set_cons_succ, i64_w, i32_w]; rfl))
          refine pure_ (i := 15) (N := some 49) (v := ?_) (a' := ?_) #[true, true, true, true, true, true, true, true, true, true, true, true, true, true, true, true, false, false, false, false, false] rfl rfl (by kernel_rfl) (fun _ _ _ h => h) (Or.inl ⟨by rfl, ?hy43⟩) ?ha43 ?_; (case hy43 => (intro w'; go_simp; with_reducible rfl)); (case ha43 => (simp only [Act.put, List.setIfInBounds_toArray, List.set_cons_zero, List.set_cons_succ, i64_w, i32_w]; rfl))
          refine one_ (i := 16) (N := some 50) #[true, true, true, true, true, true, true, true, true, true, true, true, true, true, true, true, true, false, false, false, false] rfl rfl (by kernel_rfl) (by decide) (fun K hK => ?_)
          refine value_ (by rfl) rfl (lit_rest rfl rfl) ?_
          refine hK.out _ _ ⟨(blk_cell (blk_below HG0.out (below_alloc HB.out _)) 0).trans rfl, (blk_cell (blk_below HG0.out (below_alloc HB.out _)) 1).trans rfl⟩ (fun hHeld => ?_)
          clear hK K
          refine norm_ (a' := ?_) ?hn45 ?_; (case hn45 => (show Act.put _ (some 50) _ = _; simp only [Act.put, List.setIfInBounds_toArray, List.set_cons_zero, List.set_cons_succ, i64_w, i32_w]; rfl))
          have hsz := HB.out.size
          have hro := Kd.R_lt HRR.out
          refine last_ (i := 17) (N := some 51) #[true, true, true, true, true, true, true, true, true, true, true, true, true, true, true, true, true, true, false, false, false] rfl rfl (by kernel_rfl) (by decide) (fun K hK => ?_)
          refine Kd.R_append_step kRest (w0 := wr) base (by rfl) (.tmp 38) (.tmp 50) 51 86 (.agg #[.int .i64 0, .slice none 0 0]) 32 rfl Try.underlying51 infoRest rfl (by decide) (by omega) (.slice B1 rj.length d1) rj ((yj.length : Int), q) [.int .i64 (yj.length : Int), .slice A48 q.length c48] (fun k => G1 k ∨ wr.heap.size ≤ k) (fun k => wr.heap.size ≤ k) rfl rfl ⟨[.int .i64 (yj.length : Int)], [.slice A48 q.length c48], rfl, rfl, _, rfl, Kd.R_mono (Kd.R_lower (Kd.R_bound HO.out) HBS.out) (fun k hk => hk.2.1)⟩ (fun k hk => ⟨.inr hk, fun e => by have := hro k e.symm; omega⟩) (fun k hk => .inr (Nat.le_trans hsz hk)) (Kd.R_mono (Kd.R_below HRR.out HB.out) (fun k hk => .inl hk)) (HB.out.mono HBS.out) (Nat.le_trans HBS.out hsz) (by have := HRL.out; have := HYL.out; omega) ?_
          intro v51 w51 ho hb hg hat
          obtain ⟨rj2, hrj2⟩ : ∃ r, rj ++ [((yj.length : Int), q)] = r := ⟨_, rfl⟩
          rw [hrj2] at ho
          obtain ⟨B2, d2, e51⟩ := Kd.R_slice ho
          subst e51
          have HS2 := Aside0.mk (HCONT.out w48 w51 rj2 B2 d2 HB.out hg ho)
          have hgx := blk_grown (blk_below HG0.out HB.out) hg (Kd.R_ne (Kd.R_below HRR.out HB.out) (blk_below HG0.out HB.out) (by decide))
          have hy0 := (blk_cell hgx 1).trans (show _ = some (Value.slice B1 rj.length d1) from rfl)
          have hy1 := blk_frozen hgx 1
          have HRJ2 := Aside0.mk hrj2
          clear ho hb hg hat hgx hrj2 hro hsz HO HB HCONT HRR HG0
          refine hK.out _ _ ?_
          clear hK K
          refine norm_ (a' := ?_) ?hn47 ?_; (case hn47 => (show Act.put _ (some 51) _ = _; simp only [Act.put, List.setIfInBounds_toArray, List.set_cons_zero, List.set_cons_succ, i64_w, i32_w]; rfl))
          refine pure_ (i := 18) (N := some 52) (v := ?_) (a' := ?_) #[true, true, true, true, true, true, true, true, true, true, true, true, true, true, true, true, true, true, true, false, false] rfl rfl (by kernel_rfl) (fun _ _ _ h => h) (Or.inl ⟨by rfl, ?hy48⟩) ?ha48 ?_; (case hy48 => (intro w'; go_simp; with_reducible rfl)); (case ha48 => (simp only [Act.put, List.setIfInBounds_toArray, List.set_cons_zero, List.set_cons_succ, i64_w, i32_w]; rfl))
          refine pure_ (i := 19) (N := some 53) (v := ?_) (a' := ?_) #[true, true, true, true, true, true, true, true, true, true, true, true, true, true, true, true, true, true, true, true, false] rfl rfl (by kernel_rfl) (fun _ _ _ h => h) (Or.inl ⟨by rfl, ?hy49⟩) ?ha49 ?_; (case hy49 => (intro w'; go_simp; with_reducible rfl)); (case ha49 => (simp only [Act.put, List.setIfInBounds_toArray, List.set_cons_zero, List.set_cons_succ, i64_w, i32_w]; rfl))
          refine last_ (i := 20) (N := none) #[true, true, true, true, true, true, true, true, true, true, true, true, true, true, true, true, true, true, true, true, true] rfl rfl (by kernel_rfl) (by decide) (fun K hK => ?_)
          refine skip_ (w1 := w51.setCell ⟨g, 1, none⟩ (.slice B2 rj2.length d2)) (by rfl) rfl ?hst2 ?_
          (case hst2 => first | (go_simp; done) | (go_simp; rfl))
          refine hK.out _ _ ?_
          clear hK K hy0 hy1
          refine done_ (by kernel_rfl) ?_
          have HS1 := HS2
          clear HS2
          have hx8 := cell_str (HC.out _ HS1.out.upd) hlt HSE.out
          generalize w51.setCell ⟨g, 1, none⟩ (.slice B2 rj2.length d2) = ws at HS1 hx8 ⊢
          go_wp2_with (first | (go_at_call 28; (with_reducible refine (rst_Num (by first | (with_reducible exact HS1.out) | ((with_reducible repeat (first | apply RSt.alloc | apply RSt.drewN | apply RSt.drew)); exact HS1.out)) _ _ (by omega) HLY.out).mono ?_); rintro e w60 ⟨rfl, hs3⟩; rw [numB_one _ (by omega) (by omega)] at hs3; have hx9 := cell_str (HC.out _ (RSt.upd hs3)) hlt HSE.out; clear HS1; have HS1 := Aside0.mk hs3; clear hs3) | (go_at_call 26; (with_reducible refine (rst_Raw (m := s.size) (HS1.out.below (bytes_below (Below.refl _ _) (Nat.le_refl _) _ _)) _ _ (bytesOf s) (bytesOf_length s).symm ?s1 ?s2).mono ?_); (case s1 => exact Kd.C_of_reads (d := (0 : Int)) (h1 := fun _ => rfl) (bytes_reads _ _ s (by omega))); (case s2 => have := HLY.out; rw [List.length_append, bytesOf_length]; simp only [List.length_singleton]; omega); rintro e w67 ⟨rfl, hs4⟩; clear HS1; have HS1 := Aside0.mk hs4; clear hs4))
          go_roundw
          case rel => exact ⟨j + 1, yj ++ lab s, rj2, by omega, by go_num, ⟨by rw [← HLS.out]; exact HS1.out⟩, ⟨by rw [← HRJ2.out]; exact places_push HPL.out (by omega) (by have := HYL.out; omega)⟩, ⟨by rw [← HLS.out, HLN.out]; have := HRL.out; rw [← HRJ2.out]; simp only [List.length_append, List.length_singleton]; omega⟩, ⟨by rw [← HRJ2.out, pm_push_none HPL.out (by omega) HO0.out]; exact HE.out⟩, ⟨by have := HYJ.out; rw [← HLS.out, HLN.out]; omega⟩⟩
          case measure => simp [intOf] <;> omega
        · rw [if_neg hy] at e
          have k6 := decide_eq_false hy
          have k7 : decide ((yj.length : Int) < 16384) = false := decide_eq_false (by omega)
          have HE := Aside0.mk e
          clear e hy
          obtain ⟨G1, A1, c1, B1, d1, hg0, hrr, hbs, hcont⟩ := HS.out.cells
          have h0_ := (blk_cell hg0 0).trans (show _ = some (Value.slice A1 yj.length c1) from rfl)
          have hx8 := cell_str (HC.out _ HS.out.upd) hlt HSE.out
          have HS1 := HS
          clear hg0 hrr hbs hcont
          go_wp2_with (first | (go_at_call 47; (with_reducible refine (rst_find (by first | (with_reducible exact HS.out) | ((with_reducible repeat (first | apply RSt.alloc | apply RSt.drewN | apply RSt.drew)); exact HS.out)) A' (c - j) q HCQ.out HQC2.out HFR.out).mono ?_); rintro e w18 ⟨rfl, ⟨nd, rfl⟩⟩) | (go_at_call 28; (with_reducible refine (rst_Num (by first | (with_reducible exact HS1.out) | ((with_reducible repeat (first | apply RSt.alloc | apply RSt.drewN | apply RSt.drew)); exact HS1.out)) _ _ (by omega) HLY.out).mono ?_); rintro e w60 ⟨rfl, hs3⟩; rw [numB_one _ (by omega) (by omega)] at hs3; have hx9 := cell_str (HC.out _ (RSt.upd hs3)) hlt HSE.out; clear HS1; have HS1 := Aside0.mk hs3; clear hs3) | (go_at_call 26; (with_reducible refine (rst_Raw (m := s.size) (HS1.out.below (bytes_below (Below.refl _ _) (Nat.le_refl _) _ _)) _ _ (bytesOf s) (bytesOf_length s).symm ?s1 ?s2).mono ?_); (case s1 => exact Kd.C_of_reads (d := (0 : Int)) (h1 := fun _ => rfl) (bytes_reads _ _ s (by omega))); (case s2 => have := HLY.out; rw [List.length_append, bytesOf_length]; simp only [List.length_singleton]; omega); rintro e w67 ⟨rfl, hs4⟩; clear HS1; have HS1 := Aside0.mk hs4; clear hs4))
          go_roundw
          case rel => exact ⟨j + 1, yj ++ lab s, rj, by omega, by go_num, ⟨by rw [← HLS.out]; exact HS1.out⟩, ⟨HPL.out⟩, ⟨by have := HRL.out; rw [← HLS.out, HLN.out]; omega⟩, ⟨HE.out⟩, ⟨by have := HYJ.out; rw [← HLS.out, HLN.out]; omega⟩⟩
          case measure => simp [intOf] <;> omega
    · have he : l.drop j = [] := List.drop_eq_nil_of_le (by omega)
      have e := HRJ.out
      rw [he, nameR] at e
      have HE := Aside0.mk e
      clear he e
      go_wp2_with (go_at_call 28; (with_reducible refine (rst_Num (by first | (with_reducible exact HS.out) | ((with_reducible repeat (first | apply RSt.alloc | apply RSt.drewN | apply RSt.drew)); exact HS.out)) _ _ (by omega) HLY.out).mono ?_); rintro e w69 ⟨rfl, hs3⟩; rw [numB_one _ (by omega) (by omega)] at hs3; have HS1 := Aside0.mk hs3; clear hs3)
      go_end0
      rw [← HE.out]
      obtain ⟨G2, q1, q2, q3⟩ := HS1.out
      exact ⟨rfl, G2, ⟨rj, q1, rfl, HPL.out, by have := HRL.out; rw [List.length_append]; omega⟩, q2, q3⟩
end Go.Proofs.Ytahnncccdlblgaa.G
