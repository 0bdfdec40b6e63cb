/- The Writer's Name: which bytes it writes, and which places it keeps. Conditions: a sound name, not too many bytes. -/
import Derived.Test.YtahnncccdlblgaaNames
import Derived.Below
import Derived.Deep.Draws
import Derived.Deep.AppendLies
import Derived.Maps.AppendAt
import Derived.OwnWalk
import Derived.Laws.BytesArg
import Derived.Laws.MakeOwn
import Derived.Laws.OwnMore
import Derived.Deep.OwnRows
import Derived.Tactics
import Derived.Lib.ConvBytes
import Derived.Laws.Slices
import Derived.WalkKit
import Derived.KernelRfl
import Derived.RowKit3
import Derived.Deep.LoopGhost
import Derived.Deep.QuietTactic
import Derived.BigQuiet
import Derived.WideLaws
import Derived.Deep.DeepCutAuto
import Derived.Deep.CutBlock
import Derived.Deep.RegionHeld3
import Derived.Laws.Rows
import Derived.Lib.AppendStr
import Derived.ArgAppend
import Derived.Laws.IdiomCopy
import Derived.OrdersHeld
import Derived.Laws.BitsLemmas
import Derived.RowKit
namespace Go.Proofs.Ytahnncccdlblgaa.G
open Go.RowKit Go.Proofs.YtahnncccdlblgaaW.PrintWords Go.Proofs.YtahnncccdlblgaaW.PrintLast Go.Proofs.YtahnncccdlblgaaW.PrintMore Go.Proofs.Ytahnncccdlblgaa.Plain
attribute [local go_sem] max2_int min2_int max_two min_two max_three min_three max_four min_four
set_option linter.unusedVariables false
set_option linter.unusedSimpArgs false
open Go.Maps (Keyed string_keyed)
theorem zeroInt (w : World) : (zeroValue 3).run Try.prog w = .ok (.int .i64 0) w := by kernel_rfl
/-- The Writer in the midst of what a call does: F: its blocks when the call began. -/
def St (w : World) (base : Nat) (F : Nat → Prop) (g : Nat) (ys : List Int) (n : Nat) (D : DataW Unit) (wr : World) : Prop := ∃ F1, Wr wr base F1 g ys n D ∧ Upd w wr F ∧ ∀ k, F1 k → F k ∨ w.heap.size ≤ k
section
variable {w : World} {base : Nat} {F : Nat → Prop} {g : Nat} {ys : List Int} {n : Nat} {D : DataW Unit} {wr : World}
theorem St.start (h : Wr w base F g ys n D) : St w base F g ys n D w := ⟨F, h, Upd.refl _ _, fun _ hk => .inl hk⟩
theorem St.after {w' : World} {ys' : List Int} {n' : Nat} {D' : DataW Unit} {F1 F2 : Nat → Prop} (hu : Upd w wr F) (hs : ∀ k, F1 k → F k ∨ w.heap.size ≤ k) (h2 : Wr w' base F2 g ys' n' D') (hu2 : Upd wr w' F1) (hs2 : ∀ k, F2 k → F1 k ∨ wr.heap.size ≤ k) : St w base F g ys' n' D' w' :=
  ⟨F2, h2, hu.trans hu2 hs, fun k hk => (hs2 k hk).elim (hs k) (fun hge => .inr (Nat.le_trans hu.size hge))⟩
theorem St.below {w' : World} (h : St w base F g ys n D wr) (hb : Below wr.heap.size wr w') : St w base F g ys n D w' := by
  obtain ⟨F1, h1, h2, h3⟩ := h
  exact ⟨F1, h1.below hb, h2.trans (Upd.of_below hb F) (fun _ h => .inl h), h3⟩
theorem St.alloc (h : St w base F g ys n D wr) (o : Obj) : St w base F g ys n D (wr.alloc o) := h.below (below_alloc (Below.refl _ _) o)
theorem St.drew (h : St w base F g ys n D wr) : St w base F g ys n D wr.drew := h.below (below_drew (Below.refl _ _))
theorem St.drewN (h : St w base F g ys n D wr) (m : Nat) : St w base F g ys n D (wr.drewN m) := h.below (pw_below_drewN (Below.refl _ _) m)
theorem St.upd (h : St w base F g ys n D wr) : Upd w wr F := by
  obtain ⟨F1, h1, h2, h3⟩ := h
  exact h2
theorem St.cells (h : St w base F g ys n D wr) : ∃ (b : Nat) (A : Option Addr) (c : Nat), wr.cell? ⟨g, 0, none⟩ = some (.slice A ys.length c) ∧ wr.cell? ⟨g, 1, none⟩ = some (.map (some b)) ∧ wr.ownsMap Try.prog 9 (plainElem Try.prog 3) b n D ∧
    ∀ w' n' D', w'.ownsMap Try.prog 9 (plainElem Try.prog 3) b n' D' → wr.grownBy w' (some b) → St w base F g ys n' D' w' := by
  obtain ⟨F1, ⟨b, A, c, h1, h2, h3, h4, h5, h6⟩, hu, hs⟩ := h
  refine ⟨b, A, c, (blk_cell h1 0).trans rfl, (blk_cell h1 1).trans rfl, h3, fun w' n' D' hm hg => ?_⟩
  have hne := map_ne h3 h1
  have hne2 := map_own_ne h3 h2
  exact St.after hu hs ⟨b, A, c, blk_grown h1 hg (fun e => hne (by injection e with e; exact e.symm)), Kd.R_mono (Kd.R_grown (Kd.R_mono (ok' := fun k => F1 k ∧ k ≠ b) (Kd.R_bound h2) (fun k hk => ⟨hk.1, fun e => by obtain ⟨_, _, _, q, _, cells, hc⟩ := hk; exact map_ne h3 hc e.symm⟩)) hg (fun k hk e => hk.2 (by injection e))) (fun k hk => hk.1), hm, h4, h5, fun k hk => ⟨(h6 k hk).1, Nat.lt_of_lt_of_le (h6 k hk).2 hg.size⟩⟩ (Upd.of_grown hg (fun k hk => by injection hk with hk; exact hk ▸ h5)) (fun k hk => .inl hk)
theorem st_Num (h : St w base F g ys n D wr) (x s : Int) (hl : ys.length < 140737488355000) :
    Calls Try.prog 27 #[.pointer (some ⟨g, 0, none⟩), .int .i64 x, .int .i64 s] wr fun e w' => e = .returned (.tuple #[]) ∧ St w base F g (ys ++ numB x s) n D w' := by
  obtain ⟨F1, h1, h2, h3⟩ := h
  refine (wname_Num base g F1 ys n D x s wr h1 hl).mono ?_
  rintro e w' ⟨rfl, F2, q1, q2, q3⟩
  exact ⟨rfl, St.after h2 h3 q1 q2 q3⟩
theorem st_Raw (h : St w base F g ys n D wr) (B : Option Addr) (cb : Nat) (zs : List Int) {m : Nat} (hm : m = zs.length) (hz : Kd.C (Kd.int .u8) wr B m zs) (hl : ys.length + zs.length < 140737488355328) :
    Calls Try.prog 25 #[.pointer (some ⟨g, 0, none⟩), .slice B m cb] wr fun e w' => e = .returned (.tuple #[]) ∧ St w base F g (ys ++ zs) n D w' := by
  subst hm
  obtain ⟨F1, h1, h2, h3⟩ := h
  refine (wname_Raw base g F1 ys n D B cb zs wr h1 hz hl).mono ?_
  rintro e w' ⟨rfl, F2, q1, q2, q3⟩
  exact ⟨rfl, St.after h2 h3 q1 q2 q3⟩
end
/-- The Writer holds ys, and keeps the places m. -/
def WN (w : World) (base : Nat) (F : Nat → Prop) (g : Nat) (ys : List Int) (m : PMap) : Prop := ∃ n D, Wr w base F g ys n D ∧ n ≤ ys.length ∧ Rep D m ∧ ∀ l p, m l = some p → 0 ≤ p ∧ p < 16384
/-- The same in the midst of a call. -/
def SN (w : World) (base : Nat) (F : Nat → Prop) (g : Nat) (ys : List Int) (m : PMap) (wr : World) : Prop := ∃ n D, St w base F g ys n D wr ∧ n ≤ ys.length ∧ Rep D m ∧ ∀ l p, m l = some p → 0 ≤ p ∧ p < 16384
theorem SN.done {w : World} {base : Nat} {F : Nat → Prop} {g : Nat} {ys : List Int} {m : PMap} {wr : World} (h : SN w base F g ys m wr) : ∃ F', WN wr base F' g ys m ∧ Upd w wr F ∧ ∀ k, F' k → F k ∨ w.heap.size ≤ k := by
  obtain ⟨n, D, ⟨F1, h1, h2, h3⟩, hn, hr, hp⟩ := h
  exact ⟨F1, ⟨n, D, h1, hn, hr, hp⟩, h2, h3⟩
theorem map_step {P : Program} {ops : Array Oper} {Q : Exit → Act → World → Prop} {oi : Oper} {a : Act} {w w1 : World} {K : Act → World → Prop} (hw : Region.wanted oi (yielded ops a.tmps) = true) (hN : oi.dst = none) (m x v : Operand) (t : TypeId)
    (ho : oi.op = .mapUpdate t m x v) {vm key val : Value} (hm : a.eval m = vm) (hx : a.eval x = key) (hv : a.eval v = val) (hrun : (Instr.mapUpdate t vm key val).run P w = .ok () w1)
    (h : K a w1) : if Region.wanted oi (yielded ops a.tmps) = true then Oper.wp P oi a w K Q else K (a.put none undef) w := by
  refine skip_ hw hN ?_ h
  unfold execOp
  simp [ho, hm, hx, hv, hrun, Result.andThen]
set_option maxRecDepth 100000 in
set_option maxHeartbeats 2000000 in
theorem wname_Name (base g : Nat) (F : Nat → Prop) (ys : List Int) (m : PMap) (short : Bool) (A : Option Addr) (c : Nat) (l : List ByteArray) (w : World) (h : WN w base F g ys m) (hC : ∀ w', Upd w w' F → Kd.C Kd.string w' A l.length l) (hc : l.length ≤ c)
    (hs : soundB l = true) (hl : ys.length ≤ 1000000000) :
    Calls Try.prog 29 #[.pointer (some ⟨g, 0, none⟩), .slice A l.length c, .bool short] w fun e w' => e = .returned (.int .i64 0) ∧ ∃ F', WN w' base F' g (nameR short l ys m).1 (nameR short l ys m).2 ∧ Upd w w' F ∧ ∀ k, F' k → F k ∨ w.heap.size ≤ k := by
  obtain ⟨hl255, hlab, hrest⟩ := sound_iff.1 hs
  have HSO := Aside0.mk hs
  have HC := Aside0.mk hC
  have HLAB := Aside0.mk hlab
  have HRL := Aside0.mk hrest
  have HZ := Aside0.mk (fun (s : ByteArray) (hsm : s ∈ l) => show s.size ≤ 9223372036854775807 by have := hlab s hsm; omega)
  have HL := Aside0.mk hl
  obtain ⟨R, hR⟩ : ∃ R, nameR short l ys m = R := ⟨_, rfl⟩
  rw [hR]
  have HR := Aside0.mk hR
  have HC0 := Aside0.mk (hC w (Upd.refl _ _))
  have H := Aside0.mk h
  have HCC := Aside0.mk hc
  obtain ⟨iS, hiS, _, hszS, _⟩ : ∃ i, Try.prog.info? 9 = some i ∧ True ∧ i.size = 1 ∧ True := by
    obtain ⟨i, hi, hz⟩ := Option.map_eq_some_iff.1 (show (Try.prog.info? 9).map (·.size) = some 1 by kernel_rfl)
    exact ⟨i, hi, trivial, hz, trivial⟩
  have HIS := Aside0.mk hiS
  have HSZ := Aside0.mk hszS
  clear hlab hrest hs hC hl hR h hc hiS hszS
  go_enter Try.func29, Try.ntmps29
  go_wp2_with (go_at_call 45; (with_reducible refine (name_Sound A c l _ HC0.out HZ.out).mono ?_); rintro e w' ⟨rfl, rfl⟩; rw [HSO.out])
  go_loopw [21] (fun i wr => ∃ (j : Nat) (yj : List Int) (mj : PMap), j ≤ l.length ∧ i = .int .i64 j ∧ Aside0 (SN w base F g yj mj wr) ∧ Aside0 (nameR short (l.drop j) yj mj = R) ∧ Aside0 (yj.length ≤ ys.length + 64 * j)) (fun i _ => l.length - (intOf i).toNat)
  case atStart =>
    obtain ⟨n, D, hW, hn, hRep, hp⟩ := H.out
    exact ⟨0, ys, m, Nat.zero_le _, rfl, ⟨n, D, St.start hW, hn, hRep, hp⟩, ⟨HR.out⟩, ⟨by omega⟩⟩
  case round =>
    obtain ⟨j, yj, mj, hj, rfl, HSN, HRJ, HYJ⟩ := hrel
    obtain ⟨n, D, hS, hn, hRep, hp⟩ := HSN.out
    have HS := Aside0.mk hS
    have HLY := Aside0.mk (show yj.length < 140737488355000 by have := HYJ.out; have := HL.out; omega)
    have HN := Aside0.mk hn
    have HREP := Aside0.mk hRep
    have HP := Aside0.mk hp
    clear hn hRep hp HSN
    by_cases hlt : j < l.length
    · have hcr := HC.out wr hS.upd
      obtain ⟨ad, rfl, hx⟩ := Kd.at_string hcr (j : Int) (by omega) (by omega)
      simp only [Int.toNat_natCast] at hx
      have hcut := cut_from (P := Try.prog) 34 9 .i64 Try.underlying34 HIS.out 1 HSZ.out (some ad) l.length c (j : Int) (by omega) (by omega)
      have hcq := Kd.C_drop (m := j) (c := c) hcr (by omega) HCC.out
      simp only [Int.toNat_natCast] at hcut
      have hdl : (l.drop j).length = l.length - j := List.length_drop
      have hdc : l.drop j = rdOf ByteArray.empty l (j : Int) :: l.drop (j + 1) := by
        rw [List.drop_eq_getElem_cons hlt]
        simp [rdOf, List.getD_eq_getElem?_getD, hlt]
      have hsl := HLAB.out _ (rdOf_mem hlt)
      have hlq : labOk (l.drop j) := fun s hs => HLAB.out s (List.mem_of_mem_drop hs)
      have hrl : (restL (l.drop j)).length ≤ 254 := by
        have := HRL.out
        rw [← List.take_append_drop j l, restL_append, List.length_append] at this
        omega
      obtain ⟨A', hA'⟩ : ∃ A', A' = (if c = j then some ad else (some ad).map (·.add (j * 1))) := ⟨_, rfl⟩
      rw [← hA', ← hdl] at hcut
      obtain ⟨q, hq⟩ : ∃ q, l.drop j = q := ⟨_, rfl⟩
      have hHRJ := HRJ.out
      rw [hq] at hcut hcq hdc hlq hrl hHRJ
      obtain ⟨s, hse⟩ : ∃ s, rdOf ByteArray.empty l (j : Int) = s := ⟨_, rfl⟩
      rw [hse] at hx hdc hsl
      have HCQ := Aside0.mk (show Kd.C Kd.string wr A' q.length q from by rw [hA']; exact hcq)
      have HQC := Aside0.mk hdc
      have HQL := Aside0.mk hrl
      have HKEY := Aside0.mk (show keyOf Try.prog 9 (.string (strOfNums (restL q))) = some (.string (keyL q)) from WideMaps.keyOf_string_mk Try.underlying9 (by rw [strOfNums_size]; simp only [maxLen]; omega))
      have hrq := HREP.out q hlq
      have HLQ := Aside0.mk hlq
      have HHIT0 := Aside0.mk hrq.1
      have HATK := Aside0.mk hrq.2
      have HRQ := Aside0.mk hHRJ
      have kb := fun W => print_bytes (P := Try.prog) 9 24 5 Try.underlying9 Try.underlying24 Try.underlying5 s W
      clear hcr hcq hdl hdc hlq hrl hA' hq hse hrq hHRJ hS HRJ
      obtain ⟨o, ho⟩ : ∃ o, mj q = o := ⟨_, rfl⟩
      have HO := Aside0.mk ho
      cases o with
      | some p =>
        have HHIT := Aside0.mk (show Maps.has D (.string (keyL q)) = true by rw [HHIT0.out, ho]; rfl)
        have hp := HP.out q p ho
        have HPV := Aside0.mk (HATK.out p ho)
        have hor := or_pointer p hp.1 hp.2
        clear ho
        cases short with
        | true =>
          go_wp2_with (first | (go_at_call 46; (with_reducible refine (wname_rest _ _ q _ ?s1 ?s2).mono ?_); (case s1 => exact HCQ.out); (case s2 => have := HQL.out; omega); rintro e w1 ⟨rfl, hb⟩; have HS1 := Aside0.mk (St.below HS.out hb); obtain ⟨b, A1, c1, hc0, hc1, hown, hmap⟩ := HS1.out.cells; have HMAP := Aside0.mk hmap; have HOWN := Aside0.mk hown; clear hb hmap hown) | (at_lookup; refine wpList_lookup_own_ok_int _ rfl _ _ 80 rfl 9 3 .i64 (string_keyed Try.underlying9) Try.underlying80 Try.underlying3 (zeroInt _) b n D rfl HOWN.out _ _ rfl HKEY.out ?_; intro cL hat hwc; rw [HHIT.out]; obtain rfl : p = cL := (by have h := HPV.out.symm.trans hat; simpa using h); clear hat hwc) | (go_at_call 27; (with_reducible refine (st_Num (by first | (with_reducible exact HS1.out) | ((with_reducible repeat (first | apply St.alloc | apply St.drewN | apply St.drew)); exact HS1.out)) _ _ HLY.out).mono ?_); rintro e w3 ⟨rfl, hs3⟩; rw [numB_two _ hp.1 hp.2] at hs3; clear HS1; have HS1 := Aside0.mk hs3; clear hs3))
          go_ret
          have e := HRQ.out
          rw [HQC.out, nameR] at e
          rw [← HQC.out, HO.out] at e
          simp only [if_true] at e
          rw [← e]
          exact ⟨rfl, SN.done ⟨n, D, HS1.out, by have := HN.out; rw [List.length_append]; omega, HREP.out, HP.out⟩⟩
        | false =>
          go_wp2_with (first | (go_at_call 46; (with_reducible refine (wname_rest _ _ q _ ?s1 ?s2).mono ?_); (case s1 => exact HCQ.out); (case s2 => have := HQL.out; omega); rintro e w1 ⟨rfl, hb⟩; have HS1 := Aside0.mk (St.below HS.out hb); obtain ⟨b, A1, c1, hc0, hc1, hown, hmap⟩ := HS1.out.cells; have HMAP := Aside0.mk hmap; have HOWN := Aside0.mk hown; clear hb hmap hown) | (at_lookup; refine wpList_lookup_own_ok_int _ rfl _ _ 80 rfl 9 3 .i64 (string_keyed Try.underlying9) Try.underlying80 Try.underlying3 (zeroInt _) b n D rfl HOWN.out _ _ rfl HKEY.out ?_; intro cL hat hwc; rw [HHIT.out]; obtain rfl : p = cL := (by have h := HPV.out.symm.trans hat; simpa using h); clear hat hwc) | (go_at_call 27; (with_reducible refine (st_Num (by first | (with_reducible exact HS1.out) | ((with_reducible repeat (first | apply St.alloc | apply St.drewN | apply St.drew)); exact HS1.out)) _ _ HLY.out).mono ?_); rintro e w3 ⟨rfl, hs3⟩; rw [numB_one _ (by omega) (by omega)] at hs3; clear HS1; have HS1 := Aside0.mk hs3; clear hs3) | (go_at_call 25; (with_reducible refine (st_Raw (m := s.size) (HS1.out.below (bytes_below (Below.refl _ _) (Nat.le_refl _) _ _)) _ _ (bytesOf s) (bytesOf_length s).symm ?s1 ?s2).mono ?_); (case s1 => exact Kd.C_of_reads (d := (0 : Int)) (h1 := fun _ => rfl) (bytes_reads _ _ s (by omega))); (case s2 => have := HLY.out; rw [List.length_append, bytesOf_length]; simp only [List.length_singleton]; omega); rintro e w4 ⟨rfl, hs4⟩; clear HS1; have HS1 := Aside0.mk hs4; clear hs4))
          have e := HRQ.out
          rw [HQC.out, nameR] at e
          rw [← HQC.out, HO.out] at e
          simp only [Bool.false_eq_true, if_false] at e
          have HE := Aside0.mk e
          have hlen : (yj ++ [(s.size : Int)] ++ bytesOf s).length = yj.length + 1 + s.size := by simp [bytesOf_length]; omega
          have hls : yj ++ [(s.size : Int)] ++ bytesOf s = yj ++ lab s := by rw [lab, show (s.size : Int) % 256 = s.size by omega]; simp
          have HLN := Aside0.mk hlen
          have HLS := Aside0.mk hls
          clear e hlen hls
          go_roundw
          case rel => exact ⟨j + 1, yj ++ lab s, mj, by omega, by go_num, ⟨n, D, by rw [← HLS.out]; exact HS1.out, by have := HN.out; rw [← HLS.out, HLN.out]; omega, HREP.out, HP.out⟩, ⟨HE.out⟩, ⟨by have := HYJ.out; rw [← HLS.out, HLN.out]; omega⟩⟩
          case measure => simp [intOf]; omega
      | none =>
        have HHIT := Aside0.mk (show Maps.has D (.string (keyL q)) = false by rw [HHIT0.out, ho]; rfl)
        have e := HRQ.out
        rw [HQC.out, nameR] at e
        rw [← HQC.out, HO.out] at e
        simp only at e
        have hlen : (yj ++ [(s.size : Int)] ++ bytesOf s).length = yj.length + 1 + s.size := by simp [bytesOf_length]; omega
        have hls : yj ++ [(s.size : Int)] ++ bytesOf s = yj ++ lab s := by rw [lab, show (s.size : Int) % 256 = s.size by omega]; simp
        have HLN := Aside0.mk hlen
        have HLS := Aside0.mk hls
        clear ho hlen hls
        by_cases hy : yj.length < 16384
        · rw [if_pos hy] at e
          have HE := Aside0.mk e
          have HYL := Aside0.mk hy
          have k1 := decide_eq_true hy
          have k2 : decide ((yj.length : Int) < 16384) = true := decide_eq_true (by omega)
          clear e hy
          go_upto_region 14 with (first | (go_at_call 46; (with_reducible refine (wname_rest _ _ q _ ?s1 ?s2).mono ?_); (case s1 => exact HCQ.out); (case s2 => have := HQL.out; omega); rintro e w1 ⟨rfl, hb⟩; have HS1 := Aside0.mk (St.below HS.out hb); obtain ⟨b, A1, c1, hc0, hc1, hown, hmap⟩ := HS1.out.cells; have HMAP := Aside0.mk hmap; have HOWN := Aside0.mk hown; clear hb hmap hown) | (at_lookup; refine wpList_lookup_own_ok_int _ rfl _ _ 80 rfl 9 3 .i64 (string_keyed Try.underlying9) Try.underlying80 Try.underlying3 (zeroInt _) b n D rfl HOWN.out _ _ rfl HKEY.out ?_; intro cL hat hwc; rw [HHIT.out]; clear hat hwc))
          refine start_ (n := 11) (S := fun w' => w'.cell? ⟨g, 0, none⟩ = some (.slice A1 yj.length c1) ∧ w'.cell? ⟨g, 1, none⟩ = some (.map (some b))) (ds := [10]) #[false, false, false, false, false, false, false, false, false, false, false] (by kernel_rfl) rfl rfl ⟨hc0, hc1⟩ (fun hHeld => ?_)
          refine pure_ (i := 0) (N := some 57) (v := ?_) (a' := ?_) #[true, false, false, false, false, false, false, false, false, false, false] rfl rfl (by kernel_rfl) (fun _ _ _ h => h) (Or.inl ⟨by rfl, ?hy1⟩) ?ha1 ?_; (case hy1 => (intro w'; go_simp; with_reducible rfl)); (case ha1 => (simp only [Act.put, List.setIfInBounds_toArray, List.set_cons_zero, List.set_cons_succ, i64_w, i32_w]; rfl))
          refine pure_ (i := 1) (N := some 58) (v := ?_) (a' := ?_) #[true, true, false, false, false, false, false, false, false, false, false] rfl rfl (by kernel_rfl) (fun _ _ _ h => h) (Or.inl ⟨by rfl, ?hy2⟩) ?ha2 ?_; (case hy2 => (intro w'; go_simp; with_reducible rfl)); (case ha2 => (simp only [Act.put, List.setIfInBounds_toArray, List.set_cons_zero, List.set_cons_succ, i64_w, i32_w]; rfl))
          refine pure_ (i := 2) (N := some 59) (v := ?_) (a' := ?_) #[true, true, true, false, false, false, false, false, false, false, false] rfl rfl (by kernel_rfl) (fun _ _ _ h => h) (Or.inl ⟨by rfl, ?hy3⟩) ?ha3 ?_; (case hy3 => (intro w'; go_simp; with_reducible rfl)); (case ha3 => (simp only [Act.put, List.setIfInBounds_toArray, List.set_cons_zero, List.set_cons_succ, i64_w, i32_w]; rfl))
          refine take_ (i := 3) (N := some 60) (v := ?_) (a' := ?_) #[true, true, true, true, false, false, false, false, false, false, false] rfl rfl (by kernel_rfl) (fun _ _ _ h => h) (Or.inl ⟨by rfl, ?hy4⟩) hHeld ?ha4 ?_; (case hy4 => (rintro w' ⟨s0,_s1⟩; go_simp; with_reducible rfl)); (case ha4 => (simp only [Act.put, List.setIfInBounds_toArray, List.set_cons_zero, List.set_cons_succ, i64_w, i32_w]; rfl))
          refine pure_ (i := 4) (N := some 61) (v := ?_) (a' := ?_) #[true, true, true, true, true, false, false, false, false, false, false] rfl rfl (by kernel_rfl) (fun _ _ _ h => h) (Or.inl ⟨by rfl, ?hy5⟩) ?ha5 ?_; (case hy5 => (intro w'; go_simp; with_reducible rfl)); (case ha5 => (simp only [Act.put, List.setIfInBounds_toArray, List.set_cons_zero, List.set_cons_succ, i64_w, i32_w]; rfl))
          refine pure_ (i := 5) (N := some 62) (v := ?_) (a' := ?_) #[true, true, true, true, true, true, false, false, false, false, false] rfl rfl (by kernel_rfl) (fun _ _ _ h => h) (Or.inl ⟨by rfl, ?hy6⟩) ?ha6 ?_; (case hy6 => (intro w'; go_simp; with_reducible rfl)); (case ha6 => (simp only [Act.put, List.setIfInBounds_toArray, List.set_cons_zero, List.set_cons_succ, i64_w, i32_w]; rfl))
          refine pure_ (i := 6) (N := some 63) (v := ?_) (a' := ?_) #[true, true, true, true, true, true, true, false, false, false, false] rfl rfl (by kernel_rfl) (fun _ _ _ h => h) (Or.inl ⟨by rfl, ?hy7⟩) ?ha7 ?_; (case hy7 => (intro w'; go_simp; with_reducible rfl)); (case ha7 => (simp only [Act.put, List.setIfInBounds_toArray, List.set_cons_zero, List.set_cons_succ, i64_w, i32_w]; rfl))
          refine pure_ (i := 7) (N := some 64) (v := ?_) (a' := ?_) #[true, true, true, true, true, true, true, true, false, false, false] rfl rfl (by kernel_rfl) (fun _ _ _ h => h) (Or.inl ⟨by rfl, ?hy8⟩) ?ha8 ?_; (case hy8 => (intro w'; go_simp; with_reducible rfl)); (case ha8 => (simp only [Act.put, List.setIfInBounds_toArray, List.set_cons_zero, List.set_cons_succ, i64_w, i32_w]; rfl))
          refine take_ (i := 8) (N := some 65) (v := ?_) (a' := ?_) #[true, true, true, true, true, true, true, true, true, false, false] rfl rfl (by kernel_rfl) (fun _ _ _ h => h) (Or.inl ⟨by rfl, ?hy9⟩) hHeld ?ha9 ?_; (case hy9 => (rintro w' ⟨s0,_s1⟩; go_simp; with_reducible rfl)); (case ha9 => (simp only [Act.put, List.setIfInBounds_toArray, List.set_cons_zero, List.set_cons_succ, i64_w, i32_w]; rfl))
          refine pure_ (i := 9) (N := some 66) (v := ?_) (a' := ?_) #[true, true, true, true, true, true, true, true, true, true, false] rfl rfl (by kernel_rfl) (fun _ _ _ h => h) (Or.inl ⟨by rfl, ?hy10⟩) ?ha10 ?_; (case hy10 => (intro w'; go_simp; with_reducible rfl)); (case ha10 => (simp only [Act.put, List.setIfInBounds_toArray, List.set_cons_zero, List.set_cons_succ, i64_w, i32_w]; rfl))
          have hown2 : w1.drew.ownsMap Try.prog 9 (plainElem Try.prog 3) b n D := HOWN.out.drew
          obtain ⟨w2, hrun, hown3, hg3⟩ := hown2.update (string_keyed Try.underlying9) Try.underlying80 (show n < maxLen by have := HN.out; have := HYL.out; simp only [maxLen]; omega) HKEY.out (plainElem_int Try.underlying3 (a := (yj.length : Int)) (by have := HYL.out; simp [Lit.wf, IntKind.min, IntKind.max, IntKind.signed, IntKind.bits]; omega))
          have HS2 := Aside0.mk (HMAP.out w2 (n + 1) _ hown3 ⟨hg3.os, hg3.tape, hg3.output, hg3.size, hg3.block⟩)
          have HIM := Aside0.mk HOWN.out.isMap
          clear hown2 hown3 hg3 HS1 HMAP HOWN hc0 hc1
          refine last_ (i := 10) (N := none) #[true, true, true, true, true, true, true, true, true, true, true] rfl rfl (by kernel_rfl) (by decide) (fun K hK => ?_)
          refine map_step (by rfl) rfl (.tmp 60) (.tmp 61) (.tmp 66) 80 rfl rfl rfl rfl hrun ?_
          refine hK.out _ _ ?_
          clear hK K hrun
          have HS1 := HS2
          clear HS2
          refine done_ (by kernel_rfl) ?_
          go_wp2_with (first | (go_at_call 27; (with_reducible refine (st_Num (by first | (with_reducible exact HS1.out) | ((with_reducible repeat (first | apply St.alloc | apply St.drewN | apply St.drew)); exact HS1.out)) _ _ HLY.out).mono ?_); rintro e w3 ⟨rfl, hs3⟩; rw [numB_one _ (by omega) (by omega)] at hs3; clear HS1; have HS1 := Aside0.mk hs3; clear hs3) | (go_at_call 25; (with_reducible refine (st_Raw (m := s.size) (HS1.out.below (bytes_below (Below.refl _ _) (Nat.le_refl _) _ _)) _ _ (bytesOf s) (bytesOf_length s).symm ?s1 ?s2).mono ?_); (case s1 => exact Kd.C_of_reads (d := (0 : Int)) (h1 := fun _ => rfl) (bytes_reads _ _ s (by omega))); (case s2 => have := HLY.out; rw [List.length_append, bytesOf_length]; simp only [List.length_singleton]; omega); rintro e w4 ⟨rfl, hs4⟩; clear HS1; have HS1 := Aside0.mk hs4; clear hs4))
          go_roundw
          case rel => exact ⟨j + 1, yj ++ lab s, updM mj q yj.length, by omega, by go_num, ⟨n + 1, _, by rw [← HLS.out]; exact HS1.out, by have := HN.out; rw [← HLS.out, HLN.out]; omega, rep_put HREP.out HIM.out HLQ.out _, fun x p hx => by
            unfold updM at hx
            split at hx
            · injection hx with hx; have := HYL.out; omega
            · exact HP.out x p hx⟩, ⟨HE.out⟩, ⟨by have := HYJ.out; rw [← HLS.out, HLN.out]; omega⟩⟩
          case measure => simp [intOf]; omega
        · rw [if_neg hy] at e
          have HE := Aside0.mk e
          have k1 := decide_eq_false hy
          have k2 : decide ((yj.length : Int) < 16384) = false := decide_eq_false (by omega)
          clear e hy
          go_wp2_with (first | (go_at_call 46; (with_reducible refine (wname_rest _ _ q _ ?s1 ?s2).mono ?_); (case s1 => exact HCQ.out); (case s2 => have := HQL.out; omega); rintro e w1 ⟨rfl, hb⟩; have HS1 := Aside0.mk (St.below HS.out hb); obtain ⟨b, A1, c1, hc0, hc1, hown, hmap⟩ := HS1.out.cells; have HMAP := Aside0.mk hmap; have HOWN := Aside0.mk hown; clear hb hmap hown) | (at_lookup; refine wpList_lookup_own_ok_int _ rfl _ _ 80 rfl 9 3 .i64 (string_keyed Try.underlying9) Try.underlying80 Try.underlying3 (zeroInt _) b n D rfl HOWN.out _ _ rfl HKEY.out ?_; intro cL hat hwc; rw [HHIT.out]; clear hat hwc) | (go_at_call 27; (with_reducible refine (st_Num (by first | (with_reducible exact HS1.out) | ((with_reducible repeat (first | apply St.alloc | apply St.drewN | apply St.drew)); exact HS1.out)) _ _ HLY.out).mono ?_); rintro e w3 ⟨rfl, hs3⟩; rw [numB_one _ (by omega) (by omega)] at hs3; clear HS1; have HS1 := Aside0.mk hs3; clear hs3) | (go_at_call 25; (with_reducible refine (st_Raw (m := s.size) (HS1.out.below (bytes_below (Below.refl _ _) (Nat.le_refl _) _ _)) _ _ (bytesOf s) (bytesOf_length s).symm ?s1 ?s2).mono ?_); (case s1 => exact Kd.C_of_reads (d := (0 : Int)) (h1 := fun _ => rfl) (bytes_reads _ _ s (by omega))); (case s2 => have := HLY.out; rw [List.length_append, bytesOf_length]; simp only [List.length_singleton]; omega); rintro e w4 ⟨rfl, hs4⟩; clear HS1; have HS1 := Aside0.mk hs4; clear hs4))
          go_roundw
          case rel => exact ⟨j + 1, yj ++ lab s, mj, by omega, by go_num, ⟨n, D, by rw [← HLS.out]; exact HS1.out, by have := HN.out; rw [← HLS.out, HLN.out]; omega, HREP.out, HP.out⟩, ⟨HE.out⟩, ⟨by have := HYJ.out; rw [← HLS.out, HLN.out]; omega⟩⟩
          case measure => simp [intOf]; omega
    · have he : l.drop j = [] := List.drop_eq_nil_of_le (by omega)
      have e := HRJ.out
      rw [he, nameR] at e
      have HE := Aside0.mk e
      clear he e hS
      go_wp2_with (go_at_call 27; (with_reducible refine (st_Num (by first | (with_reducible exact HS.out) | ((with_reducible repeat (first | apply St.alloc | apply St.drewN | apply St.drew)); exact HS.out)) _ _ HLY.out).mono ?_); rintro e w3 ⟨rfl, hs3⟩; rw [numB_one _ (by omega) (by omega)] at hs3; have HS1 := Aside0.mk hs3; clear hs3)
      go_ret
      rw [← HE.out]
      exact ⟨rfl, SN.done ⟨n, D, HS1.out, by have := HN.out; rw [List.length_append]; omega, HREP.out, HP.out⟩⟩
theorem wname_Name_bad (g : Nat) (short : Bool) (A : Option Addr) (c : Nat) (l : List ByteArray) (w : World) (hC : Kd.C Kd.string w A l.length l) (hz : ∀ s ∈ l, s.size ≤ 9223372036854775807) (hs : soundB l = false) :
    Calls Try.prog 29 #[.pointer (some ⟨g, 0, none⟩), .slice A l.length c, .bool short] w fun e w' => e = .returned (.int .i64 5) ∧ w = w' := by
  have HSO := Aside0.mk hs
  have HC := Aside0.mk hC
  have HZ := Aside0.mk hz
  clear hs hC hz
  go_enter Try.func29, Try.ntmps29
  go_wp2_with (go_at_call 45; (with_reducible refine (name_Sound A c l _ HC.out HZ.out).mono ?_); rintro e w' ⟨rfl, rfl⟩; rw [HSO.out])
  go_ret
  exact ⟨rfl, rfl⟩
theorem wname_New_WN (w : World) : Calls Try.prog 23 #[] w fun e w' => e = .returned (.pointer (some ⟨w.heap.size + 1, 0, none⟩)) ∧ Below w.heap.size w w' ∧ ∃ F, WN w' w.heap.size F (w.heap.size + 1) [] (fun _ => none) ∧ ∀ k, F k → w.heap.size ≤ k := by
  refine (wname_New_Wr w).mono ?_
  rintro e w' ⟨rfl, hb, F, h, hF⟩
  exact ⟨rfl, hb, F, ⟨0, _, h, Nat.zero_le _, rep_nil, fun l p hp => by cases hp⟩, hF⟩
theorem wn_Raw (base g : Nat) (F : Nat → Prop) (ys : List Int) (m : PMap) (B : Option Addr) (cb : Nat) (zs : List Int) (w : World) (h : WN w base F g ys m) (hz : Kd.C (Kd.int .u8) w B zs.length zs) (hl : ys.length + zs.length < 140737488355328) :
    Calls Try.prog 25 #[.pointer (some ⟨g, 0, none⟩), .slice B zs.length cb] w fun e w' => e = .returned (.tuple #[]) ∧ ∃ F', WN w' base F' g (ys ++ zs) m ∧ Upd w w' F ∧ ∀ k, F' k → F k ∨ w.heap.size ≤ k := by
  obtain ⟨n, D, hW, hn, hr, hp⟩ := h
  refine (wname_Raw base g F ys n D B cb zs w hW hz hl).mono ?_
  rintro e w' ⟨rfl, F', q1, q2, q3⟩
  exact ⟨rfl, F', ⟨n, D, q1, by rw [List.length_append]; omega, hr, hp⟩, q2, q3⟩
theorem wn_Num (base g : Nat) (F : Nat → Prop) (ys : List Int) (m : PMap) (x s : Int) (w : World) (h : WN w base F g ys m) (hl : ys.length < 140737488355000) :
    Calls Try.prog 27 #[.pointer (some ⟨g, 0, none⟩), .int .i64 x, .int .i64 s] w fun e w' => e = .returned (.tuple #[]) ∧ ∃ F', WN w' base F' g (ys ++ numB x s) m ∧ Upd w w' F ∧ ∀ k, F' k → F k ∨ w.heap.size ≤ k := by
  obtain ⟨n, D, hW, hn, hr, hp⟩ := h
  refine (wname_Num base g F ys n D x s w hW hl).mono ?_
  rintro e w' ⟨rfl, F', q1, q2, q3⟩
  exact ⟨rfl, F', ⟨n, D, q1, by rw [List.length_append]; omega, hr, hp⟩, q2, q3⟩
theorem wn_Len (base g : Nat) (F : Nat → Prop) (ys : List Int) (m : PMap) (w : World) (h : WN w base F g ys m) :
    Calls Try.prog 32 #[.pointer (some ⟨g, 0, none⟩)] w fun e w' => e = .returned (.int .i64 ys.length) ∧ w = w' := by
  obtain ⟨n, D, hW, _⟩ := h
  exact wname_Len base g F ys n D w hW
theorem wn_Bytes (base g : Nat) (F : Nat → Prop) (ys : List Int) (m : PMap) (w : World) (h : WN w base F g ys m) (hl : ys.length < 140737488355328) :
    Calls Try.prog 33 #[.pointer (some ⟨g, 0, none⟩)] w fun e w' => ∃ v0_ : Value, e = .returned v0_ ∧ Kd.R (Kd.int .u8) 5 w' w.heap.size (fun _ => True) v0_ ys ∧ Below w.heap.size w w' := by
  obtain ⟨n, D, hW, _⟩ := h
  exact wname_Bytes base g F ys n D w hW hl
section
variable {w w' : World} {base g : Nat} {F G : Nat → Prop} {ys : List Int} {m : PMap}
theorem WN.upd (h : WN w base G g ys m) (hu : Upd w w' F) (hn : ∀ k, G k → ¬ F k) : WN w' base G g ys m := by
  obtain ⟨n, D, hW, r⟩ := h
  exact ⟨n, D, hW.upd hu hn, r⟩
theorem WN.below (h : WN w base G g ys m) (hb : Below w.heap.size w w') : WN w' base G g ys m := h.upd (Upd.of_below hb (fun _ => False)) (fun _ _ h => h)
theorem WN.alloc (h : WN w base G g ys m) (o : Obj) : WN (w.alloc o) base G g ys m := h.below (below_alloc (Below.refl _ _) o)
theorem WN.drew (h : WN w base G g ys m) : WN w.drew base G g ys m := h.below (below_drew (Below.refl _ _))
theorem WN.drewN (h : WN w base G g ys m) (k : Nat) : WN (w.drewN k) base G g ys m := h.below (pw_below_drewN (Below.refl _ _) k)
theorem WN.grown (h : WN w base G g ys m) {row : Option Nat} (hg : w.grownBy w' row) (hn : ∀ k, row = some k → ¬ G k) : WN w' base G g ys m := by
  obtain ⟨n, D, hW, r⟩ := h
  exact ⟨n, D, hW.grown hg hn, r⟩
theorem WN.lt (h : WN w base G g ys m) {k : Nat} (hk : w.heap.size ≤ k) : ¬ G k := by
  obtain ⟨n, D, hW, r⟩ := h
  exact hW.lt hk
theorem WN.ge (h : WN w base G g ys m) {k : Nat} (hk : G k) : base ≤ k := by
  obtain ⟨n, D, hW, r⟩ := h
  exact hW.ge hk
theorem WN.base_le (h : WN w base G g ys m) : base ≤ w.heap.size := by
  obtain ⟨n, D, hW, r⟩ := h
  exact hW.base_le
theorem WN.after (h : WN w base F g ys m) (hu : Upd w w' F) {w0 : World} (hb : Below base w0 w) : Below base w0 w' := hb.trans (hu.below (fun k hk => h.ge hk) h.base_le)
end
theorem infoS : (Try.prog.info? 9).map (fun i => (i.zero, i.size, i.bytes)) = some (some (.string ByteArray.empty), 1, 16) := by kernel_rfl
theorem lit_str {o : Oper} {a : Act} {W : World} (ho : o.op = .buildSlice 34 0 #[]) :
    (execOp a.eval o).run Try.prog W = .ok (.value (.slice (some ⟨W.heap.size, 0, none⟩) ([] : List ByteArray).length ([] : List ByteArray).length)) (W.alloc (.cells ([] : List Value).toArray 9)) := by
  obtain ⟨i8, hi8, _⟩ := info_parts infoS
  exact lit_empty _ _ ho Try.underlying34 hi8
end Go.Proofs.Ytahnncccdlblgaa.G
