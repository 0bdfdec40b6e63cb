/- Names that are written one behind the other are read as they are, short or not, wherever they stand; what is short is not longer: the walk. Conditions: none. -/
import Derived.Test.YtahnncccdlblgaaTwo
import Derived.Test.YtahnncccdlblgaaRefN
import Derived.Test.YtahnncccdlblgaaOpen
import Derived.Below
import Derived.Deep.Draws
import Derived.Deep.AppendLies
import Derived.Maps.AppendAt
import Derived.OwnWalk
import Derived.Laws.BytesArg
import Derived.Laws.MakeOwn
import Derived.Laws.OwnMore
import Derived.Deep.OwnRows
import Derived.Tactics
import Derived.Lib.ConvBytes
import Derived.Laws.Slices
import Derived.WalkKit
import Derived.KernelRfl
import Derived.RowKit3
import Derived.Deep.LoopGhost
import Derived.Deep.QuietTactic
import Derived.BigQuiet
import Derived.WideLaws
import Derived.Deep.DeepCutAuto
import Derived.Deep.CutBlock
import Derived.Deep.RegionHeld3
import Derived.Laws.Rows
import Derived.Lib.AppendStr
import Derived.ArgAppend
import Derived.Laws.IdiomCopy
import Derived.OrdersHeld
import Derived.Laws.BitsLemmas
import Derived.RowKit
namespace Go.Proofs.Ytahnncccdlblgaa.WnameBack
open Go.Proofs.Ytahnncccdlblgaa.G
open Go.RowKit Go.Proofs.YtahnncccdlblgaaW.PrintWords Go.Proofs.YtahnncccdlblgaaW.PrintLast Go.Proofs.YtahnncccdlblgaaW.PrintMore Go.Proofs.Ytahnncccdlblgaa.Plain
attribute [local go_sem] max2_int min2_int max_two min_two max_three min_three max_four min_four
set_option linter.unusedVariables false
set_option linter.unusedSimpArgs false
theorem infoI : (Try.prog.info? 3).map (fun i => (i.zero, i.size, i.bytes)) = some (some (.int .i64 0), 1, 8) := by kernel_rfl
section
variable {H : Type} {enc : TypeId × Value → H} {w : World} {base : Nat} {spare : Nat → Bool} {held : Bool}
theorem opens_bytes : Open.Opens enc Try.prog w base spare held 24 (Kd.slice 5 (Kd.int .u8)) (fun xs => xs.length * 1 ≤ 140737488351232 ∧ ∀ x ∈ xs, (Lit.int .u8 x).wf = true) :=
  Open.opens_slice Try.underlying24 (by kernel_rfl) (by kernel_rfl) (Open.opens_int Try.underlying5)
theorem opens_bools : Open.Opens enc Try.prog w base spare held 66 (Kd.slice 4 Kd.bool) (fun xs => xs.length * 1 ≤ 140737488351232 ∧ ∀ x ∈ xs, True) :=
  Open.opens_slice Try.underlying66 (by kernel_rfl) (by kernel_rfl) (Open.opens_bool Try.underlying4)
theorem opens_names : Open.Opens enc Try.prog w base spare held 34 (Kd.slice 9 Kd.string) (fun xs => xs.length * 16 ≤ 140737488351232 ∧ ∀ x ∈ xs, x.size ≤ 140737488351232) :=
  Open.opens_slice Try.underlying34 (by kernel_rfl) (by kernel_rfl) (Open.opens_string Try.underlying9)
theorem opens_lists : Open.Opens enc Try.prog w base spare held 65 (Kd.slice 34 (Kd.slice 9 Kd.string)) (fun xs => xs.length * 24 ≤ 140737488351232 ∧ ∀ x ∈ xs, (x.length * 16 ≤ 140737488351232 ∧ ∀ y ∈ x, y.size ≤ 140737488351232)) :=
  Open.opens_slice Try.underlying65 (by kernel_rfl) (by kernel_rfl) opens_names
end
theorem wfu8 {n : Int} (h : (Lit.int .u8 n).wf = true) : 0 ≤ n ∧ n ≤ 255 := by
  simp [Lit.wf, IntKind.min, IntKind.max, IntKind.signed, IntKind.bits] at h; omega
/-- Both Writers are new. -/
def New2 (w : World) (v1 v2 : Value) (wc : World) : Prop := ∃ (g1 g2 : Nat) (F G : Nat → Prop), v1 = .pointer (some ⟨g1, 0, none⟩) ∧ v2 = .pointer (some ⟨g2, 0, none⟩) ∧ Aside0 (T2 w g1 g2 [] (fun _ => none) [] (fun _ => none) (.slice none 0 0) [] F G wc)
theorem new2 (w : World) {w1 w2 : World} {F G : Nat → Prop} {g1 g2 : Nat} (hb1 : Below w.heap.size w w1) (h1 : WN w1 w.heap.size F g1 [] (fun _ => none)) (hb2 : Below w1.heap.size w1 w2) (h2 : WN w2 w1.heap.size G g2 [] (fun _ => none)) (hG : ∀ k, G k → w1.heap.size ≤ k) :
    T2 w g1 g2 [] (fun _ => none) [] (fun _ => none) (.slice none 0 0) [] F G w2 :=
  ⟨below_step hb1 hb2, h1.below hb2, h2.lower hb1.size, fun k hF hG' => h1.lt (hG k hG') hF, Kd.R_nil _ _ _ _ _⟩
set_option maxRecDepth 100000 in
set_option maxHeartbeats 1000000 in
theorem large (w : World) (A0 : Option Addr) (c0 : Nat) (names : List (List ByteArray)) (A1 : Option Addr) (c1 : Nat) (l1 : List Int) (v2 : Value) (hl : 60 < names.length ∨ 20000 < l1.length) (h2 : ∃ A n c, v2 = .slice A n c) :
    Calls Try.prog 10 #[.slice A0 names.length c0, .slice A1 l1.length c1, v2] w fun e w' => e = .returned (.bool true) ∧ Below w.heap.size w w' := by
  obtain ⟨A2, n2, c2, rfl⟩ := h2
  have HB := Aside0.mk (Below.refl w.heap.size w)
  by_cases h : 60 < names.length
  · have k1 := decide_eq_true h
    have k2 : decide ((60 : Int) < names.length) = true := decide_eq_true (by omega)
    clear hl h
    go_enter Try.func10, Try.ntmps10
    go_wp2_with (first | (go_at_call 23; (with_reducible refine (wname_New_WN _).mono ?_); rintro e w1 ⟨rfl, hb, F, hw, hF⟩; have n0_ := Aside0.mk (below_step (by repeat (first | (with_reducible first | exact HB.out | apply below_alloc | apply pw_below_drewN | apply below_drew1) | exact HB.out)) hb); clear HB; have HB := n0_; clear n0_; clear hw hF hb) | (go_at_call 17; (with_reducible refine (HWnameLoops.gazetteerlaw03_answers.calls 4 true _ Pure.answers4).mono ?_); rintro e w2 ⟨rfl, hb⟩; have n0_ := Aside0.mk (below_step (by repeat (first | (with_reducible first | exact HB.out | apply below_alloc | apply pw_below_drewN | apply below_drew1) | exact HB.out)) hb); clear HB; have HB := n0_; clear n0_; clear hb))
    go_ret
    exact ⟨rfl, (by repeat (first | (with_reducible first | exact HB.out | apply below_alloc | apply pw_below_drewN | apply below_drew1) | exact HB.out))⟩
  · have k1 := decide_eq_false h
    have k2 : decide ((60 : Int) < names.length) = false := decide_eq_false (by omega)
    have h2 : 20000 < l1.length := by omega
    have k3 := decide_eq_true h2
    have k4 : decide ((20000 : Int) < l1.length) = true := decide_eq_true (by omega)
    clear hl h h2
    go_enter Try.func10, Try.ntmps10
    go_wp2_with (first | (go_at_call 23; (with_reducible refine (wname_New_WN _).mono ?_); rintro e w1 ⟨rfl, hb, F, hw, hF⟩; have n0_ := Aside0.mk (below_step (by repeat (first | (with_reducible first | exact HB.out | apply below_alloc | apply pw_below_drewN | apply below_drew1) | exact HB.out)) hb); clear HB; have HB := n0_; clear n0_; clear hw hF hb) | (go_at_call 17; (with_reducible refine (HWnameLoops.gazetteerlaw03_answers.calls 4 true _ Pure.answers4).mono ?_); rintro e w2 ⟨rfl, hb⟩; have n0_ := Aside0.mk (below_step (by repeat (first | (with_reducible first | exact HB.out | apply below_alloc | apply pw_below_drewN | apply below_drew1) | exact HB.out)) hb); clear HB; have HB := n0_; clear n0_; clear hb))
    go_ret
    exact ⟨rfl, (by repeat (first | (with_reducible first | exact HB.out | apply below_alloc | apply pw_below_drewN | apply below_drew1) | exact HB.out))⟩
/-- Behind the Raw. -/
def Ahead (w : World) (g1 g2 : Nat) (l1 : List Int) (wc : World) : Prop := ∃ (F G : Nat → Prop), Aside0 (T2 w g1 g2 l1 (fun _ => none) [] (fun _ => none) (.slice none 0 0) [] F G wc)
/-- At the head of the first loop. -/
def Loop1 (w : World) (g1 g2 : Nat) (names : List (List ByteArray)) (a : Nat) (v u : Value) (wr : World) : Prop :=
  ∃ (j : Nat) (ys zs ats : List Int) (m mz : PMap) (F G : Nat → Prop) (At : Option Addr) (ct : Nat), u = .int .i64 (j : Int) ∧ j ≤ names.length ∧ v = .slice At ats.length ct ∧ Aside0 (T2 w g1 g2 ys m zs mz (.slice At ats.length ct) ats F G wr) ∧ Aside0 (Back names a j ys m ats zs.length)
set_option maxRecDepth 100000 in
set_option maxHeartbeats 4000000 in
theorem small (w : World) (A0 : Option Addr) (c0 : Nat) (names : List (List ByteArray)) (A1 : Option Addr) (c1 : Nat) (l1 : List Int) (A2 : Option Addr) (c2 : Nat) (shorts : List Bool)
    (hC0 : Kd.C (Kd.slice 9 Kd.string) w A0 names.length names) (hc0 : names.length ≤ c0) (hC1 : Kd.C (Kd.int .u8) w A1 l1.length l1) (hb1 : bytesB l1 = true) (hC2 : Kd.C Kd.bool w A2 shorts.length shorts) (hl0 : names.length ≤ 60) (hl1 : l1.length ≤ 20000)
    (hnl : ∀ x ∈ names, x.length * 16 ≤ 140737488351232) :
    Calls Try.prog 10 #[.slice A0 names.length c0, .slice A1 l1.length c1, .slice A2 shorts.length c2] w fun e w' => e = .returned (.bool true) ∧ Below w.heap.size w w' := by
  have k1 := decide_eq_false (show ¬ 60 < names.length by omega)
  have k2 : decide ((60 : Int) < names.length) = false := decide_eq_false (by omega)
  have k3 := decide_eq_false (show ¬ 20000 < l1.length by omega)
  have k4 : decide ((20000 : Int) < l1.length) = false := decide_eq_false (by omega)
  have HC0 := Aside0.mk hC0
  have HC1 := Aside0.mk hC1
  have HC2 := Aside0.mk hC2
  have HBB := Aside0.mk hb1
  have HL0 := Aside0.mk hl0
  have HL1 := Aside0.mk hl1
  have HNL := Aside0.mk hnl
  clear hC0 hC1 hC2 hb1 hc0 hnl
  go_enter Try.func10, Try.ntmps10
  go_upto_region 1 with (fail)
  go_cut [7, 8] (fun v1 v2 wc => New2 w v1 v2 wc)
  case first =>
    go_wp2_with (first | (go_at_call 23; (with_reducible refine (wname_New_WN w).mono ?_); rintro e w1 ⟨rfl, hb, F, hw, hF⟩; have HB1 := Aside0.mk hb; have HW1 := Aside0.mk hw; clear hw hF hb) | (go_at_call 23; (with_reducible refine (wname_New_WN w1).mono ?_); rintro e w2 ⟨rfl, hb, G, hw, hG⟩; have HT := Aside0.mk (new2 w HB1.out HW1.out hb hw hG); clear hw hG hb))
    go_meet
    case rel => exact ⟨_, _, F, G, rfl, rfl, HT⟩
  case rest =>
    obtain ⟨g1, g2, F, G, rfl, rfl, HT⟩ := hcut
    obtain ⟨vt, hvt⟩ : ∃ v, Value.slice none 0 0 = v := ⟨_, rfl⟩
    rw [hvt] at HT
    have HVT := Aside0.mk hvt
    clear hvt
    go_upto_region 4 with (first | (go_at_call 17; (with_reducible refine (HWnameLoops.gazetteerlaw03_answers.calls 4 true _ Pure.answers4).mono ?_); rintro e w2 ⟨rfl, hb⟩; have n0_ := Aside0.mk (T2.below (by first | (with_reducible exact HT.out) | ((with_reducible repeat (first | apply T2.alloc | apply T2.drewN | apply T2.drew)); exact HT.out)) hb); clear HT hb; have HT := n0_; clear n0_))
    go_cut [48] (fun v wc => Ahead w g1 g2 l1 wc)
    case first =>
      go_wp2_with (first | ((with_reducible refine gate_dst (N := 45) rfl ?_); refine Kd.R_lit (w0 := w) (Kd.int .u8) w.heap.size 5 ?hg45 (N := 45) ?hd45 (xs := ([] : List Int)) (inner := []) (ok := Free F G vt) (okp := fun _ => False) ?hr45 ?hp45 (fun _ hk => hk.elim) ?hf45 ?hB45 ?hS45 (Nat.zero_le _) ?_; (case hd45 => rfl); (case hg45 => rfl); (case hr45 => exact lit_u8 rfl); (case hp45 => exact (Reps.none _ _)); (case hf45 => exact T2.free (by first | (with_reducible exact HT.out) | ((with_reducible repeat (first | apply T2.alloc | apply T2.drewN | apply T2.drew)); exact HT.out)) (Nat.le_refl _)); (case hB45 => exact T2.b (by first | (with_reducible exact HT.out) | ((with_reducible repeat (first | apply T2.alloc | apply T2.drewN | apply T2.drew)); exact HT.out))); (case hS45 => exact T2.sz (by first | (with_reducible exact HT.out) | ((with_reducible repeat (first | apply T2.alloc | apply T2.drewN | apply T2.drew)); exact HT.out))); intro v45 w45 ho hb hg3 hat; have HO := Aside0.mk ho; have n1_ := Aside0.mk (T2.grown (by first | (with_reducible exact HT.out) | ((with_reducible repeat (first | apply T2.alloc | apply T2.drewN | apply T2.drew)); exact HT.out)) hb hg3 (fun k hk => by cases hk)); clear HT; have HT := n1_; clear n1_ ho hb hg3 hat) | ((with_reducible refine gate_builtin (b := .append) (xs := #[.tmp 45, .tmp 46]) rfl ?_); at_builtin; refine Kd.R_append_rows (Kd.int .u8) (w0 := w) w.heap.size rfl (.tmp 45) (.tmp 46) 24 5 (.int .u8 0) 1 rfl Try.underlying24 infoB rfl (by decide) (by omega) v45 [] l1 _ _ _ (Free F G vt) (fun _ => False) rfl rfl ?aO45 ?aR45 (fun _ _ h => h) (fun _ h => h.elim) ?aF45 ?aB45 ?aS45 ?aL45 ?_; (case aR45 => exact Kd.C_below HC1.out (T2.b (by first | (with_reducible exact HT.out) | ((with_reducible repeat (first | apply T2.alloc | apply T2.drewN | apply T2.drew)); exact HT.out)))); (case aF45 => exact (fun k hk => T2.free (by first | (with_reducible exact HT.out) | ((with_reducible repeat (first | apply T2.alloc | apply T2.drewN | apply T2.drew)); exact HT.out)) hk)); (case aB45 => exact T2.b (by first | (with_reducible exact HT.out) | ((with_reducible repeat (first | apply T2.alloc | apply T2.drewN | apply T2.drew)); exact HT.out))); (case aO45 => exact (by first | (with_reducible exact HO.out) | ((with_reducible repeat (first | apply Kd.R_alloc | apply Kd.R_drewN | apply Kd.R_drew)); exact HO.out))); (case aS45 => exact T2.sz (by first | (with_reducible exact HT.out) | ((with_reducible repeat (first | apply T2.alloc | apply T2.drewN | apply T2.drew)); exact HT.out))); (case aL45 => have := HL1.out; simp; omega); intro v47 w47 ho hb hg hat; rw [List.nil_append] at ho; have n1_ := Aside0.mk (T2.grown (by first | (with_reducible exact HT.out) | ((with_reducible repeat (first | apply T2.alloc | apply T2.drewN | apply T2.drew)); exact HT.out)) hb hg (fun k hk => HO.out.1 k hk)); clear HO HT; have HT := n1_; have HO := Aside0.mk ho; clear n1_ ho hb hg hat; obtain ⟨A47, c47, e47⟩ := Kd.R_slice HO.out; subst e47) | (go_at_call 25; (with_reducible refine (wn_Raw _ _ F [] (fun _ => none) A47 c47 l1 _ (T2.w1 (by first | (with_reducible exact HT.out) | ((with_reducible repeat (first | apply T2.alloc | apply T2.drewN | apply T2.drew)); exact HT.out))) ?r1 ?r2).mono ?_); (case r1 => exact (Kd.R_reads' (by first | (with_reducible exact HO.out) | ((with_reducible repeat (first | apply Kd.R_alloc | apply Kd.R_drewN | apply Kd.R_drew)); exact HO.out))).2.2); (case r2 => have := HL1.out; rw [List.length_nil]; omega); rintro e w48 ⟨rfl, F48, hw, hu, hF⟩; rw [List.nil_append] at hw; have n0_ := Aside0.mk (T2.one (by first | (with_reducible exact HT.out) | ((with_reducible repeat (first | apply T2.alloc | apply T2.drewN | apply T2.drew)); exact HT.out)) hw hu hF); clear HT HO hw hu hF; have HT := n0_; clear n0_))
      go_meet
      case rel => exact ⟨F48, G, by rw [HVT.out]; exact HT⟩
    case rest =>
      clear HT HVT k1 k2 k3 k4
      obtain ⟨F, G, HT⟩ := hcut
      have hbk0 := back_nil names l1 HBB.out
      go_wp2_with (fail)
      go_loopw [9, 10] (fun v u wr => Loop1 w g1 g2 names l1.length v u wr) (fun _ u _ => names.length - (intOf u).toNat)
      case atStart => exact ⟨0, l1, [], [], _, _, F, G, none, 0, rfl, Nat.zero_le _, rfl, HT, ⟨hbk0⟩⟩
      case round =>
        clear HT hbk0
        obtain ⟨j, ys, zs, ats, m, mz, F, G, At, ct, rfl, hj, rfl, HT, HBK⟩ := hrel
        by_cases hlt : j < names.length
        · obtain ⟨ad, Al, cl, rfl, hx, hcl, hCl⟩ := at_names HC0.out j hlt
          have hmem : (names.getD j []).length * 16 ≤ 140737488351232 := HNL.out _ (by rw [List.getD_eq_getElem?_getD, List.getElem?_eq_getElem hlt]; exact List.getElem_mem hlt)
          obtain ⟨l, hle⟩ : ∃ l, names.getD j [] = l := ⟨_, rfl⟩
          rw [hle] at hx hcl hCl hmem
          have HX := Aside0.mk hx
          have HCL := Aside0.mk hCl
          have HLL := Aside0.mk hmem
          have HLC := Aside0.mk hcl
          have HLE := Aside0.mk hle
          have hxr := pw_cell_below HT.out.b hx
          clear hx hCl hmem hcl hle
          cases hsl : soundB l with
          | false =>
            have HSL := Aside0.mk hsl
            clear hsl
            go_wp2_with (go_at_call 30; (with_reducible refine (ref_Sound Al cl l _ ?s1 HLC.out).mono ?_); (case s1 => exact Kd.C_below HCL.out (T2.b (by first | (with_reducible exact HT.out) | ((with_reducible repeat (first | apply T2.alloc | apply T2.drewN | apply T2.drew)); exact HT.out)))); rintro e w' ⟨rfl, ⟨nd, rfl⟩⟩; rw [HSL.out])
            go_ret
            exact ⟨rfl, T2.b (by first | (with_reducible exact HT.out) | ((with_reducible repeat (first | apply T2.alloc | apply T2.drewN | apply T2.drew)); exact HT.out))⟩
          | true =>
            have HSL := Aside0.mk hsl
            have hbl := HBK.out
            have HYB := Aside0.mk (show ys.length ≤ 1000000000 by have := hbl.2.2.2.1; omega)
            have HZB := Aside0.mk (show zs.length ≤ 1000000000 by have := hbl.2.2.2.2.2.2.1; omega)
            have HAL := Aside0.mk (show ats.length ≤ 60 by have := hbl.2.2.1; omega)
            clear hsl hbl
            by_cases hjs : j < shorts.length
            · obtain ⟨ash, rfl, hsx⟩ := Kd.at_bool HC2.out (j : Int) (by omega) (by omega)
              rw [Int.toNat_natCast] at hsx
              obtain ⟨sh, hsh⟩ : ∃ b, rdOf false shorts (j : Int) = b := ⟨_, rfl⟩
              rw [hsh] at hsx
              have HS := Aside0.mk hsx
              have k5 := decide_eq_true hjs
              have k6 : decide ((j : Int) < shorts.length) = true := decide_eq_true (by omega)
              clear hsh hsx
              go_upto_region 11 with ((go_at_call 30; (with_reducible refine (ref_Sound Al cl l _ ?s1 HLC.out).mono ?_); (case s1 => exact Kd.C_below HCL.out (T2.b (by first | (with_reducible exact HT.out) | ((with_reducible repeat (first | apply T2.alloc | apply T2.drewN | apply T2.drew)); exact HT.out)))); rintro e w' ⟨rfl, ⟨nd, rfl⟩⟩; rw [HSL.out]))
              go_upto_region 12 with (first | (go_at_call 32; (with_reducible refine (wn_Len _ _ F ys m _ (T2.w1 (by first | (with_reducible exact HT.out) | ((with_reducible repeat (first | apply T2.alloc | apply T2.drewN | apply T2.drew)); exact HT.out)))).mono ?_); rintro e w' ⟨rfl, rfl⟩) | ((with_reducible refine gate_builtin (b := .append) (xs := #[.tmp 61, .tmp 64]) rfl ?_); at_builtin; refine Kd.R_append (Kd.int .i64) (w0 := w) w.heap.size rfl (.tmp 61) (.tmp 64) 67 3 (.int .i64 0) 8 rfl Try.underlying67 infoI rfl (by decide) (by omega) (.slice At ats.length ct) ats (ys.length : Int) [.int .i64 (ys.length : Int)] (fun k => ¬ F k ∧ ¬ G k) (fun _ => False) rfl rfl ?aP (fun _ hk => hk.elim) ?aF ?aO ?aB ?aS ?aL ?_; (case aP => exact rfl); (case aF => exact (fun k hk => ⟨(T2.free (by first | (with_reducible exact HT.out) | ((with_reducible repeat (first | apply T2.alloc | apply T2.drewN | apply T2.drew)); exact HT.out)) hk).1, (T2.free (by first | (with_reducible exact HT.out) | ((with_reducible repeat (first | apply T2.alloc | apply T2.drewN | apply T2.drew)); exact HT.out)) hk).2.1⟩)); (case aO => exact T2.r (by first | (with_reducible exact HT.out) | ((with_reducible repeat (first | apply T2.alloc | apply T2.drewN | apply T2.drew)); exact HT.out))); (case aB => exact T2.b (by first | (with_reducible exact HT.out) | ((with_reducible repeat (first | apply T2.alloc | apply T2.drewN | apply T2.drew)); exact HT.out))); (case aS => exact T2.sz (by first | (with_reducible exact HT.out) | ((with_reducible repeat (first | apply T2.alloc | apply T2.drewN | apply T2.drew)); exact HT.out))); (case aL => have := HAL.out; omega); intro v65 w65 ho hb hg _; have n1_ := Aside0.mk (T2.at (by first | (with_reducible exact HT.out) | ((with_reducible repeat (first | apply T2.alloc | apply T2.drewN | apply T2.drew)); exact HT.out)) hb hg ho); clear HT ho hb hg; have HT := n1_; clear n1_; have hxa1 := pw_cell_below (T2.b HT.out) HX.out; (try have hsa1 := pw_cell_below (T2.b HT.out) HS.out); obtain ⟨At2, ct2, e65⟩ := Kd.R_slice HT.out.r; subst e65; obtain ⟨vt, hvt⟩ : ∃ v, Value.slice At2 (ats ++ [(ys.length : Int)]).length ct2 = v := ⟨_, rfl⟩; rw [hvt] at HT; have HVT := Aside0.mk hvt; clear hvt))
              go_upto_region 13 with (first | ((with_reducible refine gate_dst (N := 67) rfl ?_); refine Kd.R_lit (w0 := w) Kd.string w.heap.size 9 ?hg67 (N := 67) ?hd67 (xs := ([] : List ByteArray)) (inner := []) (ok := Free F G vt) (okp := fun _ => False) ?hr67 ?hp67 (fun _ hk => hk.elim) ?hf67 ?hB67 ?hS67 (Nat.zero_le _) ?_; (case hd67 => rfl); (case hg67 => rfl); (case hr67 => exact lit_str rfl); (case hp67 => exact (Reps.none _ _)); (case hf67 => exact T2.free (by first | (with_reducible exact HT.out) | ((with_reducible repeat (first | apply T2.alloc | apply T2.drewN | apply T2.drew)); exact HT.out)) (Nat.le_refl _)); (case hB67 => exact T2.b (by first | (with_reducible exact HT.out) | ((with_reducible repeat (first | apply T2.alloc | apply T2.drewN | apply T2.drew)); exact HT.out))); (case hS67 => exact T2.sz (by first | (with_reducible exact HT.out) | ((with_reducible repeat (first | apply T2.alloc | apply T2.drewN | apply T2.drew)); exact HT.out))); intro v67 w67 ho hb hg3 hat; have HO := Aside0.mk ho; have n1_ := Aside0.mk (T2.grown (by first | (with_reducible exact HT.out) | ((with_reducible repeat (first | apply T2.alloc | apply T2.drewN | apply T2.drew)); exact HT.out)) hb hg3 (fun k hk => by cases hk)); clear HT; have HT := n1_; clear n1_ ho hb hg3 hat; have hx11 := pw_cell_below (T2.b HT.out) HX.out; (try have hs11 := pw_cell_below (T2.b HT.out) HS.out)) | ((with_reducible refine gate_builtin (b := .append) (xs := #[.tmp 67, .tmp 71]) rfl ?_); at_builtin; refine Kd.R_append_rows Kd.string (w0 := w) w.heap.size rfl (.tmp 67) (.tmp 71) 34 9 (.string ByteArray.empty) 16 rfl Try.underlying34 infoS rfl (by decide) (by omega) v67 [] l _ _ _ (Free F G vt) (fun _ => False) rfl rfl ?aO67 ?aR67 (fun _ _ h => h) (fun _ h => h.elim) ?aF67 ?aB67 ?aS67 ?aL67 ?_; (case aR67 => exact Kd.C_below HCL.out (T2.b (by first | (with_reducible exact HT.out) | ((with_reducible repeat (first | apply T2.alloc | apply T2.drewN | apply T2.drew)); exact HT.out)))); (case aF67 => exact (fun k hk => T2.free (by first | (with_reducible exact HT.out) | ((with_reducible repeat (first | apply T2.alloc | apply T2.drewN | apply T2.drew)); exact HT.out)) hk)); (case aB67 => exact T2.b (by first | (with_reducible exact HT.out) | ((with_reducible repeat (first | apply T2.alloc | apply T2.drewN | apply T2.drew)); exact HT.out))); (case aO67 => exact (by first | (with_reducible exact HO.out) | ((with_reducible repeat (first | apply Kd.R_alloc | apply Kd.R_drewN | apply Kd.R_drew)); exact HO.out))); (case aS67 => exact T2.sz (by first | (with_reducible exact HT.out) | ((with_reducible repeat (first | apply T2.alloc | apply T2.drewN | apply T2.drew)); exact HT.out))); (case aL67 => have := HLL.out; simp; omega); intro v72 w72 ho hb hg hat; rw [List.nil_append] at ho; have n1_ := Aside0.mk (T2.grown (by first | (with_reducible exact HT.out) | ((with_reducible repeat (first | apply T2.alloc | apply T2.drewN | apply T2.drew)); exact HT.out)) hb hg (fun k hk => HO.out.1 k hk)); clear HO HT; have HT := n1_; have HO := Aside0.mk ho; clear n1_ ho hb hg hat; have hx12 := pw_cell_below (T2.b HT.out) HX.out; (try have hs12 := pw_cell_below (T2.b HT.out) HS.out); obtain ⟨A72, c72, e72⟩ := Kd.R_slice HO.out; subst e72) | (go_at_call 29; (with_reducible refine (wname_Name w.heap.size g1 F ys m _ _ _ l _ (T2.w1 (by first | (with_reducible exact HT.out) | ((with_reducible repeat (first | apply T2.alloc | apply T2.drewN | apply T2.drew)); exact HT.out))) ?n183 ?n283 HSL.out HYB.out).mono ?_); (case n183 => exact (fun w' hu => (Kd.R_reads' (R_upd (by first | (with_reducible exact HO.out) | ((with_reducible repeat (first | apply Kd.R_alloc | apply Kd.R_drewN | apply Kd.R_drew)); exact HO.out)) hu (fun k h => And.left h))).2.2)); (case n283 => exact (Kd.R_reads' HO.out).2.1); rintro e w83 ⟨rfl, Fn, hw, hu, hF⟩; have n0_ := Aside0.mk (T2.one (by first | (with_reducible exact HT.out) | ((with_reducible repeat (first | apply T2.alloc | apply T2.drewN | apply T2.drew)); exact HT.out)) hw hu hF); clear HT HO hw hu hF; have HT := n0_; clear n0_; have hx13 := pw_cell_below (T2.b HT.out) HX.out; (try have hs13 := pw_cell_below (T2.b HT.out) HS.out)))
              go_wp2_with (first | ((with_reducible refine gate_dst (N := 85) rfl ?_); refine Kd.R_lit (w0 := w) Kd.string w.heap.size 9 ?hg85 (N := 85) ?hd85 (xs := ([] : List ByteArray)) (inner := []) (ok := Free Fn G vt) (okp := fun _ => False) ?hr85 ?hp85 (fun _ hk => hk.elim) ?hf85 ?hB85 ?hS85 (Nat.zero_le _) ?_; (case hd85 => rfl); (case hg85 => rfl); (case hr85 => exact lit_str rfl); (case hp85 => exact (Reps.none _ _)); (case hf85 => exact T2.free (by first | (with_reducible exact HT.out) | ((with_reducible repeat (first | apply T2.alloc | apply T2.drewN | apply T2.drew)); exact HT.out)) (Nat.le_refl _)); (case hB85 => exact T2.b (by first | (with_reducible exact HT.out) | ((with_reducible repeat (first | apply T2.alloc | apply T2.drewN | apply T2.drew)); exact HT.out))); (case hS85 => exact T2.sz (by first | (with_reducible exact HT.out) | ((with_reducible repeat (first | apply T2.alloc | apply T2.drewN | apply T2.drew)); exact HT.out))); intro v85 w85 ho hb hg3 hat; have HO := Aside0.mk ho; have n1_ := Aside0.mk (T2.grown (by first | (with_reducible exact HT.out) | ((with_reducible repeat (first | apply T2.alloc | apply T2.drewN | apply T2.drew)); exact HT.out)) hb hg3 (fun k hk => by cases hk)); clear HT; have HT := n1_; clear n1_ ho hb hg3 hat; have hx21 := pw_cell_below (T2.b HT.out) HX.out; (try have hs21 := pw_cell_below (T2.b HT.out) HS.out)) | ((with_reducible refine gate_builtin (b := .append) (xs := #[.tmp 85, .tmp 89]) rfl ?_); at_builtin; refine Kd.R_append_rows Kd.string (w0 := w) w.heap.size rfl (.tmp 85) (.tmp 89) 34 9 (.string ByteArray.empty) 16 rfl Try.underlying34 infoS rfl (by decide) (by omega) v85 [] l _ _ _ (Free Fn G vt) (fun _ => False) rfl rfl ?aO85 ?aR85 (fun _ _ h => h) (fun _ h => h.elim) ?aF85 ?aB85 ?aS85 ?aL85 ?_; (case aR85 => exact Kd.C_below HCL.out (T2.b (by first | (with_reducible exact HT.out) | ((with_reducible repeat (first | apply T2.alloc | apply T2.drewN | apply T2.drew)); exact HT.out)))); (case aF85 => exact (fun k hk => T2.free (by first | (with_reducible exact HT.out) | ((with_reducible repeat (first | apply T2.alloc | apply T2.drewN | apply T2.drew)); exact HT.out)) hk)); (case aB85 => exact T2.b (by first | (with_reducible exact HT.out) | ((with_reducible repeat (first | apply T2.alloc | apply T2.drewN | apply T2.drew)); exact HT.out))); (case aO85 => exact (by first | (with_reducible exact HO.out) | ((with_reducible repeat (first | apply Kd.R_alloc | apply Kd.R_drewN | apply Kd.R_drew)); exact HO.out))); (case aS85 => exact T2.sz (by first | (with_reducible exact HT.out) | ((with_reducible repeat (first | apply T2.alloc | apply T2.drewN | apply T2.drew)); exact HT.out))); (case aL85 => have := HLL.out; simp; omega); intro v90 w90 ho hb hg hat; rw [List.nil_append] at ho; have n1_ := Aside0.mk (T2.grown (by first | (with_reducible exact HT.out) | ((with_reducible repeat (first | apply T2.alloc | apply T2.drewN | apply T2.drew)); exact HT.out)) hb hg (fun k hk => HO.out.1 k hk)); clear HO HT; have HT := n1_; have HO := Aside0.mk ho; clear n1_ ho hb hg hat; have hx22 := pw_cell_below (T2.b HT.out) HX.out; (try have hs22 := pw_cell_below (T2.b HT.out) HS.out); obtain ⟨A90, c90, e90⟩ := Kd.R_slice HO.out; subst e90) | (go_at_call 29; (with_reducible refine (wname_Name w.heap.size g2 G zs mz false _ _ l _ (T2.w2 (by first | (with_reducible exact HT.out) | ((with_reducible repeat (first | apply T2.alloc | apply T2.drewN | apply T2.drew)); exact HT.out))) ?n191 ?n291 HSL.out HZB.out).mono ?_); (case n191 => exact (fun w' hu => (Kd.R_reads' (R_upd (by first | (with_reducible exact HO.out) | ((with_reducible repeat (first | apply Kd.R_alloc | apply Kd.R_drewN | apply Kd.R_drew)); exact HO.out)) hu (fun k h => And.left (And.right h)))).2.2)); (case n291 => exact (Kd.R_reads' HO.out).2.1); rintro e w91 ⟨rfl, Gn, hw, hu, hF⟩; have n0_ := Aside0.mk (T2.two (by first | (with_reducible exact HT.out) | ((with_reducible repeat (first | apply T2.alloc | apply T2.drewN | apply T2.drew)); exact HT.out)) hw hu hF); clear HT HO hw hu hF; have HT := n0_; clear n0_; have hx23 := pw_cell_below (T2.b HT.out) HX.out; (try have hs23 := pw_cell_below (T2.b HT.out) HS.out)))
              go_roundw
              case rel =>
                have hb := back_step HBK.out sh HLE.out HSL.out
                have hz := nameR_false l zs mz
                refine ⟨j + 1, _, _, ats ++ [(ys.length : Int)], _, _, _, _, At2, ct2, by go_num, by omega, by rw [List.length_append]; rfl, by rw [HVT.out]; exact HT, ⟨?_⟩⟩
                rw [hz, List.length_append, List.length_append]
                exact hb
              case measure => simp [intOf] <;> omega
            · have k5 := decide_eq_false hjs
              have k6 : decide ((j : Int) < shorts.length) = false := decide_eq_false (by omega)
              clear hjs
              go_upto_region 11 with ((go_at_call 30; (with_reducible refine (ref_Sound Al cl l _ ?s1 HLC.out).mono ?_); (case s1 => exact Kd.C_below HCL.out (T2.b (by first | (with_reducible exact HT.out) | ((with_reducible repeat (first | apply T2.alloc | apply T2.drewN | apply T2.drew)); exact HT.out)))); rintro e w' ⟨rfl, ⟨nd, rfl⟩⟩; rw [HSL.out]))
              go_upto_region 12 with (first | (go_at_call 32; (with_reducible refine (wn_Len _ _ F ys m _ (T2.w1 (by first | (with_reducible exact HT.out) | ((with_reducible repeat (first | apply T2.alloc | apply T2.drewN | apply T2.drew)); exact HT.out)))).mono ?_); rintro e w' ⟨rfl, rfl⟩) | ((with_reducible refine gate_builtin (b := .append) (xs := #[.tmp 61, .tmp 64]) rfl ?_); at_builtin; refine Kd.R_append (Kd.int .i64) (w0 := w) w.heap.size rfl (.tmp 61) (.tmp 64) 67 3 (.int .i64 0) 8 rfl Try.underlying67 infoI rfl (by decide) (by omega) (.slice At ats.length ct) ats (ys.length : Int) [.int .i64 (ys.length : Int)] (fun k => ¬ F k ∧ ¬ G k) (fun _ => False) rfl rfl ?aP (fun _ hk => hk.elim) ?aF ?aO ?aB ?aS ?aL ?_; (case aP => exact rfl); (case aF => exact (fun k hk => ⟨(T2.free (by first | (with_reducible exact HT.out) | ((with_reducible repeat (first | apply T2.alloc | apply T2.drewN | apply T2.drew)); exact HT.out)) hk).1, (T2.free (by first | (with_reducible exact HT.out) | ((with_reducible repeat (first | apply T2.alloc | apply T2.drewN | apply T2.drew)); exact HT.out)) hk).2.1⟩)); (case aO => exact T2.r (by first | (with_reducible exact HT.out) | ((with_reducible repeat (first | apply T2.alloc | apply T2.drewN | apply T2.drew)); exact HT.out))); (case aB => exact T2.b (by first | (with_reducible exact HT.out) | ((with_reducible repeat (first | apply T2.alloc | apply T2.drewN | apply T2.drew)); exact HT.out))); (case aS => exact T2.sz (by first | (with_reducible exact HT.out) | ((with_reducible repeat (first | apply T2.alloc | apply T2.drewN | apply T2.drew)); exact HT.out))); (case aL => have := HAL.out; omega); intro v65 w65 ho hb hg _; have n1_ := Aside0.mk (T2.at (by first | (with_reducible exact HT.out) | ((with_reducible repeat (first | apply T2.alloc | apply T2.drewN | apply T2.drew)); exact HT.out)) hb hg ho); clear HT ho hb hg; have HT := n1_; clear n1_; have hxa1 := pw_cell_below (T2.b HT.out) HX.out; (try have hsa1 := pw_cell_below (T2.b HT.out) HS.out); obtain ⟨At2, ct2, e65⟩ := Kd.R_slice HT.out.r; subst e65; obtain ⟨vt, hvt⟩ : ∃ v, Value.slice At2 (ats ++ [(ys.length : Int)]).length ct2 = v := ⟨_, rfl⟩; rw [hvt] at HT; have HVT := Aside0.mk hvt; clear hvt))
              go_upto_region 13 with (first | ((with_reducible refine gate_dst (N := 67) rfl ?_); refine Kd.R_lit (w0 := w) Kd.string w.heap.size 9 ?hg67 (N := 67) ?hd67 (xs := ([] : List ByteArray)) (inner := []) (ok := Free F G vt) (okp := fun _ => False) ?hr67 ?hp67 (fun _ hk => hk.elim) ?hf67 ?hB67 ?hS67 (Nat.zero_le _) ?_; (case hd67 => rfl); (case hg67 => rfl); (case hr67 => exact lit_str rfl); (case hp67 => exact (Reps.none _ _)); (case hf67 => exact T2.free (by first | (with_reducible exact HT.out) | ((with_reducible repeat (first | apply T2.alloc | apply T2.drewN | apply T2.drew)); exact HT.out)) (Nat.le_refl _)); (case hB67 => exact T2.b (by first | (with_reducible exact HT.out) | ((with_reducible repeat (first | apply T2.alloc | apply T2.drewN | apply T2.drew)); exact HT.out))); (case hS67 => exact T2.sz (by first | (with_reducible exact HT.out) | ((with_reducible repeat (first | apply T2.alloc | apply T2.drewN | apply T2.drew)); exact HT.out))); intro v67 w67 ho hb hg3 hat; have HO := Aside0.mk ho; have n1_ := Aside0.mk (T2.grown (by first | (with_reducible exact HT.out) | ((with_reducible repeat (first | apply T2.alloc | apply T2.drewN | apply T2.drew)); exact HT.out)) hb hg3 (fun k hk => by cases hk)); clear HT; have HT := n1_; clear n1_ ho hb hg3 hat; have hx11 := pw_cell_below (T2.b HT.out) HX.out; (try have hs11 := pw_cell_below (T2.b HT.out) HS.out)) | ((with_reducible refine gate_builtin (b := .append) (xs := #[.tmp 67, .tmp 71]) rfl ?_); at_builtin; refine Kd.R_append_rows Kd.string (w0 := w) w.heap.size rfl (.tmp 67) (.tmp 71) 34 9 (.string ByteArray.empty) 16 rfl Try.underlying34 infoS rfl (by decide) (by omega) v67 [] l _ _ _ (Free F G vt) (fun _ => False) rfl rfl ?aO67 ?aR67 (fun _ _ h => h) (fun _ h => h.elim) ?aF67 ?aB67 ?aS67 ?aL67 ?_; (case aR67 => exact Kd.C_below HCL.out (T2.b (by first | (with_reducible exact HT.out) | ((with_reducible repeat (first | apply T2.alloc | apply T2.drewN | apply T2.drew)); exact HT.out)))); (case aF67 => exact (fun k hk => T2.free (by first | (with_reducible exact HT.out) | ((with_reducible repeat (first | apply T2.alloc | apply T2.drewN | apply T2.drew)); exact HT.out)) hk)); (case aB67 => exact T2.b (by first | (with_reducible exact HT.out) | ((with_reducible repeat (first | apply T2.alloc | apply T2.drewN | apply T2.drew)); exact HT.out))); (case aO67 => exact (by first | (with_reducible exact HO.out) | ((with_reducible repeat (first | apply Kd.R_alloc | apply Kd.R_drewN | apply Kd.R_drew)); exact HO.out))); (case aS67 => exact T2.sz (by first | (with_reducible exact HT.out) | ((with_reducible repeat (first | apply T2.alloc | apply T2.drewN | apply T2.drew)); exact HT.out))); (case aL67 => have := HLL.out; simp; omega); intro v72 w72 ho hb hg hat; rw [List.nil_append] at ho; have n1_ := Aside0.mk (T2.grown (by first | (with_reducible exact HT.out) | ((with_reducible repeat (first | apply T2.alloc | apply T2.drewN | apply T2.drew)); exact HT.out)) hb hg (fun k hk => HO.out.1 k hk)); clear HO HT; have HT := n1_; have HO := Aside0.mk ho; clear n1_ ho hb hg hat; have hx12 := pw_cell_below (T2.b HT.out) HX.out; (try have hs12 := pw_cell_below (T2.b HT.out) HS.out); obtain ⟨A72, c72, e72⟩ := Kd.R_slice HO.out; subst e72) | (go_at_call 29; (with_reducible refine (wname_Name w.heap.size g1 F ys m _ _ _ l _ (T2.w1 (by first | (with_reducible exact HT.out) | ((with_reducible repeat (first | apply T2.alloc | apply T2.drewN | apply T2.drew)); exact HT.out))) ?n183 ?n283 HSL.out HYB.out).mono ?_); (case n183 => exact (fun w' hu => (Kd.R_reads' (R_upd (by first | (with_reducible exact HO.out) | ((with_reducible repeat (first | apply Kd.R_alloc | apply Kd.R_drewN | apply Kd.R_drew)); exact HO.out)) hu (fun k h => And.left h))).2.2)); (case n283 => exact (Kd.R_reads' HO.out).2.1); rintro e w83 ⟨rfl, Fn, hw, hu, hF⟩; have n0_ := Aside0.mk (T2.one (by first | (with_reducible exact HT.out) | ((with_reducible repeat (first | apply T2.alloc | apply T2.drewN | apply T2.drew)); exact HT.out)) hw hu hF); clear HT HO hw hu hF; have HT := n0_; clear n0_; have hx13 := pw_cell_below (T2.b HT.out) HX.out; (try have hs13 := pw_cell_below (T2.b HT.out) HS.out)))
              go_wp2_with (first | ((with_reducible refine gate_dst (N := 85) rfl ?_); refine Kd.R_lit (w0 := w) Kd.string w.heap.size 9 ?hg85 (N := 85) ?hd85 (xs := ([] : List ByteArray)) (inner := []) (ok := Free Fn G vt) (okp := fun _ => False) ?hr85 ?hp85 (fun _ hk => hk.elim) ?hf85 ?hB85 ?hS85 (Nat.zero_le _) ?_; (case hd85 => rfl); (case hg85 => rfl); (case hr85 => exact lit_str rfl); (case hp85 => exact (Reps.none _ _)); (case hf85 => exact T2.free (by first | (with_reducible exact HT.out) | ((with_reducible repeat (first | apply T2.alloc | apply T2.drewN | apply T2.drew)); exact HT.out)) (Nat.le_refl _)); (case hB85 => exact T2.b (by first | (with_reducible exact HT.out) | ((with_reducible repeat (first | apply T2.alloc | apply T2.drewN | apply T2.drew)); exact HT.out))); (case hS85 => exact T2.sz (by first | (with_reducible exact HT.out) | ((with_reducible repeat (first | apply T2.alloc | apply T2.drewN | apply T2.drew)); exact HT.out))); intro v85 w85 ho hb hg3 hat; have HO := Aside0.mk ho; have n1_ := Aside0.mk (T2.grown (by first | (with_reducible exact HT.out) | ((with_reducible repeat (first | apply T2.alloc | apply T2.drewN | apply T2.drew)); exact HT.out)) hb hg3 (fun k hk => by cases hk)); clear HT; have HT := n1_; clear n1_ ho hb hg3 hat; have hx21 := pw_cell_below (T2.b HT.out) HX.out; (try have hs21 := pw_cell_below (T2.b HT.out) HS.out)) | ((with_reducible refine gate_builtin (b := .append) (xs := #[.tmp 85, .tmp 89]) rfl ?_); at_builtin; refine Kd.R_append_rows Kd.string (w0 := w) w.heap.size rfl (.tmp 85) (.tmp 89) 34 9 (.string ByteArray.empty) 16 rfl Try.underlying34 infoS rfl (by decide) (by omega) v85 [] l _ _ _ (Free Fn G vt) (fun _ => False) rfl rfl ?aO85 ?aR85 (fun _ _ h => h) (fun _ h => h.elim) ?aF85 ?aB85 ?aS85 ?aL85 ?_; (case aR85 => exact Kd.C_below HCL.out (T2.b (by first | (with_reducible exact HT.out) | ((with_reducible repeat (first | apply T2.alloc | apply T2.drewN | apply T2.drew)); exact HT.out)))); (case aF85 => exact (fun k hk => T2.free (by first | (with_reducible exact HT.out) | ((with_reducible repeat (first | apply T2.alloc | apply T2.drewN | apply T2.drew)); exact HT.out)) hk)); (case aB85 => exact T2.b (by first | (with_reducible exact HT.out) | ((with_reducible repeat (first | apply T2.alloc | apply T2.drewN | apply T2.drew)); exact HT.out))); (case aO85 => exact (by first | (with_reducible exact HO.out) | ((with_reducible repeat (first | apply Kd.R_alloc | apply Kd.R_drewN | apply Kd.R_drew)); exact HO.out))); (case aS85 => exact T2.sz (by first | (with_reducible exact HT.out) | ((with_reducible repeat (first | apply T2.alloc | apply T2.drewN | apply T2.drew)); exact HT.out))); (case aL85 => have := HLL.out; simp; omega); intro v90 w90 ho hb hg hat; rw [List.nil_append] at ho; have n1_ := Aside0.mk (T2.grown (by first | (with_reducible exact HT.out) | ((with_reducible repeat (first | apply T2.alloc | apply T2.drewN | apply T2.drew)); exact HT.out)) hb hg (fun k hk => HO.out.1 k hk)); clear HO HT; have HT := n1_; have HO := Aside0.mk ho; clear n1_ ho hb hg hat; have hx22 := pw_cell_below (T2.b HT.out) HX.out; (try have hs22 := pw_cell_below (T2.b HT.out) HS.out); obtain ⟨A90, c90, e90⟩ := Kd.R_slice HO.out; subst e90) | (go_at_call 29; (with_reducible refine (wname_Name w.heap.size g2 G zs mz false _ _ l _ (T2.w2 (by first | (with_reducible exact HT.out) | ((with_reducible repeat (first | apply T2.alloc | apply T2.drewN | apply T2.drew)); exact HT.out))) ?n191 ?n291 HSL.out HZB.out).mono ?_); (case n191 => exact (fun w' hu => (Kd.R_reads' (R_upd (by first | (with_reducible exact HO.out) | ((with_reducible repeat (first | apply Kd.R_alloc | apply Kd.R_drewN | apply Kd.R_drew)); exact HO.out)) hu (fun k h => And.left (And.right h)))).2.2)); (case n291 => exact (Kd.R_reads' HO.out).2.1); rintro e w91 ⟨rfl, Gn, hw, hu, hF⟩; have n0_ := Aside0.mk (T2.two (by first | (with_reducible exact HT.out) | ((with_reducible repeat (first | apply T2.alloc | apply T2.drewN | apply T2.drew)); exact HT.out)) hw hu hF); clear HT HO hw hu hF; have HT := n0_; clear n0_; have hx23 := pw_cell_below (T2.b HT.out) HX.out; (try have hs23 := pw_cell_below (T2.b HT.out) HS.out)))
              go_roundw
              case rel =>
                have hb := back_step HBK.out false HLE.out HSL.out
                have hz := nameR_false l zs mz
                refine ⟨j + 1, _, _, ats ++ [(ys.length : Int)], _, _, _, _, At2, ct2, by go_num, by omega, by rw [List.length_append]; rfl, by rw [HVT.out]; exact HT, ⟨?_⟩⟩
                rw [hz, List.length_append, List.length_append]
                exact hb
              case measure => simp [intOf] <;> omega
        · obtain rfl : j = names.length := by omega
          clear hlt hj
          obtain ⟨b1, b2, b3, b4, b5, b6, b7, b8⟩ := HBK.out
          have HYB := Aside0.mk (show ys.length ≤ 40000 by omega)
          have hyb : ys.length ≤ 40000 := HYB.out
          have hzb : zs.length ≤ 16000 := by omega
          have k7 := decide_eq_false (show ¬ (zs.length : Int) < (ys.length : Int) - l1.length by omega)
          have HBY := Aside0.mk b1
          have HAL := Aside0.mk b3
          have HB8 := Aside0.mk b8
          clear b1 b2 b3 b4 b5 b6 b7 b8 HBK
          go_wp2_with (first | (go_at_call 33; (with_reducible refine (wn_Bytes _ _ F ys m _ (T2.w1 (by first | (with_reducible exact HT.out) | ((with_reducible repeat (first | apply T2.alloc | apply T2.drewN | apply T2.drew)); exact HT.out))) (by have := HYB.out; omega)).mono ?_); rintro e w7 ⟨v7, rfl, ho, hb⟩; have HBR := Aside0.mk (Kd.R_lower ho (T2.sz (by first | (with_reducible exact HT.out) | ((with_reducible repeat (first | apply T2.alloc | apply T2.drewN | apply T2.drew)); exact HT.out)))); have n0_ := Aside0.mk (T2.below (by first | (with_reducible exact HT.out) | ((with_reducible repeat (first | apply T2.alloc | apply T2.drewN | apply T2.drew)); exact HT.out)) hb); clear HT ho hb; have HT := n0_; clear n0_; obtain ⟨Ab, cb, e7⟩ := Kd.R_slice HBR.out; subst e7) | (go_at_call 32; (with_reducible refine (wn_Len _ _ G zs mz _ (T2.w2 (by first | (with_reducible exact HT.out) | ((with_reducible repeat (first | apply T2.alloc | apply T2.drewN | apply T2.drew)); exact HT.out)))).mono ?_); rintro e w' ⟨rfl, rfl⟩))
          clear k7
          go_loopw [12] (fun v wr => ∃ i : Nat, v = .int .i64 i ∧ i ≤ names.length ∧ Aside0 (Below w.heap.size w wr) ∧ Aside0 (Kd.R (Kd.int .u8) 5 wr w.heap.size (fun _ => True) (.slice Ab ys.length cb) ys) ∧ Aside0 (Kd.R (Kd.int .i64) 3 wr w.heap.size (fun _ => True) (.slice At ats.length ct) ats)) (fun v _ => names.length - (intOf v).toNat)
          case atStart => exact ⟨0, rfl, Nat.zero_le _, ⟨T2.b (by first | (with_reducible exact HT.out) | ((with_reducible repeat (first | apply T2.alloc | apply T2.drewN | apply T2.drew)); exact HT.out))⟩, ⟨(by first | (with_reducible exact HBR.out) | ((with_reducible repeat (first | apply Kd.R_alloc | apply Kd.R_drewN | apply Kd.R_drew)); exact HBR.out))⟩, ⟨Kd.R_mono (T2.r (by first | (with_reducible exact HT.out) | ((with_reducible repeat (first | apply T2.alloc | apply T2.drewN | apply T2.drew)); exact HT.out))) (fun _ _ => trivial)⟩⟩
          case round =>
            clear HT HBR
            obtain ⟨i, rfl, hi, HB, HBR, HAT⟩ := hrel
            by_cases hlt : i < names.length
            · obtain ⟨p, e, hp, he, hwb, hr⟩ := HB8.out i hlt
              have hal := HAL.out
              rw [List.getElem?_append_left (by omega)] at hp
              obtain ⟨gA, cA, eA, _, _, _⟩ := Kd.R_form HAT.out (by omega)
              injection eA with ea en ec
              subst ea ec
              clear en
              obtain ⟨hpx, _⟩ := Kd.R_celln 0 HAT.out (i : Int) (by omega) (by omega)
              rw [Int.toNat_natCast, show rdOf 0 ats (i : Int) = (p : Int) by simp [rdOf, List.getD_eq_getElem?_getD, hp]] at hpx
              obtain ⟨ad, Al, cl, rfl, hx, hcl, hCl⟩ := at_names HC0.out i hlt
              obtain ⟨kk, hkk⟩ := get_reads ys HBY.out (by have := HYB.out; omega) hwb hr
              obtain ⟨l, hle⟩ : ∃ l, names.getD i [] = l := ⟨_, rfl⟩
              rw [hle] at hx hcl hCl hkk
              have HX := Aside0.mk hx
              have HCL := Aside0.mk hCl
              have HLC := Aside0.mk hcl
              have HG := Aside0.mk hkk
              clear hx hCl hcl hkk hle hwb hr hp
              by_cases hl2 : i + 1 < names.length
              · rw [List.getElem?_append_left (by omega)] at he
                obtain ⟨hex, _⟩ := Kd.R_celln 0 HAT.out ((i + 1 : Nat) : Int) (by omega) (by omega)
                rw [Int.toNat_natCast, show rdOf 0 ats ((i + 1 : Nat) : Int) = (e : Int) by simp [rdOf, List.getD_eq_getElem?_getD, he]] at hex
                have HY := Aside0.mk hex
                have hb1 : i < ats.length := by omega
                have hb2 : i + 1 < ats.length := by omega
                have hb3 : (i : Int) + 1 < ats.length := by omega
                have k7 := decide_eq_true hl2
                have k8 : decide ((i : Int) + 1 < names.length) = true := decide_eq_true (by omega)
                clear he hex hal
                go_wp2_with (first | (go_at_call 18; (with_reducible refine (HWnameLoops.wname_Get.calls kk Ab cb ys _ l _ 0 _ ?gb1 ?gb2 HG.out).mono ?_); (case gb1 => exact (Kd.R_reads' (by first | (with_reducible exact HBR.out) | ((with_reducible repeat (first | apply Kd.R_alloc | apply Kd.R_drewN | apply Kd.R_drew)); exact HBR.out))).2.2); (case gb2 => exact (Kd.R_reads' HBR.out).2.1); rintro e8 w8 ⟨v8, rfl, ho, hb⟩; have HX8 := Aside0.mk ho; have n0_ := Aside0.mk (below_step (by repeat (first | (with_reducible first | exact HB.out | apply below_alloc | apply pw_below_drewN | apply below_drew1) | exact HB.out)) hb); have n1_ := Aside0.mk (Kd.R_below (by first | (with_reducible exact HBR.out) | ((with_reducible repeat (first | apply Kd.R_alloc | apply Kd.R_drewN | apply Kd.R_drew)); exact HBR.out)) hb); have n2_ := Aside0.mk (Kd.R_below (by first | (with_reducible exact HAT.out) | ((with_reducible repeat (first | apply Kd.R_alloc | apply Kd.R_drewN | apply Kd.R_drew)); exact HAT.out)) hb); (try have hy8 := pw_cell_below hb HY.out); clear HB HBR HAT ho hb; have HB := n0_; have HBR := n1_; have HAT := n2_; clear n0_ n1_ n2_; have hx8 := pw_cell_below HB.out HX.out; obtain ⟨A8, c8, e88⟩ := Kd.R_slice HX8.out; subst e88) | (go_at_call 20; (with_reducible refine (ref_Exact A8 c8 l Al cl l _ ?x1 ?x2 ?x3 HLC.out).mono ?_); (case x1 => exact (Kd.R_reads' (by first | (with_reducible exact HX8.out) | ((with_reducible repeat (first | apply Kd.R_alloc | apply Kd.R_drewN | apply Kd.R_drew)); exact HX8.out))).2.2); (case x2 => exact (Kd.R_reads' HX8.out).2.1); (case x3 => exact (by repeat (first | exact (Kd.C_below HCL.out HB.out) | (with_reducible refine Kd.C_alloc ?_ _) | (with_reducible refine Kd.C_drewN ?_ _) | (with_reducible refine Kd.C_drew ?_)))); rintro e' w' ⟨rfl, ⟨nd2, rfl⟩⟩; rw [decide_eq_true (rfl : l = l)]))
                go_roundw
                case rel => exact ⟨i + 1, by go_num, by omega, ⟨(by repeat (first | (with_reducible first | exact HB.out | apply below_alloc | apply pw_below_drewN | apply below_drew1) | exact HB.out))⟩, ⟨(by first | (with_reducible exact HBR.out) | ((with_reducible repeat (first | apply Kd.R_alloc | apply Kd.R_drewN | apply Kd.R_drew)); exact HBR.out))⟩, ⟨(by first | (with_reducible exact HAT.out) | ((with_reducible repeat (first | apply Kd.R_alloc | apply Kd.R_drewN | apply Kd.R_drew)); exact HAT.out))⟩⟩
                case measure => simp [intOf] <;> omega
              · have hee : e = ys.length := by
                  rw [List.getElem?_append_right (by omega), show i + 1 - ats.length = 0 by omega] at he
                  simp at he
                  omega
                subst hee
                have hb1 : i < ats.length := by omega
                have k7 := decide_eq_false hl2
                have k8 : decide ((i : Int) + 1 < names.length) = false := decide_eq_false (by omega)
                clear he hal
                go_wp2_with (first | (go_at_call 18; (with_reducible refine (HWnameLoops.wname_Get.calls kk Ab cb ys _ l _ 0 _ ?gb1 ?gb2 HG.out).mono ?_); (case gb1 => exact (Kd.R_reads' (by first | (with_reducible exact HBR.out) | ((with_reducible repeat (first | apply Kd.R_alloc | apply Kd.R_drewN | apply Kd.R_drew)); exact HBR.out))).2.2); (case gb2 => exact (Kd.R_reads' HBR.out).2.1); rintro e8 w8 ⟨v8, rfl, ho, hb⟩; have HX8 := Aside0.mk ho; have n0_ := Aside0.mk (below_step (by repeat (first | (with_reducible first | exact HB.out | apply below_alloc | apply pw_below_drewN | apply below_drew1) | exact HB.out)) hb); have n1_ := Aside0.mk (Kd.R_below (by first | (with_reducible exact HBR.out) | ((with_reducible repeat (first | apply Kd.R_alloc | apply Kd.R_drewN | apply Kd.R_drew)); exact HBR.out)) hb); have n2_ := Aside0.mk (Kd.R_below (by first | (with_reducible exact HAT.out) | ((with_reducible repeat (first | apply Kd.R_alloc | apply Kd.R_drewN | apply Kd.R_drew)); exact HAT.out)) hb); (try have hy8 := pw_cell_below hb HY.out); clear HB HBR HAT ho hb; have HB := n0_; have HBR := n1_; have HAT := n2_; clear n0_ n1_ n2_; have hx8 := pw_cell_below HB.out HX.out; obtain ⟨A8, c8, e88⟩ := Kd.R_slice HX8.out; subst e88) | (go_at_call 20; (with_reducible refine (ref_Exact A8 c8 l Al cl l _ ?x1 ?x2 ?x3 HLC.out).mono ?_); (case x1 => exact (Kd.R_reads' (by first | (with_reducible exact HX8.out) | ((with_reducible repeat (first | apply Kd.R_alloc | apply Kd.R_drewN | apply Kd.R_drew)); exact HX8.out))).2.2); (case x2 => exact (Kd.R_reads' HX8.out).2.1); (case x3 => exact (by repeat (first | exact (Kd.C_below HCL.out HB.out) | (with_reducible refine Kd.C_alloc ?_ _) | (with_reducible refine Kd.C_drewN ?_ _) | (with_reducible refine Kd.C_drew ?_)))); rintro e' w' ⟨rfl, ⟨nd2, rfl⟩⟩; rw [decide_eq_true (rfl : l = l)]))
                go_roundw
                case rel => exact ⟨i + 1, by go_num, by omega, ⟨(by repeat (first | (with_reducible first | exact HB.out | apply below_alloc | apply pw_below_drewN | apply below_drew1) | exact HB.out))⟩, ⟨(by first | (with_reducible exact HBR.out) | ((with_reducible repeat (first | apply Kd.R_alloc | apply Kd.R_drewN | apply Kd.R_drew)); exact HBR.out))⟩, ⟨(by first | (with_reducible exact HAT.out) | ((with_reducible repeat (first | apply Kd.R_alloc | apply Kd.R_drewN | apply Kd.R_drew)); exact HAT.out))⟩⟩
                case measure => simp [intOf] <;> omega
            · go_wp2
              go_ret
              exact ⟨rfl, (by repeat (first | (with_reducible first | exact HB.out | apply below_alloc | apply pw_below_drewN | apply below_drew1) | exact HB.out))⟩
theorem walk (w : World) (A0 : Option Addr) (c0 : Nat) (names : List (List ByteArray)) (hC0 : Kd.C (Kd.slice 9 Kd.string) w A0 names.length names) (hc0 : names.length ≤ c0) (ok0 : names.length * 24 ≤ 140737488351232 ∧ ∀ x ∈ names, (x.length * 16 ≤ 140737488351232 ∧ ∀ y ∈ x, y.size ≤ 140737488351232))
    (A1 : Option Addr) (c1 : Nat) (l1 : List Int) (hC1 : Kd.C (Kd.int .u8) w A1 l1.length l1) (hc1 : l1.length ≤ c1) (ok1 : l1.length * 1 ≤ 140737488351232 ∧ ∀ x ∈ l1, (Lit.int .u8 x).wf = true)
    (A2 : Option Addr) (c2 : Nat) (l2 : List Bool) (hC2 : Kd.C Kd.bool w A2 l2.length l2) (hc2 : l2.length ≤ c2) (ok2 : l2.length * 1 ≤ 140737488351232 ∧ ∀ x ∈ l2, True) :
    Calls Try.prog 10 #[.slice A0 names.length c0, .slice A1 l1.length c1, .slice A2 l2.length c2] w fun e w' => e = .returned (.bool true) ∧ Below w.heap.size w w' := by
  by_cases h : 60 < names.length ∨ 20000 < l1.length
  · exact large w A0 c0 names A1 c1 l1 _ h ⟨A2, l2.length, c2, rfl⟩
  · exact small w A0 c0 names A1 c1 l1 A2 c2 l2 hC0 hc0 hC1 (bytesB_iff.2 (fun x hx => wfu8 (ok1.2 x hx))) hC2 (by omega) (by omega) (fun x hx => (ok0.2 x hx).1)
end Go.Proofs.Ytahnncccdlblgaa.WnameBack
