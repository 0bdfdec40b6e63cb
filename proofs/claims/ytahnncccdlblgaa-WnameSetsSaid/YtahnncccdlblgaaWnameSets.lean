/- A number that is put in the place of bytes is there, and nothing else is changed: the walk. Conditions: none. -/
import Derived.Test.YtahnncccdlblgaaSetok
import Derived.Test.YtahnncccdlblgaaPureWnameLoops
import Derived.Test.YtahnncccdlblgaaOpen
import Derived.Below
import Derived.Deep.Draws
import Derived.Deep.AppendLies
import Derived.Maps.AppendAt
import Derived.OwnWalk
import Derived.Laws.BytesArg
import Derived.Laws.MakeOwn
import Derived.Laws.OwnMore
import Derived.Deep.OwnRows
import Derived.Tactics
import Derived.Lib.ConvBytes
import Derived.Laws.Slices
import Derived.WalkKit
import Derived.KernelRfl
import Derived.RowKit3
import Derived.Deep.LoopGhost
import Derived.Deep.QuietTactic
import Derived.BigQuiet
import Derived.WideLaws
import Derived.Deep.DeepCutAuto
import Derived.Deep.CutBlock
import Derived.Deep.RegionHeld3
import Derived.Laws.Rows
import Derived.Lib.AppendStr
import Derived.ArgAppend
import Derived.Laws.IdiomCopy
import Derived.OrdersHeld
import Derived.Laws.BitsLemmas
import Derived.RowKit
namespace Go.Proofs.Ytahnncccdlblgaa.WnameSets
open Go.Proofs.Ytahnncccdlblgaa.G
open Go.RowKit Go.Proofs.YtahnncccdlblgaaW.PrintWords Go.Proofs.YtahnncccdlblgaaW.PrintLast Go.Proofs.YtahnncccdlblgaaW.PrintMore Go.Proofs.Ytahnncccdlblgaa.Plain
attribute [local go_sem] max2_int min2_int max_two min_two max_three min_three max_four min_four
set_option linter.unusedVariables false
set_option linter.unusedSimpArgs false
theorem wf64 {n : Int} (h : (Lit.int .i64 n).wf = true) : -9223372036854775808 ≤ n ∧ n ≤ 9223372036854775807 := by
  simp [Lit.wf, IntKind.min, IntKind.max, IntKind.signed, IntKind.bits] at h; omega
theorem opens_bytes {H : Type} {enc : TypeId × Value → H} {w : World} {base : Nat} {spare : Nat → Bool} {held : Bool} : Open.Opens enc Try.prog w base spare held 24 (Kd.slice 5 (Kd.int .u8)) (fun xs => xs.length * 1 ≤ 140737488351232 ∧ ∀ x ∈ xs, (Lit.int .u8 x).wf = true) :=
  Open.opens_slice Try.underlying24 (by kernel_rfl) (by kernel_rfl) (Open.opens_int Try.underlying5)
theorem large (w : World) (A1 : Option Addr) (c1 : Nat) (l1 : List Int) (hC : Kd.C (Kd.int .u8) w A1 l1.length l1) (a1 a2 a3 : Int) (hl : 5000 < l1.length) :
    Calls Try.prog 12 #[.slice A1 l1.length c1, .int .i64 a1, .int .i64 a2, .int .i64 a3] w fun e w' => e = .returned (.bool true) ∧ Below w.heap.size w w' := by
  have hd1 : decide (5000 < l1.length) = true := decide_eq_true hl
  have hd2 : decide ((5000 : Int) < l1.length) = true := decide_eq_true (by omega)
  have HB := Aside0.mk (Below.refl w.heap.size w)
  clear hl
  go_enter Try.func12, Try.ntmps12
  go_wp2_with (first | (go_at_call 23; (with_reducible refine (wname_New_Wr _).mono ?_); rintro e w1 ⟨rfl, hb, F, hw, hF⟩; have HW := Aside0.mk hw; have n0_ := Aside0.mk (below_step (by repeat (first | (with_reducible first | exact HB.out | apply below_alloc | apply pw_below_drewN | apply below_drew1) | exact HB.out)) hb); clear HB; have HB := n0_; clear n0_ hw hF hb) | (go_at_call 17; (with_reducible refine (HWnameLoops.gazetteerlaw03_answers.calls 4 true _ Pure.answers4).mono ?_); rintro e w2 ⟨rfl, hb⟩; have n0_ := Aside0.mk (below_step (by repeat (first | (with_reducible first | exact HB.out | apply below_alloc | apply pw_below_drewN | apply below_drew1) | exact HB.out)) hb); have n1_ := Aside0.mk (Wr.below (by first | (with_reducible exact HW.out) | ((with_reducible repeat (first | apply Wr.alloc | apply Wr.drewN | apply Wr.drew)); exact HW.out)) hb); clear HB HW; have HB := n0_; have HW := n1_; clear n0_ n1_ hb))
  go_ret
  exact ⟨rfl, (by repeat (first | (with_reducible first | exact HB.out | apply below_alloc | apply pw_below_drewN | apply below_drew1) | exact HB.out))⟩
/-- Behind the Raw: the Writer holds b. -/
def At (w : World) (l : List Int) (wc : World) : Prop := ∃ F, Aside0 (Below w.heap.size w wc) ∧ Aside0 (Wr wc w.heap.size F (w.heap.size + 1) l 0 (.map []))
set_option maxRecDepth 100000 in
set_option maxHeartbeats 1000000 in
theorem bad (w : World) (A1 : Option Addr) (c1 : Nat) (l1 : List Int) (hC : Kd.C (Kd.int .u8) w A1 l1.length l1) (hc : l1.length ≤ c1) (a1 a2 a3 : Int) (hl : l1.length ≤ 5000) (hw1 : a1 ≤ 9223372036854775807) (hw2 : a2 ≤ 9223372036854775807) (hw3 : a3 ≤ 9223372036854775807)
    (hbad : fits a2 a3 = false ∨ a1 < 0 ∨ (l1.length : Int) < a1 ∨ (l1.length : Int) - a1 < a3) :
    Calls Try.prog 12 #[.slice A1 l1.length c1, .int .i64 a1, .int .i64 a2, .int .i64 a3] w fun e w' => e = .returned (.bool true) ∧ Below w.heap.size w w' := by
  have hd1 : decide (5000 < l1.length) = false := decide_eq_false (by omega)
  have hd2 : decide ((5000 : Int) < l1.length) = false := decide_eq_false (by omega)
  have HB := Aside0.mk (Below.refl w.heap.size w)
  have HC := Aside0.mk hC
  have HCC := Aside0.mk hc
  have HW1 := Aside0.mk hw1
  have HW2 := Aside0.mk hw2
  have HW3 := Aside0.mk hw3
  have HBAD := Aside0.mk hbad
  have HL5 := Aside0.mk (show l1.length < 140737488355328 by omega)
  have HE := Aside0.mk (show gazetteerref01_Same.f l1 l1 = some true by unfold gazetteerref01_Same.f; simp)
  clear hC hw1 hw2 hw3 hbad hc
  go_enter Try.func12, Try.ntmps12
  go_upto_region 4 with (first | (go_at_call 23; (with_reducible refine (wname_New_Wr _).mono ?_); rintro e w1 ⟨rfl, hb, F, hw, hF⟩; have HW := Aside0.mk hw; have n0_ := Aside0.mk (below_step (by repeat (first | (with_reducible first | exact HB.out | apply below_alloc | apply pw_below_drewN | apply below_drew1) | exact HB.out)) hb); clear HB; have HB := n0_; clear n0_ hw hF hb) | (go_at_call 17; (with_reducible refine (HWnameLoops.gazetteerlaw03_answers.calls 4 true _ Pure.answers4).mono ?_); rintro e w2 ⟨rfl, hb⟩; have n0_ := Aside0.mk (below_step (by repeat (first | (with_reducible first | exact HB.out | apply below_alloc | apply pw_below_drewN | apply below_drew1) | exact HB.out)) hb); have n1_ := Aside0.mk (Wr.below (by first | (with_reducible exact HW.out) | ((with_reducible repeat (first | apply Wr.alloc | apply Wr.drewN | apply Wr.drew)); exact HW.out)) hb); clear HB HW; have HB := n0_; have HW := n1_; clear n0_ n1_ hb))
  go_cut [36] (fun v wc => At w l1 wc)
  case first =>
    go_wp2_with (first | ((with_reducible refine gate_dst (N := 33) rfl ?_); refine Kd.R_lit (w0 := w) (Kd.int .u8) w.heap.size 5 ?hg (N := 33) ?hd (xs := ([] : List Int)) (inner := []) (ok := fun k => ¬ F k) (okp := fun _ => False) ?hr ?hp (fun _ hk => hk.elim) ?hf ?hB ?hS (Nat.zero_le _) ?_; (case hd => rfl); (case hg => rfl); (case hr => exact lit_u8 rfl); (case hp => exact (Reps.none _ _)); (case hf => exact Wr.lt (by first | (with_reducible exact HW.out) | ((with_reducible repeat (first | apply Wr.alloc | apply Wr.drewN | apply Wr.drew)); exact HW.out)) (Nat.le_refl _)); (case hB => exact (by repeat (first | (with_reducible first | exact HB.out | apply below_alloc | apply pw_below_drewN | apply below_drew1) | exact HB.out))); (case hS => exact (below_size (by repeat (first | (with_reducible first | exact HB.out | apply below_alloc | apply pw_below_drewN | apply below_drew1) | exact HB.out)))); intro v3 w3 ho hb hg3 hat; have HO := Aside0.mk ho; have n1_ := Aside0.mk (Wr.grown (by first | (with_reducible exact HW.out) | ((with_reducible repeat (first | apply Wr.alloc | apply Wr.drewN | apply Wr.drew)); exact HW.out)) hg3 (fun k hk => by cases hk)); clear HW HB; have HW := n1_; have HB := Aside0.mk hb; clear n1_ ho hb hg3 hat) | ((with_reducible refine gate_builtin (b := .append) (xs := #[.tmp 33, .tmp 34]) rfl ?_); at_builtin; refine Kd.R_append_rows (Kd.int .u8) (w0 := w) w.heap.size rfl (.tmp 33) (.tmp 34) 24 5 (.int .u8 0) 1 rfl Try.underlying24 infoB rfl (by decide) (by omega) v3 [] l1 _ _ _ (fun k => ¬ F k) (fun _ => False) rfl rfl ?aO ?aR (fun _ _ h => h) (fun _ h => h.elim) ?aF ?aB ?aS ?aL ?_; (case aR => exact (by repeat (first | exact (Kd.C_below HC.out HB.out) | (with_reducible refine Kd.C_alloc ?_ _) | (with_reducible refine Kd.C_drewN ?_ _) | (with_reducible refine Kd.C_drew ?_)))); (case aF => exact (fun k hk => Wr.lt (by first | (with_reducible exact HW.out) | ((with_reducible repeat (first | apply Wr.alloc | apply Wr.drewN | apply Wr.drew)); exact HW.out)) hk)); (case aB => exact (by repeat (first | (with_reducible first | exact HB.out | apply below_alloc | apply pw_below_drewN | apply below_drew1) | exact HB.out))); (case aO => exact (by first | (with_reducible exact HO.out) | ((with_reducible repeat (first | apply Kd.R_alloc | apply Kd.R_drewN | apply Kd.R_drew)); exact HO.out))); (case aS => exact (below_size (by repeat (first | (with_reducible first | exact HB.out | apply below_alloc | apply pw_below_drewN | apply below_drew1) | exact HB.out)))); (case aL => simp; omega); intro v4 w4 ho hb hg hat; rw [List.nil_append] at ho; have n1_ := Aside0.mk (Wr.grown (by first | (with_reducible exact HW.out) | ((with_reducible repeat (first | apply Wr.alloc | apply Wr.drewN | apply Wr.drew)); exact HW.out)) hg (fun k hk => HO.out.1 k hk)); clear HB HO HW; have HB := Aside0.mk hb; have HW := n1_; have HO := Aside0.mk ho; clear n1_ ho hb hg hat; obtain ⟨A4, c4, e4⟩ := Kd.R_slice HO.out; subst e4) | (go_at_call 25; (with_reducible refine (wname_Raw _ _ F [] 0 (.map []) A4 c4 l1 _ (by first | (with_reducible exact HW.out) | ((with_reducible repeat (first | apply Wr.alloc | apply Wr.drewN | apply Wr.drew)); exact HW.out)) (Kd.R_reads' (by first | (with_reducible exact HO.out) | ((with_reducible repeat (first | apply Kd.R_alloc | apply Kd.R_drewN | apply Kd.R_drew)); exact HO.out))).2.2 (by rw [List.length_nil]; omega)).mono ?_); rintro e w5 ⟨rfl, F5, hw, hu, hF5⟩; have n0_ := Aside0.mk (Below.trans (by repeat (first | (with_reducible first | exact HB.out | apply below_alloc | apply pw_below_drewN | apply below_drew1) | exact HB.out)) (hu.below (fun k hk => Wr.ge HW.out hk) (below_size (by repeat (first | (with_reducible first | exact HB.out | apply below_alloc | apply pw_below_drewN | apply below_drew1) | exact HB.out))))); clear HB HW; have HB := n0_; have HW := Aside0.mk hw; clear n0_ hw hu hF5 HO))
    go_meet
    case rel => exact ⟨F5, HB, HW⟩
  case rest =>
    clear HB HW
    obtain ⟨F, HB, HW⟩ := hcut
    go_upto_region 6 with (go_at_call 35; (with_reducible refine (wname_Set_refuses _ _ F l1 0 (.map []) a1 a2 a3 _ (by first | (with_reducible exact HW.out) | ((with_reducible repeat (first | apply Wr.alloc | apply Wr.drewN | apply Wr.drew)); exact HW.out)) HL5.out HW3.out HBAD.out).mono ?_); rintro e w6 ⟨rfl, ⟨nd, rfl⟩⟩)
    have hbad := HBAD.out
    clear HBAD
    obtain ⟨b, hb⟩ : ∃ b, fits a2 a3 = b := ⟨_, rfl⟩
    have HQ := Aside0.mk (show gazetteerref01_Fits.f a2 a3 = some b by unfold gazetteerref01_Fits.f; rw [if_pos HW2.out, hb])
    rw [hb] at hbad
    clear hb
    cases b with
    | false =>
      clear hbad
      go_wp2_with (first | (go_at_call 36; (with_reducible refine (gazetteerref01_Fits.calls a2 a3 _ _ HQ.out).mono ?_); rintro e w' ⟨rfl, ⟨nd2, rfl⟩⟩) | (go_at_call 33; (with_reducible refine (wname_Bytes _ _ F l1 0 (.map []) _ (by first | (with_reducible exact HW.out) | ((with_reducible repeat (first | apply Wr.alloc | apply Wr.drewN | apply Wr.drew)); exact HW.out)) HL5.out).mono ?_); rintro e w7 ⟨v7, rfl, ho, hb⟩; have HO := Aside0.mk ho; clear ho; obtain ⟨A7, c7, e7⟩ := Kd.R_slice HO.out; subst e7; have n0_ := Aside0.mk (below_step (by repeat (first | (with_reducible first | exact HB.out | apply below_alloc | apply pw_below_drewN | apply below_drew1) | exact HB.out)) hb); have n1_ := Aside0.mk (Wr.below (by first | (with_reducible exact HW.out) | ((with_reducible repeat (first | apply Wr.alloc | apply Wr.drewN | apply Wr.drew)); exact HW.out)) hb); clear HB HW; have HB := n0_; have HW := n1_; clear n0_ n1_ hb) | (go_at_call 16; (with_reducible refine (gazetteerref01_Same.calls A7 c7 l1 A1 c1 l1 true _ ?s1 ?s2 ?s3 HCC.out HE.out).mono ?_); (case s1 => exact (Kd.R_reads' (by first | (with_reducible exact HO.out) | ((with_reducible repeat (first | apply Kd.R_alloc | apply Kd.R_drewN | apply Kd.R_drew)); exact HO.out))).2.2); (case s2 => exact (Kd.R_reads' HO.out).2.1); (case s3 => exact (by repeat (first | exact (Kd.C_below HC.out HB.out) | (with_reducible refine Kd.C_alloc ?_ _) | (with_reducible refine Kd.C_drewN ?_ _) | (with_reducible refine Kd.C_drew ?_)))); rintro e w' ⟨rfl, ⟨nd3, rfl⟩⟩))
      go_ret
      exact ⟨rfl, (by repeat (first | (with_reducible first | exact HB.out | apply below_alloc | apply pw_below_drewN | apply below_drew1) | exact HB.out))⟩
    | true =>
      by_cases h1 : a1 < 0
      · have k1 := decide_eq_true h1
        clear hbad h1
        go_wp2_with (first | (go_at_call 36; (with_reducible refine (gazetteerref01_Fits.calls a2 a3 _ _ HQ.out).mono ?_); rintro e w' ⟨rfl, ⟨nd2, rfl⟩⟩) | (go_at_call 33; (with_reducible refine (wname_Bytes _ _ F l1 0 (.map []) _ (by first | (with_reducible exact HW.out) | ((with_reducible repeat (first | apply Wr.alloc | apply Wr.drewN | apply Wr.drew)); exact HW.out)) HL5.out).mono ?_); rintro e w7 ⟨v7, rfl, ho, hb⟩; have HO := Aside0.mk ho; clear ho; obtain ⟨A7, c7, e7⟩ := Kd.R_slice HO.out; subst e7; have n0_ := Aside0.mk (below_step (by repeat (first | (with_reducible first | exact HB.out | apply below_alloc | apply pw_below_drewN | apply below_drew1) | exact HB.out)) hb); have n1_ := Aside0.mk (Wr.below (by first | (with_reducible exact HW.out) | ((with_reducible repeat (first | apply Wr.alloc | apply Wr.drewN | apply Wr.drew)); exact HW.out)) hb); clear HB HW; have HB := n0_; have HW := n1_; clear n0_ n1_ hb) | (go_at_call 16; (with_reducible refine (gazetteerref01_Same.calls A7 c7 l1 A1 c1 l1 true _ ?s1 ?s2 ?s3 HCC.out HE.out).mono ?_); (case s1 => exact (Kd.R_reads' (by first | (with_reducible exact HO.out) | ((with_reducible repeat (first | apply Kd.R_alloc | apply Kd.R_drewN | apply Kd.R_drew)); exact HO.out))).2.2); (case s2 => exact (Kd.R_reads' HO.out).2.1); (case s3 => exact (by repeat (first | exact (Kd.C_below HC.out HB.out) | (with_reducible refine Kd.C_alloc ?_ _) | (with_reducible refine Kd.C_drewN ?_ _) | (with_reducible refine Kd.C_drew ?_)))); rintro e w' ⟨rfl, ⟨nd3, rfl⟩⟩))
        go_ret
        exact ⟨rfl, (by repeat (first | (with_reducible first | exact HB.out | apply below_alloc | apply pw_below_drewN | apply below_drew1) | exact HB.out))⟩
      · have k1 := decide_eq_false h1
        by_cases h2 : (l1.length : Int) < a1
        · have k2 := decide_eq_true h2
          clear hbad h1 h2
          go_wp2_with (first | (go_at_call 36; (with_reducible refine (gazetteerref01_Fits.calls a2 a3 _ _ HQ.out).mono ?_); rintro e w' ⟨rfl, ⟨nd2, rfl⟩⟩) | (go_at_call 33; (with_reducible refine (wname_Bytes _ _ F l1 0 (.map []) _ (by first | (with_reducible exact HW.out) | ((with_reducible repeat (first | apply Wr.alloc | apply Wr.drewN | apply Wr.drew)); exact HW.out)) HL5.out).mono ?_); rintro e w7 ⟨v7, rfl, ho, hb⟩; have HO := Aside0.mk ho; clear ho; obtain ⟨A7, c7, e7⟩ := Kd.R_slice HO.out; subst e7; have n0_ := Aside0.mk (below_step (by repeat (first | (with_reducible first | exact HB.out | apply below_alloc | apply pw_below_drewN | apply below_drew1) | exact HB.out)) hb); have n1_ := Aside0.mk (Wr.below (by first | (with_reducible exact HW.out) | ((with_reducible repeat (first | apply Wr.alloc | apply Wr.drewN | apply Wr.drew)); exact HW.out)) hb); clear HB HW; have HB := n0_; have HW := n1_; clear n0_ n1_ hb) | (go_at_call 16; (with_reducible refine (gazetteerref01_Same.calls A7 c7 l1 A1 c1 l1 true _ ?s1 ?s2 ?s3 HCC.out HE.out).mono ?_); (case s1 => exact (Kd.R_reads' (by first | (with_reducible exact HO.out) | ((with_reducible repeat (first | apply Kd.R_alloc | apply Kd.R_drewN | apply Kd.R_drew)); exact HO.out))).2.2); (case s2 => exact (Kd.R_reads' HO.out).2.1); (case s3 => exact (by repeat (first | exact (Kd.C_below HC.out HB.out) | (with_reducible refine Kd.C_alloc ?_ _) | (with_reducible refine Kd.C_drewN ?_ _) | (with_reducible refine Kd.C_drew ?_)))); rintro e w' ⟨rfl, ⟨nd3, rfl⟩⟩))
          go_ret
          exact ⟨rfl, (by repeat (first | (with_reducible first | exact HB.out | apply below_alloc | apply pw_below_drewN | apply below_drew1) | exact HB.out))⟩
        · have k2 := decide_eq_false h2
          have h3 : (l1.length : Int) - a1 < a3 := by
            rcases hbad with h | h | h | h
            · cases h
            · exact absurd h h1
            · exact absurd h h2
            · exact h
          have k3 := decide_eq_true h3
          have hw : wrap64 ((l1.length : Int) - a1) = (l1.length : Int) - a1 := wrap_id (by omega) (by omega)
          clear hbad h1 h2 h3
          go_wp2_with (first | (go_at_call 36; (with_reducible refine (gazetteerref01_Fits.calls a2 a3 _ _ HQ.out).mono ?_); rintro e w' ⟨rfl, ⟨nd2, rfl⟩⟩) | (go_at_call 33; (with_reducible refine (wname_Bytes _ _ F l1 0 (.map []) _ (by first | (with_reducible exact HW.out) | ((with_reducible repeat (first | apply Wr.alloc | apply Wr.drewN | apply Wr.drew)); exact HW.out)) HL5.out).mono ?_); rintro e w7 ⟨v7, rfl, ho, hb⟩; have HO := Aside0.mk ho; clear ho; obtain ⟨A7, c7, e7⟩ := Kd.R_slice HO.out; subst e7; have n0_ := Aside0.mk (below_step (by repeat (first | (with_reducible first | exact HB.out | apply below_alloc | apply pw_below_drewN | apply below_drew1) | exact HB.out)) hb); have n1_ := Aside0.mk (Wr.below (by first | (with_reducible exact HW.out) | ((with_reducible repeat (first | apply Wr.alloc | apply Wr.drewN | apply Wr.drew)); exact HW.out)) hb); clear HB HW; have HB := n0_; have HW := n1_; clear n0_ n1_ hb) | (go_at_call 16; (with_reducible refine (gazetteerref01_Same.calls A7 c7 l1 A1 c1 l1 true _ ?s1 ?s2 ?s3 HCC.out HE.out).mono ?_); (case s1 => exact (Kd.R_reads' (by first | (with_reducible exact HO.out) | ((with_reducible repeat (first | apply Kd.R_alloc | apply Kd.R_drewN | apply Kd.R_drew)); exact HO.out))).2.2); (case s2 => exact (Kd.R_reads' HO.out).2.1); (case s3 => exact (by repeat (first | exact (Kd.C_below HC.out HB.out) | (with_reducible refine Kd.C_alloc ?_ _) | (with_reducible refine Kd.C_drewN ?_ _) | (with_reducible refine Kd.C_drew ?_)))); rintro e w' ⟨rfl, ⟨nd3, rfl⟩⟩))
          go_ret
          exact ⟨rfl, (by repeat (first | (with_reducible first | exact HB.out | apply below_alloc | apply pw_below_drewN | apply below_drew1) | exact HB.out))⟩
theorem Name_nil (A : Option Addr) (n c : Nat) (b : Bool) (w : World) : Calls Try.prog 29 #[.pointer none, .slice A n c, .bool b] w fun e w' => e = .returned (.int .i64 1) ∧ Drawn0 w w' := by
  go_enter Try.func29, Try.ntmps29
  go_wp2
  go_ret
  exact ⟨rfl, (by repeat (first | exact Drawn0.refl _ | apply Drawn0.step))⟩
/-- The Writer, what is wanted, and what was handed out (with new numbers in it): Nw: how great the memory was when it was handed out. -/
def Held (w : World) (F : Nat → Prop) (Nw : Nat) (Z : List Int) (vo vw : Value) (n : Nat) (wr : World) : Prop :=
  Below w.heap.size w wr ∧ Wr wr w.heap.size F (w.heap.size + 1) Z 0 (.map []) ∧ Kd.R (Kd.int .u8) 5 wr w.heap.size (fun k => k < Nw) vw Z ∧ ∃ xs : List Int, xs.length = n ∧ Kd.R (Kd.int .u8) 5 wr Nw (fun _ => True) vo xs
/-- Behind the making of what is wanted. -/
def Want (w : World) (Z : List Int) (v : Value) (wc : World) : Prop := ∃ (A : Option Addr) (c : Nat) (F : Nat → Prop), v = .slice A Z.length c ∧ Aside0 (Below w.heap.size w wc) ∧ Aside0 (Wr wc w.heap.size F (w.heap.size + 1) Z 0 (.map [])) ∧ Aside0 (Kd.R (Kd.int .u8) 5 wc w.heap.size (fun _ => True) (.slice A Z.length c) Z)
set_option maxRecDepth 100000 in
set_option maxHeartbeats 2000000 in
theorem good (w : World) (A1 : Option Addr) (c1 : Nat) (l1 : List Int) (hC : Kd.C (Kd.int .u8) w A1 l1.length l1) (hc : l1.length ≤ c1) (a1 a2 a3 : Int) (hl : l1.length ≤ 5000) (hw2 : a2 ≤ 9223372036854775807)
    (hf : fits a2 a3 = true) (h0 : 0 ≤ a1) (h1 : a1 + a3 ≤ l1.length) :
    Calls Try.prog 12 #[.slice A1 l1.length c1, .int .i64 a1, .int .i64 a2, .int .i64 a3] w fun e w' => e = .returned (.bool true) ∧ Below w.heap.size w w' := by
  have hd1 : decide (5000 < l1.length) = false := decide_eq_false (by omega)
  have hd2 : decide ((5000 : Int) < l1.length) = false := decide_eq_false (by omega)
  have hfit := fits_iff.1 hf
  have k1 := decide_eq_false (show ¬ a1 < 0 by omega)
  have k2 := decide_eq_false (show ¬ (l1.length : Int) < a1 by omega)
  have k3 := decide_eq_false (show ¬ (l1.length : Int) - a1 < a3 by omega)
  have hw : wrap64 ((l1.length : Int) - a1) = (l1.length : Int) - a1 := wrap_id (by omega) (by omega)
  have hwr : IntKind.i64.wrap (a1 + a3) = a1 + a3 := by rw [i64_w, wrap_id (by omega) (by omega)]
  have HQ := Aside0.mk (show gazetteerref01_Fits.f a2 a3 = some true by unfold gazetteerref01_Fits.f; rw [if_pos hw2, hf])
  have HP := Aside0.mk (show gazetteerref01_Put.f [] a2 a3 = some (be a2 a3.toNat) by unfold gazetteerref01_Put.f num_Put.f; rw [if_pos hw2, if_pos (by simp), if_pos hf]; simp)
  obtain ⟨Z, hZ⟩ : ∃ Z, Z = l1.take a1.toNat ++ (be a2 a3.toNat ++ l1.drop (a1 + a3).toNat) := ⟨_, rfl⟩
  have hZl : Z.length = l1.length := by
    rw [hZ]
    simp only [List.length_append, List.length_take, List.length_drop, be_length]
    omega
  have HZ := Aside0.mk hZ
  have HZL := Aside0.mk hZl
  have HE := Aside0.mk (show gazetteerref01_Same.f Z Z = some true by unfold gazetteerref01_Same.f; simp)
  have HL5 := Aside0.mk (show l1.length < 140737488355328 by omega)
  have HZ5 := Aside0.mk (show Z.length < 140737488355328 by omega)
  have HF := Aside0.mk hf
  have H1 := Aside0.mk h1
  have HT := Aside0.mk hfit
  obtain ⟨i8, hi8, _, hsz8, _⟩ := info_parts infoB
  have hcutA := cut_to (P := Try.prog) 24 5 .i64 Try.underlying24 hi8 A1 l1.length c1 a1 h0 (by omega) hc
  have hcutB := cut_from (P := Try.prog) 24 5 .i64 Try.underlying24 hi8 1 hsz8 A1 l1.length c1 (a1 + a3) (by omega) (by omega)
  have hCA := Kd.C_take (m := a1.toNat) hC (by omega)
  have hCB := Kd.C_drop (m := (a1 + a3).toNat) (c := c1) hC (by omega) hc
  rw [show (l1.take a1.toNat).length = a1.toNat by rw [List.length_take]; omega] at hCA
  rw [show (l1.drop (a1 + a3).toNat).length = l1.length - (a1 + a3).toNat by rw [List.length_drop]] at hCB
  obtain ⟨A3, hA3⟩ : ∃ A3, A3 = (if c1 = (a1 + a3).toNat then A1 else A1.map (·.add ((a1 + a3).toNat * 1))) := ⟨_, rfl⟩
  rw [← hA3] at hcutB
  have HCA := Aside0.mk hCA
  have HCB := Aside0.mk (show Kd.C (Kd.int .u8) w A3 (l1.length - (a1 + a3).toNat) (l1.drop (a1 + a3).toNat) from by rw [hA3]; exact hCB)
  have HB := Aside0.mk (Below.refl w.heap.size w)
  have HC := Aside0.mk hC
  have HCC := Aside0.mk hc
  have H0 := Aside0.mk h0
  clear hC hw2 hc hf h1 hfit hZ hZl hi8 hsz8 hCA hCB hA3 h0
  go_enter Try.func12, Try.ntmps12
  go_upto_region 4 with (first | (go_at_call 23; (with_reducible refine (wname_New_Wr _).mono ?_); rintro e w1 ⟨rfl, hb, F, hw, hF⟩; have HW := Aside0.mk hw; have n0_ := Aside0.mk (below_step (by repeat (first | (with_reducible first | exact HB.out | apply below_alloc | apply pw_below_drewN | apply below_drew1) | exact HB.out)) hb); clear HB; have HB := n0_; clear n0_ hw hF hb) | (go_at_call 17; (with_reducible refine (HWnameLoops.gazetteerlaw03_answers.calls 4 true _ Pure.answers4).mono ?_); rintro e w2 ⟨rfl, hb⟩; have n0_ := Aside0.mk (below_step (by repeat (first | (with_reducible first | exact HB.out | apply below_alloc | apply pw_below_drewN | apply below_drew1) | exact HB.out)) hb); have n1_ := Aside0.mk (Wr.below (by first | (with_reducible exact HW.out) | ((with_reducible repeat (first | apply Wr.alloc | apply Wr.drewN | apply Wr.drew)); exact HW.out)) hb); clear HB HW; have HB := n0_; have HW := n1_; clear n0_ n1_ hb))
  go_cut [36] (fun v wc => At w l1 wc)
  case first =>
    go_wp2_with (first | ((with_reducible refine gate_dst (N := 33) rfl ?_); refine Kd.R_lit (w0 := w) (Kd.int .u8) w.heap.size 5 ?hg (N := 33) ?hd (xs := ([] : List Int)) (inner := []) (ok := fun k => ¬ F k) (okp := fun _ => False) ?hr ?hp (fun _ hk => hk.elim) ?hf ?hB ?hS (Nat.zero_le _) ?_; (case hd => rfl); (case hg => rfl); (case hr => exact lit_u8 rfl); (case hp => exact (Reps.none _ _)); (case hf => exact Wr.lt (by first | (with_reducible exact HW.out) | ((with_reducible repeat (first | apply Wr.alloc | apply Wr.drewN | apply Wr.drew)); exact HW.out)) (Nat.le_refl _)); (case hB => exact (by repeat (first | (with_reducible first | exact HB.out | apply below_alloc | apply pw_below_drewN | apply below_drew1) | exact HB.out))); (case hS => exact (below_size (by repeat (first | (with_reducible first | exact HB.out | apply below_alloc | apply pw_below_drewN | apply below_drew1) | exact HB.out)))); intro v3 w3 ho hb hg3 hat; have HO := Aside0.mk ho; have n1_ := Aside0.mk (Wr.grown (by first | (with_reducible exact HW.out) | ((with_reducible repeat (first | apply Wr.alloc | apply Wr.drewN | apply Wr.drew)); exact HW.out)) hg3 (fun k hk => by cases hk)); clear HW HB; have HW := n1_; have HB := Aside0.mk hb; clear n1_ ho hb hg3 hat) | ((with_reducible refine gate_builtin (b := .append) (xs := #[.tmp 33, .tmp 34]) rfl ?_); at_builtin; refine Kd.R_append_rows (Kd.int .u8) (w0 := w) w.heap.size rfl (.tmp 33) (.tmp 34) 24 5 (.int .u8 0) 1 rfl Try.underlying24 infoB rfl (by decide) (by omega) v3 [] l1 _ _ _ (fun k => ¬ F k) (fun _ => False) rfl rfl ?aO ?aR (fun _ _ h => h) (fun _ h => h.elim) ?aF ?aB ?aS ?aL ?_; (case aR => exact (by repeat (first | exact (Kd.C_below HC.out HB.out) | (with_reducible refine Kd.C_alloc ?_ _) | (with_reducible refine Kd.C_drewN ?_ _) | (with_reducible refine Kd.C_drew ?_)))); (case aF => exact (fun k hk => Wr.lt (by first | (with_reducible exact HW.out) | ((with_reducible repeat (first | apply Wr.alloc | apply Wr.drewN | apply Wr.drew)); exact HW.out)) hk)); (case aB => exact (by repeat (first | (with_reducible first | exact HB.out | apply below_alloc | apply pw_below_drewN | apply below_drew1) | exact HB.out))); (case aO => exact (by first | (with_reducible exact HO.out) | ((with_reducible repeat (first | apply Kd.R_alloc | apply Kd.R_drewN | apply Kd.R_drew)); exact HO.out))); (case aS => exact (below_size (by repeat (first | (with_reducible first | exact HB.out | apply below_alloc | apply pw_below_drewN | apply below_drew1) | exact HB.out)))); (case aL => simp; omega); intro v4 w4 ho hb hg hat; rw [List.nil_append] at ho; have n1_ := Aside0.mk (Wr.grown (by first | (with_reducible exact HW.out) | ((with_reducible repeat (first | apply Wr.alloc | apply Wr.drewN | apply Wr.drew)); exact HW.out)) hg (fun k hk => HO.out.1 k hk)); clear HB HO HW; have HB := Aside0.mk hb; have HW := n1_; have HO := Aside0.mk ho; clear n1_ ho hb hg hat; obtain ⟨A4, c4, e4⟩ := Kd.R_slice HO.out; subst e4) | (go_at_call 25; (with_reducible refine (wname_Raw _ _ F [] 0 (.map []) A4 c4 l1 _ (by first | (with_reducible exact HW.out) | ((with_reducible repeat (first | apply Wr.alloc | apply Wr.drewN | apply Wr.drew)); exact HW.out)) (Kd.R_reads' (by first | (with_reducible exact HO.out) | ((with_reducible repeat (first | apply Kd.R_alloc | apply Kd.R_drewN | apply Kd.R_drew)); exact HO.out))).2.2 (by rw [List.length_nil]; omega)).mono ?_); rintro e w5 ⟨rfl, F5, hw, hu, hF5⟩; have n0_ := Aside0.mk (Below.trans (by repeat (first | (with_reducible first | exact HB.out | apply below_alloc | apply pw_below_drewN | apply below_drew1) | exact HB.out)) (hu.below (fun k hk => Wr.ge HW.out hk) (below_size (by repeat (first | (with_reducible first | exact HB.out | apply below_alloc | apply pw_below_drewN | apply below_drew1) | exact HB.out))))); clear HB HW; have HB := n0_; have HW := Aside0.mk hw; clear n0_ hw hu hF5 HO))
    go_meet
    case rel => exact ⟨F5, HB, HW⟩
  case rest =>
    clear HB HW
    obtain ⟨F, HB, HW⟩ := hcut
    go_upto_region 8 with (first | (go_at_call 35; (with_reducible refine (wname_Set_ok _ _ F l1 0 (.map []) a1 a2 a3 _ (by first | (with_reducible exact HW.out) | ((with_reducible repeat (first | apply Wr.alloc | apply Wr.drewN | apply Wr.drew)); exact HW.out)) HL5.out HF.out H0.out H1.out).mono ?_); rintro e w6 ⟨rfl, F6, hw6, hu, hF6⟩; rw [← HZ.out] at hw6; have n0_ := Aside0.mk (Below.trans (by repeat (first | (with_reducible first | exact HB.out | apply below_alloc | apply pw_below_drewN | apply below_drew1) | exact HB.out)) (hu.below (fun k hk => Wr.ge HW.out hk) (below_size (by repeat (first | (with_reducible first | exact HB.out | apply below_alloc | apply pw_below_drewN | apply below_drew1) | exact HB.out))))); clear HB HW; have HB := n0_; have HW := Aside0.mk hw6; clear n0_ hw6 hu hF6) | (go_at_call 36; (with_reducible refine (gazetteerref01_Fits.calls a2 a3 _ _ HQ.out).mono ?_); rintro e w' ⟨rfl, ⟨nd2, rfl⟩⟩))
    go_cut [11] (fun v wc => Want w Z v wc)
    case first =>
      clear hw k1 k2 k3 hd1 hd2
      refine start_ (n := 16) (S := fun _ => True) (ds := []) #[false, false, false, false, false, false, false, false, false, false, false, false, false, false, false, false] (by kernel_rfl) rfl rfl trivial (fun hHeld => ?_)
      have n0_ := Aside0.mk (show Below w.heap.size w ((w6.drewN nd2).drew) from (by repeat (first | (with_reducible first | exact HB.out | apply below_alloc | apply pw_below_drewN | apply below_drew1) | exact HB.out)))
      have n1_ := Aside0.mk (show Wr ((w6.drewN nd2).drew) w.heap.size F6 (w.heap.size + 1) Z 0 (.map []) from (by first | (with_reducible exact HW.out) | ((with_reducible repeat (first | apply Wr.alloc | apply Wr.drewN | apply Wr.drew)); exact HW.out)))
      clear HB HW
      have HB := n0_
      have HW := n1_
      clear n0_ n1_
      generalize (w6.drewN nd2).drew = wd at HB HW ⊢
      refine pure_ (i := 1) (N := some 73) (v := ?_) (a' := ?_) #[false, true, false, false, false, false, false, false, false, false, false, false, false, false, false, false] rfl rfl (by kernel_rfl) (fun _ _ _ h => h) (Or.inl ⟨by rfl, ?hy1⟩) ?ha1 ?_; (case hy1 => (intro w'; go_simp; with_reducible rfl)); (case ha1 => (simp only [Act.put, List.setIfInBounds_toArray, List.set_cons_zero, List.set_cons_succ, i64_w, i32_w]; rfl))
      refine pure_ (i := 2) (N := some 74) (v := ?_) (a' := ?_) #[false, true, true, false, false, false, false, false, false, false, false, false, false, false, false, false] rfl rfl (by kernel_rfl) (fun _ _ _ h => h) (Or.inl ⟨by rfl, ?hy2⟩) ?ha2 ?_; (case hy2 => (intro w'; go_simp; with_reducible rfl)); (case ha2 => (simp only [Act.put, List.setIfInBounds_toArray, List.set_cons_zero, List.set_cons_succ, i64_w, i32_w]; rfl))
      refine pure_ (i := 3) (N := some 75) (v := ?_) (a' := ?_) #[false, true, true, true, false, false, false, false, false, false, false, false, false, false, false, false] rfl rfl (by kernel_rfl) (fun _ _ _ h => h) (Or.inl ⟨by rfl, ?hy3⟩) ?ha3 ?_; (case hy3 => (intro w'; go_simp; with_reducible rfl)); (case ha3 => (simp only [Act.put, List.setIfInBounds_toArray, List.set_cons_zero, List.set_cons_succ, i64_w, i32_w]; rfl))
      refine pure_ (i := 5) (N := some 77) (v := ?_) (a' := ?_) #[false, true, true, true, false, true, false, false, false, false, false, false, false, false, false, false] rfl rfl (by kernel_rfl) (fun _ _ _ h => h) (Or.inl ⟨by rfl, ?hy4⟩) ?ha4 ?_; (case hy4 => (intro w'; go_simp; with_reducible rfl)); (case ha4 => (simp only [Act.put, List.setIfInBounds_toArray, List.set_cons_zero, List.set_cons_succ, i64_w, i32_w]; rfl))
      refine pure_ (i := 6) (N := some 78) (v := ?_) (a' := ?_) #[false, true, true, true, false, true, true, false, false, false, false, false, false, false, false, false] rfl rfl (by kernel_rfl) (fun _ _ _ h => h) (Or.inl ⟨by rfl, ?hy5⟩) ?ha5 ?_; (case hy5 => (intro w'; go_simp; with_reducible rfl)); (case ha5 => (simp only [Act.put, List.setIfInBounds_toArray, List.set_cons_zero, List.set_cons_succ, i64_w, i32_w]; rfl))
      refine pure_ (i := 9) (N := some 81) (v := ?_) (a' := ?_) #[false, true, true, true, false, true, true, false, false, true, false, false, false, false, false, false] rfl rfl (by kernel_rfl) (fun _ _ _ h => h) (Or.inl ⟨by rfl, ?hy6⟩) ?ha6 ?_; (case hy6 => (intro w'; go_simp; with_reducible rfl)); (case ha6 => (simp only [Act.put, List.setIfInBounds_toArray, List.set_cons_zero, List.set_cons_succ, i64_w, i32_w]; rfl))
      refine pure_ (i := 10) (N := some 82) (v := ?_) (a' := ?_) #[false, true, true, true, false, true, true, false, false, true, true, false, false, false, false, false] rfl rfl (by kernel_rfl) (fun _ _ _ h => h) (Or.inl ⟨by rfl, ?hy7⟩) ?ha7 ?_; (case hy7 => (intro w'; go_simp; with_reducible rfl)); (case ha7 => (simp only [Act.put, List.setIfInBounds_toArray, List.set_cons_zero, List.set_cons_succ, i64_w, i32_w]; rfl))
      refine pure_ (i := 11) (N := some 83) (v := ?_) (a' := ?_) #[false, true, true, true, false, true, true, false, false, true, true, true, false, false, false, false] rfl rfl (by kernel_rfl) (fun _ _ _ h => h) (Or.inl ⟨by rfl, ?hy8⟩) ?ha8 ?_; (case hy8 => (intro w'; go_simp; with_reducible rfl)); (case ha8 => (simp only [Act.put, List.setIfInBounds_toArray, List.set_cons_zero, List.set_cons_succ, i64_w, i32_w]; rfl))
      refine pure_ (i := 12) (N := some 84) (v := ?_) (a' := ?_) #[false, true, true, true, false, true, true, false, false, true, true, true, true, false, false, false] rfl rfl (by kernel_rfl) (fun _ _ _ h => h) (Or.inl ⟨by rfl, ?hy9⟩) ?ha9 ?_; (case hy9 => (intro w'; go_simp; with_reducible rfl)); (case ha9 => (simp only [Act.put, List.setIfInBounds_toArray, List.set_cons_zero, List.set_cons_succ, i64_w, i32_w]; rfl))
      refine pure_ (i := 13) (N := some 85) (v := ?_) (a' := ?_) #[false, true, true, true, false, true, true, false, false, true, true, true, true, true, false, false] rfl rfl (by kernel_rfl) (fun _ _ _ h => h) (Or.inl ⟨by rfl, ?hy10⟩) ?ha10 ?_; (case hy10 => (intro w'; go_simp; with_reducible rfl)); (case ha10 => (simp only [Act.put, List.setIfInBounds_toArray, List.set_cons_zero, List.set_cons_succ, i64_w, i32_w]; rfl))
      refine one_ (i := 0) (N := some 72) #[true, true, true, true, false, true, true, false, false, true, true, true, true, true, false, false] rfl rfl (by kernel_rfl) (by decide) (fun K hK => ?_)
      refine Kd.R_lit_step (w0 := w) (Kd.int .u8) w.heap.size 5 (by rfl) (N := 72) rfl (xs := ([] : List Int)) (inner := []) (ok := fun k => ¬ F6 k) (okp := fun _ => False) (lit_u8 rfl) (Reps.none _ _) (fun _ hk => hk.elim) (Wr.lt HW.out (Nat.le_refl _)) HB.out HB.out.size (Nat.zero_le _) ?_
      intro v72 w72 ho hb hg hat
      have n1_ := Aside0.mk (Wr.grown HW.out hg (fun k hk => by cases hk))
      clear HB HW hat hg
      have HB := Aside0.mk hb
      have HO := Aside0.mk ho
      have HW := n1_
      clear n1_ hb ho
      refine hK.out _ _ trivial (fun hHeld => ?_)
      clear hK K
      refine norm_ (a' := ?_) ?hn12 ?_; (case hn12 => (show Act.put _ (some 72) _ = _; simp only [Act.put, List.setIfInBounds_toArray, List.set_cons_zero, List.set_cons_succ, i64_w, i32_w]; rfl))
      refine one_ (i := 4) (N := some 76) #[true, true, true, true, true, true, true, false, false, true, true, true, true, true, false, false] rfl rfl (by kernel_rfl) (by decide) (fun K hK => ?_)
      refine Kd.R_append_rows_step (Kd.int .u8) (w0 := w) w.heap.size (by rfl) (.tmp 72) (.tmp 75) 24 5 (.int .u8 0) 1 rfl Try.underlying24 infoB rfl (by decide) (by omega) v72 [] (l1.take a1.toNat) _ _ _ (fun k => ¬ F6 k) (fun _ => False) rfl rfl HO.out ?aR76 (fun _ _ h => h) (fun _ h => h.elim) (fun k hk => Wr.lt HW.out hk) HB.out HB.out.size ?aL76 ?_
      (case aR76 => exact Kd.C_below HCA.out HB.out)
      (case aL76 => have := H0.out; have := H1.out; have := HT.out; simp; omega)
      intro v76 w76 ho hb hg hat
      have n1_ := Aside0.mk (Wr.grown HW.out hg (fun k hk => HO.out.1 k hk))
      clear HO HB HW hat hg
      have HB := Aside0.mk hb
      have HO := Aside0.mk ho
      have HW := n1_
      clear n1_ hb ho
      refine hK.out _ _ trivial (fun hHeld => ?_)
      clear hK K
      refine norm_ (a' := ?_) ?hn14 ?_; (case hn14 => (show Act.put _ (some 76) _ = _; simp only [Act.put, List.setIfInBounds_toArray, List.set_cons_zero, List.set_cons_succ, i64_w, i32_w]; rfl))
      refine one_ (i := 7) (N := some 79) #[true, true, true, true, true, true, true, true, false, true, true, true, true, true, false, false] rfl rfl (by kernel_rfl) (by decide) (fun K hK => ?_)
      refine goes_ Try.func37 (by kernel_rfl) rfl #[.slice none 0 0, .int .i64 a2, .int .i64 a3] (by rfl) rfl rfl (by simp [Act.eval]) ?_
      refine (gazetteerref01_Put.calls none 0 [] a2 a3 _ _ (Kd.C_nil _ _) (Nat.le_refl _) HP.out).mono ?_
      rintro e w79 ⟨v79, rfl, ho, hb⟩
      have n0_ := Aside0.mk (below_step HB.out hb)
      have n1_ := Aside0.mk (Wr.below HW.out hb)
      have n2_ := Aside0.mk (Kd.R_below HO.out hb)
      clear HB HW HO
      have HB := n0_
      have HW := n1_
      have HO := n2_
      have HPO := Aside0.mk ho
      clear n0_ n1_ n2_ ho hb
      obtain ⟨A79, c79, e79⟩ := Kd.R_slice HPO.out
      subst e79
      refine ⟨_, rfl, ?_⟩
      refine hK.out _ _ trivial (fun hHeld => ?_)
      clear hK K
      refine norm_ (a' := ?_) ?hn16 ?_; (case hn16 => (show Act.put _ (some 79) _ = _; simp only [Act.put, List.setIfInBounds_toArray, List.set_cons_zero, List.set_cons_succ, i64_w, i32_w]; rfl))
      refine one_ (i := 8) (N := some 80) #[true, true, true, true, true, true, true, true, true, true, true, true, true, true, false, false] rfl rfl (by kernel_rfl) (by decide) (fun K hK => ?_)
      refine Kd.R_append_rows_step (Kd.int .u8) (w0 := w) w.heap.size (by rfl) (.tmp 76) (.tmp 79) 24 5 (.int .u8 0) 1 rfl Try.underlying24 infoB rfl (by decide) (by omega) v76 ([] ++ l1.take a1.toNat) (be a2 a3.toNat) _ _ _ (fun k => ¬ F6 k) (fun _ => False) rfl rfl HO.out ?aR80 (fun _ _ h => h) (fun _ h => h.elim) (fun k hk => Wr.lt HW.out hk) HB.out HB.out.size ?aL80 ?_
      (case aR80 => exact (Kd.R_reads' HPO.out).2.2)
      (case aL80 => have := H0.out; have := H1.out; have := HT.out; simp only [List.nil_append, List.length_take, be_length]; omega)
      intro v80 w80 ho hb hg hat
      have n1_ := Aside0.mk (Wr.grown HW.out hg (fun k hk => HO.out.1 k hk))
      clear HO HB HW hat hg
      have HB := Aside0.mk hb
      have HO := Aside0.mk ho
      have HW := n1_
      clear n1_ hb ho
      refine hK.out _ _ trivial (fun hHeld => ?_)
      clear hK K
      refine norm_ (a' := ?_) ?hn18 ?_; (case hn18 => (show Act.put _ (some 80) _ = _; simp only [Act.put, List.setIfInBounds_toArray, List.set_cons_zero, List.set_cons_succ, i64_w, i32_w]; rfl))
      refine one_ (i := 14) (N := some 86) #[true, true, true, true, true, true, true, true, true, true, true, true, true, true, true, false] rfl rfl (by kernel_rfl) (by decide) (fun K hK => ?_)
      refine Kd.R_append_rows_step (Kd.int .u8) (w0 := w) w.heap.size (by rfl) (.tmp 80) (.tmp 85) 24 5 (.int .u8 0) 1 rfl Try.underlying24 infoB rfl (by decide) (by omega) v80 ([] ++ l1.take a1.toNat ++ be a2 a3.toNat) (l1.drop (a1 + a3).toNat) _ _ _ (fun k => ¬ F6 k) (fun _ => False) rfl rfl HO.out ?aR86 (fun _ _ h => h) (fun _ h => h.elim) (fun k hk => Wr.lt HW.out hk) HB.out HB.out.size ?aL86 ?_
      (case aR86 => exact Kd.C_below HCB.out HB.out)
      (case aL86 => have := H0.out; have := H1.out; have := HT.out; simp only [List.nil_append, List.length_append, List.length_take, be_length]; omega)
      intro v86 w86 ho hb hg hat
      have n1_ := Aside0.mk (Wr.grown HW.out hg (fun k hk => HO.out.1 k hk))
      clear HO HB HW hat hg
      have HB := Aside0.mk hb
      have HO := Aside0.mk ho
      have HW := n1_
      clear n1_ hb ho
      refine hK.out _ _ trivial (fun hHeld => ?_)
      clear hK K
      refine norm_ (a' := ?_) ?hn20 ?_; (case hn20 => (show Act.put _ (some 86) _ = _; simp only [Act.put, List.setIfInBounds_toArray, List.set_cons_zero, List.set_cons_succ, i64_w, i32_w]; rfl))
      rw [show [] ++ l1.take a1.toNat ++ be a2 a3.toNat ++ l1.drop (a1 + a3).toNat = Z by rw [HZ.out]; simp] at HO
      obtain ⟨A86, c86, e86⟩ := Kd.R_slice HO.out
      subst e86
      refine pure_ (i := 15) (N := some 11) (v := ?_) (a' := ?_) #[true, true, true, true, true, true, true, true, true, true, true, true, true, true, true, true] rfl rfl (by kernel_rfl) (fun _ _ _ h => h) (Or.inl ⟨by rfl, ?hy21⟩) ?ha21 ?_; (case hy21 => (intro w'; go_simp; with_reducible rfl)); (case ha21 => (simp only [Act.put, List.setIfInBounds_toArray, List.set_cons_zero, List.set_cons_succ, i64_w, i32_w]; rfl))
      refine done_ (by kernel_rfl) ?_
      go_wp2
      go_meet
      case rel => exact ⟨A86, c86, F6, rfl, HB, HW, ⟨Kd.R_mono HO.out (fun _ _ => trivial)⟩⟩
    case rest =>
      clear HB HW hw k1 k2 k3 hwr hcutA hcutB
      obtain ⟨A8, c8, F8, rfl, HB, HW, HV⟩ := hcut
      have hsz := Aside0.mk HB.out.size
      go_wp2_with (first | (go_at_call 33; (with_reducible refine (wname_Bytes _ _ F8 Z 0 (.map []) wc HW.out HZ5.out).mono ?_); rintro e w7 ⟨v7, rfl, ho, hb⟩; have HO := Aside0.mk ho; have n0_ := Aside0.mk (below_step HB.out hb); have n1_ := Aside0.mk (Wr.below HW.out hb); have n2_ := Aside0.mk (Kd.R_below (Kd.R_mono (ok' := fun k => k < wc.heap.size) (Kd.R_bound HV.out) (fun k hk => hk.2.2.1)) hb); have HFN := Aside0.mk (fun k (hk : F8 k) => Nat.lt_of_not_le (fun h => Wr.lt HW.out h hk)); clear HB HW HV ho hb; have HB := n0_; have HW := n1_; have HV := n2_; clear n0_ n1_ n2_; obtain ⟨A7, c7, e7⟩ := Kd.R_slice HO.out; subst e7) | (go_at_call 16; (with_reducible refine (gazetteerref01_Same.calls A7 c7 Z A8 c8 Z true _ ?s1 ?s2 ?s3 ?s4 HE.out).mono ?_); (case s1 => exact (Kd.R_reads' (by first | (with_reducible exact HO.out) | ((with_reducible repeat (first | apply Kd.R_alloc | apply Kd.R_drewN | apply Kd.R_drew)); exact HO.out))).2.2); (case s2 => exact (Kd.R_reads' HO.out).2.1); (case s3 => exact (Kd.R_reads' (by first | (with_reducible exact HV.out) | ((with_reducible repeat (first | apply Kd.R_alloc | apply Kd.R_drewN | apply Kd.R_drew)); exact HV.out))).2.2); (case s4 => exact (Kd.R_reads' HV.out).2.1); rintro e w' ⟨rfl, ⟨nd3, rfl⟩⟩))
      have HLC := Aside0.mk (show w.heap.size ≤ wc.heap.size from hsz.out)
      go_loopw [13] (fun v wr => ∃ j : Nat, v = .int .i64 j ∧ j ≤ Z.length ∧ Aside0 (Held w F8 wc.heap.size Z (.slice A7 Z.length c7) (.slice A8 Z.length c8) Z.length wr)) (fun v _ => Z.length - (intOf v).toNat)
      case atStart => exact ⟨0, rfl, Nat.zero_le _, ⟨(by repeat (first | (with_reducible first | exact HB.out | apply below_alloc | apply pw_below_drewN | apply below_drew1) | exact HB.out)), (by first | (with_reducible exact HW.out) | ((with_reducible repeat (first | apply Wr.alloc | apply Wr.drewN | apply Wr.drew)); exact HW.out)), (by first | (with_reducible exact HV.out) | ((with_reducible repeat (first | apply Kd.R_alloc | apply Kd.R_drewN | apply Kd.R_drew)); exact HV.out)), Z, rfl, (by first | (with_reducible exact HO.out) | ((with_reducible repeat (first | apply Kd.R_alloc | apply Kd.R_drewN | apply Kd.R_drew)); exact HO.out))⟩⟩
      case round =>
        clear HB HW HV HO
        obtain ⟨j, rfl, hj, HH⟩ := hrel
        obtain ⟨hb, hw, hv, xs, hx, ho⟩ := HH.out
        clear HH
        by_cases hlt : j < Z.length
        · obtain ⟨g7, cap7, e7, gb7, _, _⟩ := Kd.R_form ho (by omega)
          injection e7 with ea en ec
          subst ea ec
          clear en
          obtain ⟨hxc, hfz⟩ := Kd.R_celln 0 ho (j : Int) (by omega) (by omega)
          obtain ⟨q, hq⟩ : ∃ q, rdOf 0 xs (j : Int) = q := ⟨_, rfl⟩
          rw [hq] at hxc
          clear hq
          simp only [Int.toNat_natCast] at hxc hfz
          have hp := Kd.R_putg ho (j : Int) ((q + 1) % 256)
          simp only [Int.toNat_natCast] at hp
          have hbase := hw.base_le
          have n1_ := Aside0.mk (Wr.grown hw hp.2 (fun k hk hF => by injection hk with hk; have := HFN.out k hF; omega))
          have n2_ := Aside0.mk (Kd.R_grown hv hp.2 (fun k hk he => by injection he with he; omega))
          have HP := Aside0.mk hp
          have HB := Aside0.mk hb
          have GB := Aside0.mk gb7
          have HX := Aside0.mk hx
          have GN := Aside0.mk (show w.heap.size ≤ g7 from Nat.le_trans HLC.out gb7)
          clear hp hb hw hv ho gb7 hx
          have hj5 : j < 5000 := by have := HZL.out; omega
          go_wp2
          go_roundw
          case rel => exact ⟨j + 1, by go_num, by omega, ⟨below_set HB.out GN.out, n1_.out, n2_.out, _, by rw [List.length_set]; exact HX.out, HP.out.1⟩⟩
          case measure => simp [intOf]; omega
        · have HB := Aside0.mk hb
          have HW := Aside0.mk hw
          have HV := Aside0.mk hv
          clear hb hw hv ho hx
          go_wp2_with (first | (go_at_call 25; (with_reducible refine (wname_Raw_nil _ _ _ _).mono ?_); rintro e w' ⟨rfl, rfl⟩) | (go_at_call 33; first | ((with_reducible refine (wname_Bytes_nil _).mono ?_); rintro e w' ⟨rfl, rfl⟩) | ((with_reducible refine (wname_Bytes _ _ F8 Z 0 (.map []) _ (by first | (with_reducible exact HW.out) | ((with_reducible repeat (first | apply Wr.alloc | apply Wr.drewN | apply Wr.drew)); exact HW.out)) HZ5.out).mono ?_); rintro e w9 ⟨v9, rfl, ho, hb⟩; have HO := Aside0.mk ho; have n0_ := Aside0.mk (below_step (by repeat (first | (with_reducible first | exact HB.out | apply below_alloc | apply pw_below_drewN | apply below_drew1) | exact HB.out)) hb); have n2_ := Aside0.mk (Kd.R_below (by first | (with_reducible exact HV.out) | ((with_reducible repeat (first | apply Kd.R_alloc | apply Kd.R_drewN | apply Kd.R_drew)); exact HV.out)) hb); clear HB HV ho hb; have HB := n0_; have HV := n2_; clear n0_ n2_; obtain ⟨A9, c9, e9⟩ := Kd.R_slice HO.out; subst e9)) | (go_at_call 16; (with_reducible refine (gazetteerref01_Same.calls A9 c9 Z A8 c8 Z true _ ?s1 ?s2 ?s3 ?s4 HE.out).mono ?_); (case s1 => exact (Kd.R_reads' (by first | (with_reducible exact HO.out) | ((with_reducible repeat (first | apply Kd.R_alloc | apply Kd.R_drewN | apply Kd.R_drew)); exact HO.out))).2.2); (case s2 => exact (Kd.R_reads' HO.out).2.1); (case s3 => exact (Kd.R_reads' (by first | (with_reducible exact HV.out) | ((with_reducible repeat (first | apply Kd.R_alloc | apply Kd.R_drewN | apply Kd.R_drew)); exact HV.out))).2.2); (case s4 => exact (Kd.R_reads' HV.out).2.1); rintro e w' ⟨rfl, ⟨nd3, rfl⟩⟩) | (go_at_call 35; (with_reducible refine (wname_Set_nil _ _ _ _).mono ?_); rintro e w' ⟨rfl, ⟨nd4, rfl⟩⟩) | (go_at_call 29; (with_reducible refine (Name_nil _ _ _ _ _).mono ?_); rintro e w' ⟨rfl, ⟨nd5, rfl⟩⟩) | (go_at_call 32; (with_reducible refine (wname_Len_nil _).mono ?_); rintro e w' ⟨rfl, rfl⟩))
          go_ret
          exact ⟨rfl, (by repeat (first | (with_reducible first | exact HB.out | apply below_alloc | apply pw_below_drewN | apply below_drew1) | exact HB.out))⟩
theorem walk (w : World) (A1 : Option Addr) (c1 : Nat) (l1 : List Int) (hC : Kd.C (Kd.int .u8) w A1 l1.length l1) (hc : l1.length ≤ c1) (hok : l1.length * 1 ≤ 140737488351232 ∧ ∀ x ∈ l1, (Lit.int .u8 x).wf = true)
    (a1 : Int) (w1 : (Lit.int .i64 a1).wf = true) (a2 : Int) (w2 : (Lit.int .i64 a2).wf = true) (a3 : Int) (w3 : (Lit.int .i64 a3).wf = true) :
    Calls Try.prog 12 #[.slice A1 l1.length c1, .int .i64 a1, .int .i64 a2, .int .i64 a3] w fun e w' => e = .returned (.bool true) ∧ Below w.heap.size w w' := by
  by_cases hl : 5000 < l1.length
  · exact large w A1 c1 l1 hC a1 a2 a3 hl
  · by_cases hb : fits a2 a3 = false ∨ a1 < 0 ∨ (l1.length : Int) < a1 ∨ (l1.length : Int) - a1 < a3
    · exact bad w A1 c1 l1 hC hc a1 a2 a3 (by omega) (wf64 w1).2 (wf64 w2).2 (wf64 w3).2 hb
    · simp only [not_or] at hb
      obtain ⟨b1, b2, b3, b4⟩ := hb
      exact good w A1 c1 l1 hC hc a1 a2 a3 (by omega) (wf64 w2).2 (by simpa using b1) (by omega) (by omega)
end Go.Proofs.Ytahnncccdlblgaa.WnameSets
