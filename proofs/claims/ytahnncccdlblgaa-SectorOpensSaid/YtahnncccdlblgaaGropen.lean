/- What the reference's Open does, in closed form. Conditions: cells that are bytes. -/
import Derived.Test.YtahnncccdlblgaaGopen
import Derived.Below
import Derived.Deep.Draws
import Derived.Deep.AppendLies
import Derived.Maps.AppendAt
import Derived.OwnWalk
import Derived.Laws.BytesArg
import Derived.Laws.MakeOwn
import Derived.Laws.OwnMore
import Derived.Deep.OwnRows
import Derived.Tactics
import Derived.Lib.ConvBytes
import Derived.Laws.Slices
import Derived.WalkKit
import Derived.KernelRfl
import Derived.RowKit3
import Derived.Deep.LoopGhost
import Derived.Deep.QuietTactic
import Derived.BigQuiet
import Derived.WideLaws
import Derived.Deep.DeepCutAuto
import Derived.Deep.CutBlock
import Derived.Deep.RegionHeld3
import Derived.Laws.Rows
import Derived.Lib.AppendStr
import Derived.ArgAppend
import Derived.Laws.IdiomCopy
import Derived.OrdersHeld
import Derived.Laws.BitsLemmas
import Derived.RowKit
namespace Go.Proofs.Ytahnncccdlblgaa.G
open Go.RowKit Go.Proofs.YtahnncccdlblgaaW.PrintWords Go.Proofs.YtahnncccdlblgaaW.PrintLast Go.Proofs.YtahnncccdlblgaaW.PrintMore Go.Proofs.Ytahnncccdlblgaa.Plain
attribute [local go_sem] max2_int min2_int max_two min_two max_three min_three max_four min_four
set_option linter.unusedVariables false
set_option linter.unusedSimpArgs false
/-- The reference's answer. -/
def ropenF (l : List Int) : Int × Int × Int × Int × Int × List Int × Int :=
  if l.length = 512 then
    (if fieldN l 5 ≤ 496 then
      (if fieldN l 0 = 0 then (0, 0, 0, 0, 0, [], 14)
        else (if fieldN l 4 = 0 then (0, 0, 0, 0, 0, [], 14)
          else (if fieldN l 4 ≤ fieldN l 3 then (0, 0, 0, 0, 0, [], 14)
            else (if (l.drop (16 + fieldN l 5).toNat).all (fun x => x == 0) = true then (fieldN l 0, fieldN l 1, fieldN l 2, fieldN l 3, fieldN l 4, dataN l, 0)
              else (0, 0, 0, 0, 0, [], 14)))))
      else (0, 0, 0, 0, 0, [], 14))
    else (0, 0, 0, 0, 0, [], 3)
def gazetteerref08_Open.f (l : List Int) : Option (Int × Int × Int × Int × Int × List Int × Int) := if bytesB l = true then some (ropenF l) else none
theorem all_zero_iff (l : List Int) (m : Nat) : (l.drop m).all (fun x => x == 0) = true ↔ ∀ j, m ≤ j → j < l.length → l.getD j 0 = 0 := by
  rw [List.all_eq_true]
  constructor
  · intro h j hm hj
    rw [List.getD_eq_getElem?_getD, List.getElem?_eq_getElem hj, Option.getD_some]
    have hk : j - m < (l.drop m).length := by rw [List.length_drop]; omega
    have := h _ (List.getElem_mem hk)
    rw [List.getElem_drop] at this
    simp only [beq_iff_eq] at this
    have e : m + (j - m) = j := by omega
    simp only [e] at this
    exact this
  · intro h x hx
    obtain ⟨k, hk, rfl⟩ := List.getElem_of_mem hx
    rw [List.length_drop] at hk
    have := h (m + k) (by omega) (by omega)
    rw [List.getD_eq_getElem?_getD, List.getElem?_eq_getElem (by omega), Option.getD_some] at this
    rw [List.getElem_drop, beq_iff_eq]
    exact this
section
variable {P : Program} {ops : Array Oper} {o : Oper} {a : Act} {Q : Exit → Act → World → Prop} {Kc : Act → World → Prop}
theorem store_step {W w1 : World} (hw : Region.wanted o (yielded ops a.tmps) = true) {N : Option Tmp} (hN : o.dst = none) (hNN : N = none) (hrun : (execOp a.eval o).run P W = .ok .skip w1) (h : Kc a w1) : if Region.wanted o (yielded ops a.tmps) = true then Oper.wp P o a W Kc Q else Kc (a.put N undef) W := by
  rw [if_pos hw]
  unfold Oper.wp
  rw [hrun]
  show Kc (a.put o.dst undef) w1
  rw [hN]
  exact h
end
theorem drawn_heap {w w' : World} (h : Drawn0 w w') (g : Nat) : w'.heap[g]? = w.heap[g]? := by
  obtain ⟨nd, rfl⟩ := h
  rfl
theorem drawn_below {w0 w w' : World} (h : Drawn0 w w') (hb : Below w0.heap.size w0 w) : Below w0.heap.size w0 w' := by
  obtain ⟨nd, rfl⟩ := h
  exact pw_below_drewN hb nd

set_option maxHeartbeats 8000000 in
theorem gazetteerref08_Open.calls (A0 : Option Addr) (c0 : Nat) (l0 : List Int) (r0 r1 r2 r3 r4 : Int) (r5 : List Int) (r6 : Int) (w : World) (hr0 : Kd.C (Kd.int .u8) w A0 l0.length l0) (hc0 : l0.length ≤ c0) (h : gazetteerref08_Open.f l0 = some (r0, r1, r2, r3, r4, r5, r6)) :
    Calls Try.prog 22 #[.slice A0 l0.length c0] w fun e w' => ∃ v0_ : Value, e = .returned (.tuple #[.agg #[.int .i64 r0, .int .i64 r1, .int .i64 r2, .int .i64 r3, .int .i64 r4], v0_, .int .i64 r6]) ∧ Kd.R (Kd.int .u8) 5 w' w.heap.size (fun _ => True) v0_ r5 ∧ Below w.heap.size w w' := by
  have HR0 := Aside0.mk hr0
  have HC0 := Aside0.mk hc0
  have HB := Aside0.mk (Below.refl w.heap.size w)
  unfold gazetteerref08_Open.f at h
  have hbb : bytesB l0 = true := by
    cases hbb : bytesB l0 with
    | true => rfl
    | false => rw [hbb] at h; cases h
  rw [if_pos hbb] at h
  have hE := Option.some.inj h
  clear h hr0 hc0
  unfold ropenF at hE
  by_cases hl : l0.length = 512
  rotate_left
  · rw [if_neg hl] at hE
    simp only [Prod.mk.injEq] at hE
    obtain ⟨rfl, rfl, rfl, rfl, rfl, rfl, rfl⟩ := hE
    have hnb : (((l0.length : Int)) != 512) = true := bne_iff_ne.2 (by omega)
    go_enter Try.func22, Try.ntmps22
    go_wp2
    (try simp only [Exit.inBlock, Exit.then])
    refine bodyPost_ret (results_ctt rfl _ _ w.heap.size 43 _ (0, 0) _ rfl (blk_alloc (blk_new w _) _) Try.underlying43 rfl (by kernel_rfl)) rfl ?_
    exact ⟨_, rfl, Kd.R_nil _ _ _ _ _, (by repeat (first | (with_reducible first | exact HB.out | apply below_alloc | apply pw_below_drewN | apply below_drew1) | exact HB.out))⟩
  rw [if_pos hl] at hE
  have hnb : (((l0.length : Int)) != 512) = false := bne_eq_false_iff_eq.2 (by omega)
  have HL := Aside0.mk hl
  have HG0 := Aside0.mk (show gazetteerref01_Get.f l0 0 1 = some (fieldN l0 0, 0) from get_field l0 hbb hl 0 (by omega))
  have HG1 := Aside0.mk (show gazetteerref01_Get.f l0 1 4 = some (fieldN l0 1, 0) from get_field l0 hbb hl 1 (by omega))
  have HG2 := Aside0.mk (show gazetteerref01_Get.f l0 5 7 = some (fieldN l0 2, 0) from get_field l0 hbb hl 2 (by omega))
  have HG3 := Aside0.mk (show gazetteerref01_Get.f l0 12 1 = some (fieldN l0 3, 0) from get_field l0 hbb hl 3 (by omega))
  have HG4 := Aside0.mk (show gazetteerref01_Get.f l0 13 1 = some (fieldN l0 4, 0) from get_field l0 hbb hl 4 (by omega))
  have HG5 := Aside0.mk (show gazetteerref01_Get.f l0 14 2 = some (fieldN l0 5, 0) from get_field l0 hbb hl 5 (by omega))
  have hfb := field_bd l0 hbb 5
  have hdat : dataN l0 = (l0.take (16 + fieldN l0 5).toNat).drop (16 : Int).toNat := rfl
  obtain ⟨d, hd⟩ : ∃ d, dataN l0 = d := ⟨_, rfl⟩
  rw [hd] at hdat hE
  clear hl
  generalize fieldN l0 0 = f0 at *
  generalize fieldN l0 1 = f1 at *
  generalize fieldN l0 2 = f2 at *
  generalize fieldN l0 3 = f3 at *
  generalize fieldN l0 4 = f4 at *
  generalize fieldN l0 5 = f5 at *
  by_cases h5 : f5 ≤ 496
  rotate_left
  · rw [if_neg h5] at hE
    have k5 : decide (496 < f5) = true := decide_eq_true (by omega)
    obtain ⟨rfl, rfl, rfl, rfl, rfl, rfl, rfl⟩ : 0 = r0 ∧ 0 = r1 ∧ 0 = r2 ∧ 0 = r3 ∧ 0 = r4 ∧ [] = r5 ∧ 14 = r6 := by simpa using hE
    clear hE 
    go_enter Try.func22, Try.ntmps22
    go_wp2_with (first | ((with_reducible refine gate_dst (N := 2) rfl ?_); refine box_event ?hg (N := 2) ?hd (cs := #[.int .i64 0, .int .i64 0, .int .i64 0, .int .i64 0, .int .i64 0]) (t := 43) ?hr ?_; (case hd => rfl); (case hg => rfl); (case hr => first | (go_simp; done) | (go_simp; rfl)); intro gh hg wgh hbk hb; have n1_ := Aside0.mk (show w.heap.size ≤ gh from by rw [hg]; exact (below_size (by repeat (first | (with_reducible first | exact HB.out | apply below_alloc | apply pw_below_drewN | apply below_drew1) | exact HB.out)))); have n2_ := Aside0.mk (below_step (by repeat (first | (with_reducible first | exact HB.out | apply below_alloc | apply pw_below_drewN | apply below_drew1) | exact HB.out)) hb); clear HB; have GEH := n1_; have HB := n2_; have GH := Aside0.mk hbk; clear n1_ n2_ hb hbk hg) | ((with_reducible refine gate_dst (N := 5) rfl ?_); refine box_event ?hg (N := 5) ?hd (cs := #[.int .i64 0, .int .i64 0, .int .i64 0, .int .i64 0, .int .i64 0]) (t := 43) ?hr ?_; (case hd => rfl); (case hg => rfl); (case hr => first | (go_simp; done) | (go_simp; rfl)); intro ga hg wga hbk hb; have n1_ := Aside0.mk (show w.heap.size ≤ ga from by rw [hg]; exact (below_size (by repeat (first | (with_reducible first | exact HB.out | apply below_alloc | apply pw_below_drewN | apply below_drew1) | exact HB.out)))); have n2_ := Aside0.mk (below_step (by repeat (first | (with_reducible first | exact HB.out | apply below_alloc | apply pw_below_drewN | apply below_drew1) | exact HB.out)) hb); have n3_ := Aside0.mk (blk_below GH.out hb); have n4_ := Aside0.mk (show gh ≠ ga from by have := blk_lt GH.out; omega); clear HB GH; have GEA := n1_; have HB := n2_; have GH := n3_; have HNE := n4_; have GA := Aside0.mk hbk; clear n1_ n2_ n3_ n4_ hb hbk hg; have hz0 := blk_frozen GA.out 0; have hy0 := (blk_cell GA.out 0).trans (show _ = some (Value.int .i64 0) from rfl)) | (go_at_call 44; (with_reducible refine (gazetteerref01_Get.calls A0 c0 l0 0 1 f0 0 _ ?s1 ?s2 HG0.out).mono ?_); (case s1 => exact Kd.C_below HR0.out HB.out); (case s2 => exact HC0.out); rintro e v0 ⟨rfl, hd⟩; have n1_ := Aside0.mk (show v0.heap[ga]? = some (.cells #[.int .i64 0, .int .i64 0, .int .i64 0, .int .i64 0, .int .i64 0] 43 (0, 0)) from (drawn_heap hd ga).trans GA.out); have n2_ := Aside0.mk (show v0.heap[gh]? = some (.cells #[.int .i64 0, .int .i64 0, .int .i64 0, .int .i64 0, .int .i64 0] 43 (0, 0)) from (drawn_heap hd gh).trans GH.out); have n3_ := Aside0.mk (show Below w.heap.size w v0 from drawn_below hd HB.out); clear GA GH HB hd; (try clear hz0 hy0); have GA := n1_; have GH := n2_; have HB := n3_; clear n1_ n2_ n3_; have hz0 := blk_frozen GA.out 0; have hy0 := (blk_cell GA.out 0).trans (show _ = some (Value.int .i64 0) from rfl)) | (go_at_call 44; (with_reducible refine (gazetteerref01_Get.calls A0 c0 l0 1 4 f1 0 _ ?s1 ?s2 HG1.out).mono ?_); (case s1 => exact Kd.C_below HR0.out (below_set HB.out GEA.out)); (case s2 => exact HC0.out); rintro e v1 ⟨rfl, hd⟩; have n1_ := Aside0.mk (show v1.heap[ga]? = some (.cells #[.int .i64 f0, .int .i64 0, .int .i64 0, .int .i64 0, .int .i64 0] 43 (0, 0)) from (drawn_heap hd ga).trans (blk_put GA.out 0 (.int .i64 f0) rfl)); have n2_ := Aside0.mk (show v1.heap[gh]? = some (.cells #[.int .i64 0, .int .i64 0, .int .i64 0, .int .i64 0, .int .i64 0] 43 (0, 0)) from (drawn_heap hd gh).trans ((Go.Deep.blk_setCell_other _ _ _ _ HNE.out).trans GH.out)); have n3_ := Aside0.mk (show Below w.heap.size w v1 from drawn_below hd (below_set HB.out GEA.out)); clear GA GH HB hd; (try clear hz0 hy0); have GA := n1_; have GH := n2_; have HB := n3_; clear n1_ n2_ n3_; have hz1 := blk_frozen GA.out 1; have hy1 := (blk_cell GA.out 1).trans (show _ = some (Value.int .i64 0) from rfl)) | (go_at_call 44; (with_reducible refine (gazetteerref01_Get.calls A0 c0 l0 5 7 f2 0 _ ?s1 ?s2 HG2.out).mono ?_); (case s1 => exact Kd.C_below HR0.out (below_set HB.out GEA.out)); (case s2 => exact HC0.out); rintro e v2 ⟨rfl, hd⟩; have n1_ := Aside0.mk (show v2.heap[ga]? = some (.cells #[.int .i64 f0, .int .i64 f1, .int .i64 0, .int .i64 0, .int .i64 0] 43 (0, 0)) from (drawn_heap hd ga).trans (blk_put GA.out 1 (.int .i64 f1) rfl)); have n2_ := Aside0.mk (show v2.heap[gh]? = some (.cells #[.int .i64 0, .int .i64 0, .int .i64 0, .int .i64 0, .int .i64 0] 43 (0, 0)) from (drawn_heap hd gh).trans ((Go.Deep.blk_setCell_other _ _ _ _ HNE.out).trans GH.out)); have n3_ := Aside0.mk (show Below w.heap.size w v2 from drawn_below hd (below_set HB.out GEA.out)); clear GA GH HB hd; (try clear hz1 hy1); have GA := n1_; have GH := n2_; have HB := n3_; clear n1_ n2_ n3_; have hz2 := blk_frozen GA.out 2; have hy2 := (blk_cell GA.out 2).trans (show _ = some (Value.int .i64 0) from rfl)) | (go_at_call 44; (with_reducible refine (gazetteerref01_Get.calls A0 c0 l0 12 1 f3 0 _ ?s1 ?s2 HG3.out).mono ?_); (case s1 => exact Kd.C_below HR0.out (below_set HB.out GEA.out)); (case s2 => exact HC0.out); rintro e v3 ⟨rfl, hd⟩; have n1_ := Aside0.mk (show v3.heap[ga]? = some (.cells #[.int .i64 f0, .int .i64 f1, .int .i64 f2, .int .i64 0, .int .i64 0] 43 (0, 0)) from (drawn_heap hd ga).trans (blk_put GA.out 2 (.int .i64 f2) rfl)); have n2_ := Aside0.mk (show v3.heap[gh]? = some (.cells #[.int .i64 0, .int .i64 0, .int .i64 0, .int .i64 0, .int .i64 0] 43 (0, 0)) from (drawn_heap hd gh).trans ((Go.Deep.blk_setCell_other _ _ _ _ HNE.out).trans GH.out)); have n3_ := Aside0.mk (show Below w.heap.size w v3 from drawn_below hd (below_set HB.out GEA.out)); clear GA GH HB hd; (try clear hz2 hy2); have GA := n1_; have GH := n2_; have HB := n3_; clear n1_ n2_ n3_; have hz3 := blk_frozen GA.out 3; have hy3 := (blk_cell GA.out 3).trans (show _ = some (Value.int .i64 0) from rfl)) | (go_at_call 44; (with_reducible refine (gazetteerref01_Get.calls A0 c0 l0 13 1 f4 0 _ ?s1 ?s2 HG4.out).mono ?_); (case s1 => exact Kd.C_below HR0.out (below_set HB.out GEA.out)); (case s2 => exact HC0.out); rintro e v4 ⟨rfl, hd⟩; have n1_ := Aside0.mk (show v4.heap[ga]? = some (.cells #[.int .i64 f0, .int .i64 f1, .int .i64 f2, .int .i64 f3, .int .i64 0] 43 (0, 0)) from (drawn_heap hd ga).trans (blk_put GA.out 3 (.int .i64 f3) rfl)); have n2_ := Aside0.mk (show v4.heap[gh]? = some (.cells #[.int .i64 0, .int .i64 0, .int .i64 0, .int .i64 0, .int .i64 0] 43 (0, 0)) from (drawn_heap hd gh).trans ((Go.Deep.blk_setCell_other _ _ _ _ HNE.out).trans GH.out)); have n3_ := Aside0.mk (show Below w.heap.size w v4 from drawn_below hd (below_set HB.out GEA.out)); clear GA GH HB hd; (try clear hz3 hy3); have GA := n1_; have GH := n2_; have HB := n3_; clear n1_ n2_ n3_; have hz4 := blk_frozen GA.out 4; have hy4 := (blk_cell GA.out 4).trans (show _ = some (Value.int .i64 0) from rfl)) | (go_at_call 44; (with_reducible refine (gazetteerref01_Get.calls A0 c0 l0 14 2 f5 0 _ ?s1 ?s2 HG5.out).mono ?_); (case s1 => exact Kd.C_below HR0.out (below_set HB.out GEA.out)); (case s2 => exact HC0.out); rintro e v5 ⟨rfl, hd⟩; have n1_ := Aside0.mk (show v5.heap[ga]? = some (.cells #[.int .i64 f0, .int .i64 f1, .int .i64 f2, .int .i64 f3, .int .i64 f4] 43 (0, 0)) from (drawn_heap hd ga).trans (blk_put GA.out 4 (.int .i64 f4) rfl)); have n2_ := Aside0.mk (show v5.heap[gh]? = some (.cells #[.int .i64 0, .int .i64 0, .int .i64 0, .int .i64 0, .int .i64 0] 43 (0, 0)) from (drawn_heap hd gh).trans ((Go.Deep.blk_setCell_other _ _ _ _ HNE.out).trans GH.out)); have n3_ := Aside0.mk (show Below w.heap.size w v5 from drawn_below hd (below_set HB.out GEA.out)); clear GA GH HB hd; (try clear hz4 hy4); have GA := n1_; have GH := n2_; have HB := n3_; clear n1_ n2_ n3_; have hy0 := (blk_cell GA.out 0).trans (show _ = some (Value.int .i64 f0) from rfl); have hy1 := (blk_cell GA.out 1).trans (show _ = some (Value.int .i64 f1) from rfl); have hy2 := (blk_cell GA.out 2).trans (show _ = some (Value.int .i64 f2) from rfl); have hy3 := (blk_cell GA.out 3).trans (show _ = some (Value.int .i64 f3) from rfl); have hy4 := (blk_cell GA.out 4).trans (show _ = some (Value.int .i64 f4) from rfl)) | ((with_reducible refine gate_dst (N := 8) rfl ?_); refine box_event ?hg (N := 8) ?hd (cs := #[.int .i64 0, .int .i64 0, .int .i64 0, .int .i64 0, .int .i64 0]) (t := 43) ?hr ?_; (case hd => rfl); (case hg => rfl); (case hr => first | (go_simp; done) | (go_simp; rfl)); intro gn hg wgn hbk hb; have n2_ := Aside0.mk (below_step (by repeat (first | (with_reducible first | exact HB.out | apply below_alloc | apply pw_below_drewN | apply below_drew1) | exact HB.out)) hb); have n3_ := Aside0.mk (blk_below GH.out hb); have n4_ := Aside0.mk (blk_below GA.out hb); clear HB GH GA hy0 hy1 hy2 hy3 hy4; have HB := n2_; have GH := n3_; have GA := n4_; have GN := Aside0.mk hbk; clear n2_ n3_ n4_ hb hbk hg; have hy0 := (blk_cell GA.out 0).trans (show _ = some (Value.int .i64 f0) from rfl); have hy1 := (blk_cell GA.out 1).trans (show _ = some (Value.int .i64 f1) from rfl); have hy2 := (blk_cell GA.out 2).trans (show _ = some (Value.int .i64 f2) from rfl); have hy3 := (blk_cell GA.out 3).trans (show _ = some (Value.int .i64 f3) from rfl); have hy4 := (blk_cell GA.out 4).trans (show _ = some (Value.int .i64 f4) from rfl); have hx0 := (blk_cell GN.out 0).trans (show _ = some (Value.int .i64 0) from rfl); have hx1 := (blk_cell GN.out 1).trans (show _ = some (Value.int .i64 0) from rfl); have hx2 := (blk_cell GN.out 2).trans (show _ = some (Value.int .i64 0) from rfl); have hx3 := (blk_cell GN.out 3).trans (show _ = some (Value.int .i64 0) from rfl); have hx4 := (blk_cell GN.out 4).trans (show _ = some (Value.int .i64 0) from rfl); have hd0 := (blk_cell GH.out 0).trans (show _ = some (Value.int .i64 0) from rfl); have hd1 := (blk_cell GH.out 1).trans (show _ = some (Value.int .i64 0) from rfl); have hd2 := (blk_cell GH.out 2).trans (show _ = some (Value.int .i64 0) from rfl); have hd3 := (blk_cell GH.out 3).trans (show _ = some (Value.int .i64 0) from rfl); have hd4 := (blk_cell GH.out 4).trans (show _ = some (Value.int .i64 0) from rfl); have hz0 := blk_frozen GH.out 0; have hz1 := blk_frozen GH.out 1; have hz2 := blk_frozen GH.out 2; have hz3 := blk_frozen GH.out 3; have hz4 := blk_frozen GH.out 4))
    (try simp only [Exit.inBlock, Exit.then])
    refine bodyPost_ret (results_ctt rfl _ _ gh 43 _ (0, 0) _ rfl (blk_put (blk_put (blk_put (blk_put (blk_put GH.out 0 _ rfl) 1 _ rfl) 2 _ rfl) 3 _ rfl) 4 _ rfl) Try.underlying43 rfl (by kernel_rfl)) rfl ?_
    exact ⟨_, rfl, Kd.R_nil _ _ _ _ _, (below_set (below_set (below_set (below_set (below_set HB.out GEH.out) GEH.out) GEH.out) GEH.out) GEH.out)⟩
  rw [if_pos h5] at hE
  have k5 : decide (496 < f5) = false := decide_eq_false (by omega)
  by_cases h0 : f0 = 0
  · rw [if_pos h0] at hE
    have k0 : (f0 == 0) = true := beq_iff_eq.2 h0
    obtain ⟨rfl, rfl, rfl, rfl, rfl, rfl, rfl⟩ : 0 = r0 ∧ 0 = r1 ∧ 0 = r2 ∧ 0 = r3 ∧ 0 = r4 ∧ [] = r5 ∧ 14 = r6 := by simpa using hE
    clear hE h0
    go_enter Try.func22, Try.ntmps22
    go_wp2_with (first | ((with_reducible refine gate_dst (N := 2) rfl ?_); refine box_event ?hg (N := 2) ?hd (cs := #[.int .i64 0, .int .i64 0, .int .i64 0, .int .i64 0, .int .i64 0]) (t := 43) ?hr ?_; (case hd => rfl); (case hg => rfl); (case hr => first | (go_simp; done) | (go_simp; rfl)); intro gh hg wgh hbk hb; have n1_ := Aside0.mk (show w.heap.size ≤ gh from by rw [hg]; exact (below_size (by repeat (first | (with_reducible first | exact HB.out | apply below_alloc | apply pw_below_drewN | apply below_drew1) | exact HB.out)))); have n2_ := Aside0.mk (below_step (by repeat (first | (with_reducible first | exact HB.out | apply below_alloc | apply pw_below_drewN | apply below_drew1) | exact HB.out)) hb); clear HB; have GEH := n1_; have HB := n2_; have GH := Aside0.mk hbk; clear n1_ n2_ hb hbk hg) | ((with_reducible refine gate_dst (N := 5) rfl ?_); refine box_event ?hg (N := 5) ?hd (cs := #[.int .i64 0, .int .i64 0, .int .i64 0, .int .i64 0, .int .i64 0]) (t := 43) ?hr ?_; (case hd => rfl); (case hg => rfl); (case hr => first | (go_simp; done) | (go_simp; rfl)); intro ga hg wga hbk hb; have n1_ := Aside0.mk (show w.heap.size ≤ ga from by rw [hg]; exact (below_size (by repeat (first | (with_reducible first | exact HB.out | apply below_alloc | apply pw_below_drewN | apply below_drew1) | exact HB.out)))); have n2_ := Aside0.mk (below_step (by repeat (first | (with_reducible first | exact HB.out | apply below_alloc | apply pw_below_drewN | apply below_drew1) | exact HB.out)) hb); have n3_ := Aside0.mk (blk_below GH.out hb); have n4_ := Aside0.mk (show gh ≠ ga from by have := blk_lt GH.out; omega); clear HB GH; have GEA := n1_; have HB := n2_; have GH := n3_; have HNE := n4_; have GA := Aside0.mk hbk; clear n1_ n2_ n3_ n4_ hb hbk hg; have hz0 := blk_frozen GA.out 0; have hy0 := (blk_cell GA.out 0).trans (show _ = some (Value.int .i64 0) from rfl)) | (go_at_call 44; (with_reducible refine (gazetteerref01_Get.calls A0 c0 l0 0 1 f0 0 _ ?s1 ?s2 HG0.out).mono ?_); (case s1 => exact Kd.C_below HR0.out HB.out); (case s2 => exact HC0.out); rintro e v0 ⟨rfl, hd⟩; have n1_ := Aside0.mk (show v0.heap[ga]? = some (.cells #[.int .i64 0, .int .i64 0, .int .i64 0, .int .i64 0, .int .i64 0] 43 (0, 0)) from (drawn_heap hd ga).trans GA.out); have n2_ := Aside0.mk (show v0.heap[gh]? = some (.cells #[.int .i64 0, .int .i64 0, .int .i64 0, .int .i64 0, .int .i64 0] 43 (0, 0)) from (drawn_heap hd gh).trans GH.out); have n3_ := Aside0.mk (show Below w.heap.size w v0 from drawn_below hd HB.out); clear GA GH HB hd; (try clear hz0 hy0); have GA := n1_; have GH := n2_; have HB := n3_; clear n1_ n2_ n3_; have hz0 := blk_frozen GA.out 0; have hy0 := (blk_cell GA.out 0).trans (show _ = some (Value.int .i64 0) from rfl)) | (go_at_call 44; (with_reducible refine (gazetteerref01_Get.calls A0 c0 l0 1 4 f1 0 _ ?s1 ?s2 HG1.out).mono ?_); (case s1 => exact Kd.C_below HR0.out (below_set HB.out GEA.out)); (case s2 => exact HC0.out); rintro e v1 ⟨rfl, hd⟩; have n1_ := Aside0.mk (show v1.heap[ga]? = some (.cells #[.int .i64 f0, .int .i64 0, .int .i64 0, .int .i64 0, .int .i64 0] 43 (0, 0)) from (drawn_heap hd ga).trans (blk_put GA.out 0 (.int .i64 f0) rfl)); have n2_ := Aside0.mk (show v1.heap[gh]? = some (.cells #[.int .i64 0, .int .i64 0, .int .i64 0, .int .i64 0, .int .i64 0] 43 (0, 0)) from (drawn_heap hd gh).trans ((Go.Deep.blk_setCell_other _ _ _ _ HNE.out).trans GH.out)); have n3_ := Aside0.mk (show Below w.heap.size w v1 from drawn_below hd (below_set HB.out GEA.out)); clear GA GH HB hd; (try clear hz0 hy0); have GA := n1_; have GH := n2_; have HB := n3_; clear n1_ n2_ n3_; have hz1 := blk_frozen GA.out 1; have hy1 := (blk_cell GA.out 1).trans (show _ = some (Value.int .i64 0) from rfl)) | (go_at_call 44; (with_reducible refine (gazetteerref01_Get.calls A0 c0 l0 5 7 f2 0 _ ?s1 ?s2 HG2.out).mono ?_); (case s1 => exact Kd.C_below HR0.out (below_set HB.out GEA.out)); (case s2 => exact HC0.out); rintro e v2 ⟨rfl, hd⟩; have n1_ := Aside0.mk (show v2.heap[ga]? = some (.cells #[.int .i64 f0, .int .i64 f1, .int .i64 0, .int .i64 0, .int .i64 0] 43 (0, 0)) from (drawn_heap hd ga).trans (blk_put GA.out 1 (.int .i64 f1) rfl)); have n2_ := Aside0.mk (show v2.heap[gh]? = some (.cells #[.int .i64 0, .int .i64 0, .int .i64 0, .int .i64 0, .int .i64 0] 43 (0, 0)) from (drawn_heap hd gh).trans ((Go.Deep.blk_setCell_other _ _ _ _ HNE.out).trans GH.out)); have n3_ := Aside0.mk (show Below w.heap.size w v2 from drawn_below hd (below_set HB.out GEA.out)); clear GA GH HB hd; (try clear hz1 hy1); have GA := n1_; have GH := n2_; have HB := n3_; clear n1_ n2_ n3_; have hz2 := blk_frozen GA.out 2; have hy2 := (blk_cell GA.out 2).trans (show _ = some (Value.int .i64 0) from rfl)) | (go_at_call 44; (with_reducible refine (gazetteerref01_Get.calls A0 c0 l0 12 1 f3 0 _ ?s1 ?s2 HG3.out).mono ?_); (case s1 => exact Kd.C_below HR0.out (below_set HB.out GEA.out)); (case s2 => exact HC0.out); rintro e v3 ⟨rfl, hd⟩; have n1_ := Aside0.mk (show v3.heap[ga]? = some (.cells #[.int .i64 f0, .int .i64 f1, .int .i64 f2, .int .i64 0, .int .i64 0] 43 (0, 0)) from (drawn_heap hd ga).trans (blk_put GA.out 2 (.int .i64 f2) rfl)); have n2_ := Aside0.mk (show v3.heap[gh]? = some (.cells #[.int .i64 0, .int .i64 0, .int .i64 0, .int .i64 0, .int .i64 0] 43 (0, 0)) from (drawn_heap hd gh).trans ((Go.Deep.blk_setCell_other _ _ _ _ HNE.out).trans GH.out)); have n3_ := Aside0.mk (show Below w.heap.size w v3 from drawn_below hd (below_set HB.out GEA.out)); clear GA GH HB hd; (try clear hz2 hy2); have GA := n1_; have GH := n2_; have HB := n3_; clear n1_ n2_ n3_; have hz3 := blk_frozen GA.out 3; have hy3 := (blk_cell GA.out 3).trans (show _ = some (Value.int .i64 0) from rfl)) | (go_at_call 44; (with_reducible refine (gazetteerref01_Get.calls A0 c0 l0 13 1 f4 0 _ ?s1 ?s2 HG4.out).mono ?_); (case s1 => exact Kd.C_below HR0.out (below_set HB.out GEA.out)); (case s2 => exact HC0.out); rintro e v4 ⟨rfl, hd⟩; have n1_ := Aside0.mk (show v4.heap[ga]? = some (.cells #[.int .i64 f0, .int .i64 f1, .int .i64 f2, .int .i64 f3, .int .i64 0] 43 (0, 0)) from (drawn_heap hd ga).trans (blk_put GA.out 3 (.int .i64 f3) rfl)); have n2_ := Aside0.mk (show v4.heap[gh]? = some (.cells #[.int .i64 0, .int .i64 0, .int .i64 0, .int .i64 0, .int .i64 0] 43 (0, 0)) from (drawn_heap hd gh).trans ((Go.Deep.blk_setCell_other _ _ _ _ HNE.out).trans GH.out)); have n3_ := Aside0.mk (show Below w.heap.size w v4 from drawn_below hd (below_set HB.out GEA.out)); clear GA GH HB hd; (try clear hz3 hy3); have GA := n1_; have GH := n2_; have HB := n3_; clear n1_ n2_ n3_; have hz4 := blk_frozen GA.out 4; have hy4 := (blk_cell GA.out 4).trans (show _ = some (Value.int .i64 0) from rfl)) | (go_at_call 44; (with_reducible refine (gazetteerref01_Get.calls A0 c0 l0 14 2 f5 0 _ ?s1 ?s2 HG5.out).mono ?_); (case s1 => exact Kd.C_below HR0.out (below_set HB.out GEA.out)); (case s2 => exact HC0.out); rintro e v5 ⟨rfl, hd⟩; have n1_ := Aside0.mk (show v5.heap[ga]? = some (.cells #[.int .i64 f0, .int .i64 f1, .int .i64 f2, .int .i64 f3, .int .i64 f4] 43 (0, 0)) from (drawn_heap hd ga).trans (blk_put GA.out 4 (.int .i64 f4) rfl)); have n2_ := Aside0.mk (show v5.heap[gh]? = some (.cells #[.int .i64 0, .int .i64 0, .int .i64 0, .int .i64 0, .int .i64 0] 43 (0, 0)) from (drawn_heap hd gh).trans ((Go.Deep.blk_setCell_other _ _ _ _ HNE.out).trans GH.out)); have n3_ := Aside0.mk (show Below w.heap.size w v5 from drawn_below hd (below_set HB.out GEA.out)); clear GA GH HB hd; (try clear hz4 hy4); have GA := n1_; have GH := n2_; have HB := n3_; clear n1_ n2_ n3_; have hy0 := (blk_cell GA.out 0).trans (show _ = some (Value.int .i64 f0) from rfl); have hy1 := (blk_cell GA.out 1).trans (show _ = some (Value.int .i64 f1) from rfl); have hy2 := (blk_cell GA.out 2).trans (show _ = some (Value.int .i64 f2) from rfl); have hy3 := (blk_cell GA.out 3).trans (show _ = some (Value.int .i64 f3) from rfl); have hy4 := (blk_cell GA.out 4).trans (show _ = some (Value.int .i64 f4) from rfl)) | ((with_reducible refine gate_dst (N := 8) rfl ?_); refine box_event ?hg (N := 8) ?hd (cs := #[.int .i64 0, .int .i64 0, .int .i64 0, .int .i64 0, .int .i64 0]) (t := 43) ?hr ?_; (case hd => rfl); (case hg => rfl); (case hr => first | (go_simp; done) | (go_simp; rfl)); intro gn hg wgn hbk hb; have n2_ := Aside0.mk (below_step (by repeat (first | (with_reducible first | exact HB.out | apply below_alloc | apply pw_below_drewN | apply below_drew1) | exact HB.out)) hb); have n3_ := Aside0.mk (blk_below GH.out hb); have n4_ := Aside0.mk (blk_below GA.out hb); clear HB GH GA hy0 hy1 hy2 hy3 hy4; have HB := n2_; have GH := n3_; have GA := n4_; have GN := Aside0.mk hbk; clear n2_ n3_ n4_ hb hbk hg; have hy0 := (blk_cell GA.out 0).trans (show _ = some (Value.int .i64 f0) from rfl); have hy1 := (blk_cell GA.out 1).trans (show _ = some (Value.int .i64 f1) from rfl); have hy2 := (blk_cell GA.out 2).trans (show _ = some (Value.int .i64 f2) from rfl); have hy3 := (blk_cell GA.out 3).trans (show _ = some (Value.int .i64 f3) from rfl); have hy4 := (blk_cell GA.out 4).trans (show _ = some (Value.int .i64 f4) from rfl); have hx0 := (blk_cell GN.out 0).trans (show _ = some (Value.int .i64 0) from rfl); have hx1 := (blk_cell GN.out 1).trans (show _ = some (Value.int .i64 0) from rfl); have hx2 := (blk_cell GN.out 2).trans (show _ = some (Value.int .i64 0) from rfl); have hx3 := (blk_cell GN.out 3).trans (show _ = some (Value.int .i64 0) from rfl); have hx4 := (blk_cell GN.out 4).trans (show _ = some (Value.int .i64 0) from rfl); have hd0 := (blk_cell GH.out 0).trans (show _ = some (Value.int .i64 0) from rfl); have hd1 := (blk_cell GH.out 1).trans (show _ = some (Value.int .i64 0) from rfl); have hd2 := (blk_cell GH.out 2).trans (show _ = some (Value.int .i64 0) from rfl); have hd3 := (blk_cell GH.out 3).trans (show _ = some (Value.int .i64 0) from rfl); have hd4 := (blk_cell GH.out 4).trans (show _ = some (Value.int .i64 0) from rfl); have hz0 := blk_frozen GH.out 0; have hz1 := blk_frozen GH.out 1; have hz2 := blk_frozen GH.out 2; have hz3 := blk_frozen GH.out 3; have hz4 := blk_frozen GH.out 4))
    (try simp only [Exit.inBlock, Exit.then])
    refine bodyPost_ret (results_ctt rfl _ _ gh 43 _ (0, 0) _ rfl (blk_put (blk_put (blk_put (blk_put (blk_put GH.out 0 _ rfl) 1 _ rfl) 2 _ rfl) 3 _ rfl) 4 _ rfl) Try.underlying43 rfl (by kernel_rfl)) rfl ?_
    exact ⟨_, rfl, Kd.R_nil _ _ _ _ _, (below_set (below_set (below_set (below_set (below_set HB.out GEH.out) GEH.out) GEH.out) GEH.out) GEH.out)⟩
  · rw [if_neg h0] at hE
    have k0 : (f0 == 0) = false := beq_eq_false_iff_ne.2 h0
    by_cases h4 : f4 = 0
    · rw [if_pos h4] at hE
      have k4 : (f4 == 0) = true := beq_iff_eq.2 h4
      obtain ⟨rfl, rfl, rfl, rfl, rfl, rfl, rfl⟩ : 0 = r0 ∧ 0 = r1 ∧ 0 = r2 ∧ 0 = r3 ∧ 0 = r4 ∧ [] = r5 ∧ 14 = r6 := by simpa using hE
      clear hE h0 h4
      go_enter Try.func22, Try.ntmps22
      go_wp2_with (first | ((with_reducible refine gate_dst (N := 2) rfl ?_); refine box_event ?hg (N := 2) ?hd (cs := #[.int .i64 0, .int .i64 0, .int .i64 0, .int .i64 0, .int .i64 0]) (t := 43) ?hr ?_; (case hd => rfl); (case hg => rfl); (case hr => first | (go_simp; done) | (go_simp; rfl)); intro gh hg wgh hbk hb; have n1_ := Aside0.mk (show w.heap.size ≤ gh from by rw [hg]; exact (below_size (by repeat (first | (with_reducible first | exact HB.out | apply below_alloc | apply pw_below_drewN | apply below_drew1) | exact HB.out)))); have n2_ := Aside0.mk (below_step (by repeat (first | (with_reducible first | exact HB.out | apply below_alloc | apply pw_below_drewN | apply below_drew1) | exact HB.out)) hb); clear HB; have GEH := n1_; have HB := n2_; have GH := Aside0.mk hbk; clear n1_ n2_ hb hbk hg) | ((with_reducible refine gate_dst (N := 5) rfl ?_); refine box_event ?hg (N := 5) ?hd (cs := #[.int .i64 0, .int .i64 0, .int .i64 0, .int .i64 0, .int .i64 0]) (t := 43) ?hr ?_; (case hd => rfl); (case hg => rfl); (case hr => first | (go_simp; done) | (go_simp; rfl)); intro ga hg wga hbk hb; have n1_ := Aside0.mk (show w.heap.size ≤ ga from by rw [hg]; exact (below_size (by repeat (first | (with_reducible first | exact HB.out | apply below_alloc | apply pw_below_drewN | apply below_drew1) | exact HB.out)))); have n2_ := Aside0.mk (below_step (by repeat (first | (with_reducible first | exact HB.out | apply below_alloc | apply pw_below_drewN | apply below_drew1) | exact HB.out)) hb); have n3_ := Aside0.mk (blk_below GH.out hb); have n4_ := Aside0.mk (show gh ≠ ga from by have := blk_lt GH.out; omega); clear HB GH; have GEA := n1_; have HB := n2_; have GH := n3_; have HNE := n4_; have GA := Aside0.mk hbk; clear n1_ n2_ n3_ n4_ hb hbk hg; have hz0 := blk_frozen GA.out 0; have hy0 := (blk_cell GA.out 0).trans (show _ = some (Value.int .i64 0) from rfl)) | (go_at_call 44; (with_reducible refine (gazetteerref01_Get.calls A0 c0 l0 0 1 f0 0 _ ?s1 ?s2 HG0.out).mono ?_); (case s1 => exact Kd.C_below HR0.out HB.out); (case s2 => exact HC0.out); rintro e v0 ⟨rfl, hd⟩; have n1_ := Aside0.mk (show v0.heap[ga]? = some (.cells #[.int .i64 0, .int .i64 0, .int .i64 0, .int .i64 0, .int .i64 0] 43 (0, 0)) from (drawn_heap hd ga).trans GA.out); have n2_ := Aside0.mk (show v0.heap[gh]? = some (.cells #[.int .i64 0, .int .i64 0, .int .i64 0, .int .i64 0, .int .i64 0] 43 (0, 0)) from (drawn_heap hd gh).trans GH.out); have n3_ := Aside0.mk (show Below w.heap.size w v0 from drawn_below hd HB.out); clear GA GH HB hd; (try clear hz0 hy0); have GA := n1_; have GH := n2_; have HB := n3_; clear n1_ n2_ n3_; have hz0 := blk_frozen GA.out 0; have hy0 := (blk_cell GA.out 0).trans (show _ = some (Value.int .i64 0) from rfl)) | (go_at_call 44; (with_reducible refine (gazetteerref01_Get.calls A0 c0 l0 1 4 f1 0 _ ?s1 ?s2 HG1.out).mono ?_); (case s1 => exact Kd.C_below HR0.out (below_set HB.out GEA.out)); (case s2 => exact HC0.out); rintro e v1 ⟨rfl, hd⟩; have n1_ := Aside0.mk (show v1.heap[ga]? = some (.cells #[.int .i64 f0, .int .i64 0, .int .i64 0, .int .i64 0, .int .i64 0] 43 (0, 0)) from (drawn_heap hd ga).trans (blk_put GA.out 0 (.int .i64 f0) rfl)); have n2_ := Aside0.mk (show v1.heap[gh]? = some (.cells #[.int .i64 0, .int .i64 0, .int .i64 0, .int .i64 0, .int .i64 0] 43 (0, 0)) from (drawn_heap hd gh).trans ((Go.Deep.blk_setCell_other _ _ _ _ HNE.out).trans GH.out)); have n3_ := Aside0.mk (show Below w.heap.size w v1 from drawn_below hd (below_set HB.out GEA.out)); clear GA GH HB hd; (try clear hz0 hy0); have GA := n1_; have GH := n2_; have HB := n3_; clear n1_ n2_ n3_; have hz1 := blk_frozen GA.out 1; have hy1 := (blk_cell GA.out 1).trans (show _ = some (Value.int .i64 0) from rfl)) | (go_at_call 44; (with_reducible refine (gazetteerref01_Get.calls A0 c0 l0 5 7 f2 0 _ ?s1 ?s2 HG2.out).mono ?_); (case s1 => exact Kd.C_below HR0.out (below_set HB.out GEA.out)); (case s2 => exact HC0.out); rintro e v2 ⟨rfl, hd⟩; have n1_ := Aside0.mk (show v2.heap[ga]? = some (.cells #[.int .i64 f0, .int .i64 f1, .int .i64 0, .int .i64 0, .int .i64 0] 43 (0, 0)) from (drawn_heap hd ga).trans (blk_put GA.out 1 (.int .i64 f1) rfl)); have n2_ := Aside0.mk (show v2.heap[gh]? = some (.cells #[.int .i64 0, .int .i64 0, .int .i64 0, .int .i64 0, .int .i64 0] 43 (0, 0)) from (drawn_heap hd gh).trans ((Go.Deep.blk_setCell_other _ _ _ _ HNE.out).trans GH.out)); have n3_ := Aside0.mk (show Below w.heap.size w v2 from drawn_below hd (below_set HB.out GEA.out)); clear GA GH HB hd; (try clear hz1 hy1); have GA := n1_; have GH := n2_; have HB := n3_; clear n1_ n2_ n3_; have hz2 := blk_frozen GA.out 2; have hy2 := (blk_cell GA.out 2).trans (show _ = some (Value.int .i64 0) from rfl)) | (go_at_call 44; (with_reducible refine (gazetteerref01_Get.calls A0 c0 l0 12 1 f3 0 _ ?s1 ?s2 HG3.out).mono ?_); (case s1 => exact Kd.C_below HR0.out (below_set HB.out GEA.out)); (case s2 => exact HC0.out); rintro e v3 ⟨rfl, hd⟩; have n1_ := Aside0.mk (show v3.heap[ga]? = some (.cells #[.int .i64 f0, .int .i64 f1, .int .i64 f2, .int .i64 0, .int .i64 0] 43 (0, 0)) from (drawn_heap hd ga).trans (blk_put GA.out 2 (.int .i64 f2) rfl)); have n2_ := Aside0.mk (show v3.heap[gh]? = some (.cells #[.int .i64 0, .int .i64 0, .int .i64 0, .int .i64 0, .int .i64 0] 43 (0, 0)) from (drawn_heap hd gh).trans ((Go.Deep.blk_setCell_other _ _ _ _ HNE.out).trans GH.out)); have n3_ := Aside0.mk (show Below w.heap.size w v3 from drawn_below hd (below_set HB.out GEA.out)); clear GA GH HB hd; (try clear hz2 hy2); have GA := n1_; have GH := n2_; have HB := n3_; clear n1_ n2_ n3_; have hz3 := blk_frozen GA.out 3; have hy3 := (blk_cell GA.out 3).trans (show _ = some (Value.int .i64 0) from rfl)) | (go_at_call 44; (with_reducible refine (gazetteerref01_Get.calls A0 c0 l0 13 1 f4 0 _ ?s1 ?s2 HG4.out).mono ?_); (case s1 => exact Kd.C_below HR0.out (below_set HB.out GEA.out)); (case s2 => exact HC0.out); rintro e v4 ⟨rfl, hd⟩; have n1_ := Aside0.mk (show v4.heap[ga]? = some (.cells #[.int .i64 f0, .int .i64 f1, .int .i64 f2, .int .i64 f3, .int .i64 0] 43 (0, 0)) from (drawn_heap hd ga).trans (blk_put GA.out 3 (.int .i64 f3) rfl)); have n2_ := Aside0.mk (show v4.heap[gh]? = some (.cells #[.int .i64 0, .int .i64 0, .int .i64 0, .int .i64 0, .int .i64 0] 43 (0, 0)) from (drawn_heap hd gh).trans ((Go.Deep.blk_setCell_other _ _ _ _ HNE.out).trans GH.out)); have n3_ := Aside0.mk (show Below w.heap.size w v4 from drawn_below hd (below_set HB.out GEA.out)); clear GA GH HB hd; (try clear hz3 hy3); have GA := n1_; have GH := n2_; have HB := n3_; clear n1_ n2_ n3_; have hz4 := blk_frozen GA.out 4; have hy4 := (blk_cell GA.out 4).trans (show _ = some (Value.int .i64 0) from rfl)) | (go_at_call 44; (with_reducible refine (gazetteerref01_Get.calls A0 c0 l0 14 2 f5 0 _ ?s1 ?s2 HG5.out).mono ?_); (case s1 => exact Kd.C_below HR0.out (below_set HB.out GEA.out)); (case s2 => exact HC0.out); rintro e v5 ⟨rfl, hd⟩; have n1_ := Aside0.mk (show v5.heap[ga]? = some (.cells #[.int .i64 f0, .int .i64 f1, .int .i64 f2, .int .i64 f3, .int .i64 f4] 43 (0, 0)) from (drawn_heap hd ga).trans (blk_put GA.out 4 (.int .i64 f4) rfl)); have n2_ := Aside0.mk (show v5.heap[gh]? = some (.cells #[.int .i64 0, .int .i64 0, .int .i64 0, .int .i64 0, .int .i64 0] 43 (0, 0)) from (drawn_heap hd gh).trans ((Go.Deep.blk_setCell_other _ _ _ _ HNE.out).trans GH.out)); have n3_ := Aside0.mk (show Below w.heap.size w v5 from drawn_below hd (below_set HB.out GEA.out)); clear GA GH HB hd; (try clear hz4 hy4); have GA := n1_; have GH := n2_; have HB := n3_; clear n1_ n2_ n3_; have hy0 := (blk_cell GA.out 0).trans (show _ = some (Value.int .i64 f0) from rfl); have hy1 := (blk_cell GA.out 1).trans (show _ = some (Value.int .i64 f1) from rfl); have hy2 := (blk_cell GA.out 2).trans (show _ = some (Value.int .i64 f2) from rfl); have hy3 := (blk_cell GA.out 3).trans (show _ = some (Value.int .i64 f3) from rfl); have hy4 := (blk_cell GA.out 4).trans (show _ = some (Value.int .i64 f4) from rfl)) | ((with_reducible refine gate_dst (N := 8) rfl ?_); refine box_event ?hg (N := 8) ?hd (cs := #[.int .i64 0, .int .i64 0, .int .i64 0, .int .i64 0, .int .i64 0]) (t := 43) ?hr ?_; (case hd => rfl); (case hg => rfl); (case hr => first | (go_simp; done) | (go_simp; rfl)); intro gn hg wgn hbk hb; have n2_ := Aside0.mk (below_step (by repeat (first | (with_reducible first | exact HB.out | apply below_alloc | apply pw_below_drewN | apply below_drew1) | exact HB.out)) hb); have n3_ := Aside0.mk (blk_below GH.out hb); have n4_ := Aside0.mk (blk_below GA.out hb); clear HB GH GA hy0 hy1 hy2 hy3 hy4; have HB := n2_; have GH := n3_; have GA := n4_; have GN := Aside0.mk hbk; clear n2_ n3_ n4_ hb hbk hg; have hy0 := (blk_cell GA.out 0).trans (show _ = some (Value.int .i64 f0) from rfl); have hy1 := (blk_cell GA.out 1).trans (show _ = some (Value.int .i64 f1) from rfl); have hy2 := (blk_cell GA.out 2).trans (show _ = some (Value.int .i64 f2) from rfl); have hy3 := (blk_cell GA.out 3).trans (show _ = some (Value.int .i64 f3) from rfl); have hy4 := (blk_cell GA.out 4).trans (show _ = some (Value.int .i64 f4) from rfl); have hx0 := (blk_cell GN.out 0).trans (show _ = some (Value.int .i64 0) from rfl); have hx1 := (blk_cell GN.out 1).trans (show _ = some (Value.int .i64 0) from rfl); have hx2 := (blk_cell GN.out 2).trans (show _ = some (Value.int .i64 0) from rfl); have hx3 := (blk_cell GN.out 3).trans (show _ = some (Value.int .i64 0) from rfl); have hx4 := (blk_cell GN.out 4).trans (show _ = some (Value.int .i64 0) from rfl); have hd0 := (blk_cell GH.out 0).trans (show _ = some (Value.int .i64 0) from rfl); have hd1 := (blk_cell GH.out 1).trans (show _ = some (Value.int .i64 0) from rfl); have hd2 := (blk_cell GH.out 2).trans (show _ = some (Value.int .i64 0) from rfl); have hd3 := (blk_cell GH.out 3).trans (show _ = some (Value.int .i64 0) from rfl); have hd4 := (blk_cell GH.out 4).trans (show _ = some (Value.int .i64 0) from rfl); have hz0 := blk_frozen GH.out 0; have hz1 := blk_frozen GH.out 1; have hz2 := blk_frozen GH.out 2; have hz3 := blk_frozen GH.out 3; have hz4 := blk_frozen GH.out 4))
      (try simp only [Exit.inBlock, Exit.then])
      refine bodyPost_ret (results_ctt rfl _ _ gh 43 _ (0, 0) _ rfl (blk_put (blk_put (blk_put (blk_put (blk_put GH.out 0 _ rfl) 1 _ rfl) 2 _ rfl) 3 _ rfl) 4 _ rfl) Try.underlying43 rfl (by kernel_rfl)) rfl ?_
      exact ⟨_, rfl, Kd.R_nil _ _ _ _ _, (below_set (below_set (below_set (below_set (below_set HB.out GEH.out) GEH.out) GEH.out) GEH.out) GEH.out)⟩
    · rw [if_neg h4] at hE
      have k4 : (f4 == 0) = false := beq_eq_false_iff_ne.2 h4
      by_cases h3 : f4 ≤ f3
      · rw [if_pos h3] at hE
        have k3 : decide (f4 ≤ f3) = true := decide_eq_true h3
        obtain ⟨rfl, rfl, rfl, rfl, rfl, rfl, rfl⟩ : 0 = r0 ∧ 0 = r1 ∧ 0 = r2 ∧ 0 = r3 ∧ 0 = r4 ∧ [] = r5 ∧ 14 = r6 := by simpa using hE
        clear hE h0 h4 h3
        go_enter Try.func22, Try.ntmps22
        go_wp2_with (first | ((with_reducible refine gate_dst (N := 2) rfl ?_); refine box_event ?hg (N := 2) ?hd (cs := #[.int .i64 0, .int .i64 0, .int .i64 0, .int .i64 0, .int .i64 0]) (t := 43) ?hr ?_; (case hd => rfl); (case hg => rfl); (case hr => first | (go_simp; done) | (go_simp; rfl)); intro gh hg wgh hbk hb; have n1_ := Aside0.mk (show w.heap.size ≤ gh from by rw [hg]; exact (below_size (by repeat (first | (with_reducible first | exact HB.out | apply below_alloc | apply pw_below_drewN | apply below_drew1) | exact HB.out)))); have n2_ := Aside0.mk (below_step (by repeat (first | (with_reducible first | exact HB.out | apply below_alloc | apply pw_below_drewN | apply below_drew1) | exact HB.out)) hb); clear HB; have GEH := n1_; have HB := n2_; have GH := Aside0.mk hbk; clear n1_ n2_ hb hbk hg) | ((with_reducible refine gate_dst (N := 5) rfl ?_); refine box_event ?hg (N := 5) ?hd (cs := #[.int .i64 0, .int .i64 0, .int .i64 0, .int .i64 0, .int .i64 0]) (t := 43) ?hr ?_; (case hd => rfl); (case hg => rfl); (case hr => first | (go_simp; done) | (go_simp; rfl)); intro ga hg wga hbk hb; have n1_ := Aside0.mk (show w.heap.size ≤ ga from by rw [hg]; exact (below_size (by repeat (first | (with_reducible first | exact HB.out | apply below_alloc | apply pw_below_drewN | apply below_drew1) | exact HB.out)))); have n2_ := Aside0.mk (below_step (by repeat (first | (with_reducible first | exact HB.out | apply below_alloc | apply pw_below_drewN | apply below_drew1) | exact HB.out)) hb); have n3_ := Aside0.mk (blk_below GH.out hb); have n4_ := Aside0.mk (show gh ≠ ga from by have := blk_lt GH.out; omega); clear HB GH; have GEA := n1_; have HB := n2_; have GH := n3_; have HNE := n4_; have GA := Aside0.mk hbk; clear n1_ n2_ n3_ n4_ hb hbk hg; have hz0 := blk_frozen GA.out 0; have hy0 := (blk_cell GA.out 0).trans (show _ = some (Value.int .i64 0) from rfl)) | (go_at_call 44; (with_reducible refine (gazetteerref01_Get.calls A0 c0 l0 0 1 f0 0 _ ?s1 ?s2 HG0.out).mono ?_); (case s1 => exact Kd.C_below HR0.out HB.out); (case s2 => exact HC0.out); rintro e v0 ⟨rfl, hd⟩; have n1_ := Aside0.mk (show v0.heap[ga]? = some (.cells #[.int .i64 0, .int .i64 0, .int .i64 0, .int .i64 0, .int .i64 0] 43 (0, 0)) from (drawn_heap hd ga).trans GA.out); have n2_ := Aside0.mk (show v0.heap[gh]? = some (.cells #[.int .i64 0, .int .i64 0, .int .i64 0, .int .i64 0, .int .i64 0] 43 (0, 0)) from (drawn_heap hd gh).trans GH.out); have n3_ := Aside0.mk (show Below w.heap.size w v0 from drawn_below hd HB.out); clear GA GH HB hd; (try clear hz0 hy0); have GA := n1_; have GH := n2_; have HB := n3_; clear n1_ n2_ n3_; have hz0 := blk_frozen GA.out 0; have hy0 := (blk_cell GA.out 0).trans (show _ = some (Value.int .i64 0) from rfl)) | (go_at_call 44; (with_reducible refine (gazetteerref01_Get.calls A0 c0 l0 1 4 f1 0 _ ?s1 ?s2 HG1.out).mono ?_); (case s1 => exact Kd.C_below HR0.out (below_set HB.out GEA.out)); (case s2 => exact HC0.out); rintro e v1 ⟨rfl, hd⟩; have n1_ := Aside0.mk (show v1.heap[ga]? = some (.cells #[.int .i64 f0, .int .i64 0, .int .i64 0, .int .i64 0, .int .i64 0] 43 (0, 0)) from (drawn_heap hd ga).trans (blk_put GA.out 0 (.int .i64 f0) rfl)); have n2_ := Aside0.mk (show v1.heap[gh]? = some (.cells #[.int .i64 0, .int .i64 0, .int .i64 0, .int .i64 0, .int .i64 0] 43 (0, 0)) from (drawn_heap hd gh).trans ((Go.Deep.blk_setCell_other _ _ _ _ HNE.out).trans GH.out)); have n3_ := Aside0.mk (show Below w.heap.size w v1 from drawn_below hd (below_set HB.out GEA.out)); clear GA GH HB hd; (try clear hz0 hy0); have GA := n1_; have GH := n2_; have HB := n3_; clear n1_ n2_ n3_; have hz1 := blk_frozen GA.out 1; have hy1 := (blk_cell GA.out 1).trans (show _ = some (Value.int .i64 0) from rfl)) | (go_at_call 44; (with_reducible refine (gazetteerref01_Get.calls A0 c0 l0 5 7 f2 0 _ ?s1 ?s2 HG2.out).mono ?_); (case s1 => exact Kd.C_below HR0.out (below_set HB.out GEA.out)); (case s2 => exact HC0.out); rintro e v2 ⟨rfl, hd⟩; have n1_ := Aside0.mk (show v2.heap[ga]? = some (.cells #[.int .i64 f0, .int .i64 f1, .int .i64 0, .int .i64 0, .int .i64 0] 43 (0, 0)) from (drawn_heap hd ga).trans (blk_put GA.out 1 (.int .i64 f1) rfl)); have n2_ := Aside0.mk (show v2.heap[gh]? = some (.cells #[.int .i64 0, .int .i64 0, .int .i64 0, .int .i64 0, .int .i64 0] 43 (0, 0)) from (drawn_heap hd gh).trans ((Go.Deep.blk_setCell_other _ _ _ _ HNE.out).trans GH.out)); have n3_ := Aside0.mk (show Below w.heap.size w v2 from drawn_below hd (below_set HB.out GEA.out)); clear GA GH HB hd; (try clear hz1 hy1); have GA := n1_; have GH := n2_; have HB := n3_; clear n1_ n2_ n3_; have hz2 := blk_frozen GA.out 2; have hy2 := (blk_cell GA.out 2).trans (show _ = some (Value.int .i64 0) from rfl)) | (go_at_call 44; (with_reducible refine (gazetteerref01_Get.calls A0 c0 l0 12 1 f3 0 _ ?s1 ?s2 HG3.out).mono ?_); (case s1 => exact Kd.C_below HR0.out (below_set HB.out GEA.out)); (case s2 => exact HC0.out); rintro e v3 ⟨rfl, hd⟩; have n1_ := Aside0.mk (show v3.heap[ga]? = some (.cells #[.int .i64 f0, .int .i64 f1, .int .i64 f2, .int .i64 0, .int .i64 0] 43 (0, 0)) from (drawn_heap hd ga).trans (blk_put GA.out 2 (.int .i64 f2) rfl)); have n2_ := Aside0.mk (show v3.heap[gh]? = some (.cells #[.int .i64 0, .int .i64 0, .int .i64 0, .int .i64 0, .int .i64 0] 43 (0, 0)) from (drawn_heap hd gh).trans ((Go.Deep.blk_setCell_other _ _ _ _ HNE.out).trans GH.out)); have n3_ := Aside0.mk (show Below w.heap.size w v3 from drawn_below hd (below_set HB.out GEA.out)); clear GA GH HB hd; (try clear hz2 hy2); have GA := n1_; have GH := n2_; have HB := n3_; clear n1_ n2_ n3_; have hz3 := blk_frozen GA.out 3; have hy3 := (blk_cell GA.out 3).trans (show _ = some (Value.int .i64 0) from rfl)) | (go_at_call 44; (with_reducible refine (gazetteerref01_Get.calls A0 c0 l0 13 1 f4 0 _ ?s1 ?s2 HG4.out).mono ?_); (case s1 => exact Kd.C_below HR0.out (below_set HB.out GEA.out)); (case s2 => exact HC0.out); rintro e v4 ⟨rfl, hd⟩; have n1_ := Aside0.mk (show v4.heap[ga]? = some (.cells #[.int .i64 f0, .int .i64 f1, .int .i64 f2, .int .i64 f3, .int .i64 0] 43 (0, 0)) from (drawn_heap hd ga).trans (blk_put GA.out 3 (.int .i64 f3) rfl)); have n2_ := Aside0.mk (show v4.heap[gh]? = some (.cells #[.int .i64 0, .int .i64 0, .int .i64 0, .int .i64 0, .int .i64 0] 43 (0, 0)) from (drawn_heap hd gh).trans ((Go.Deep.blk_setCell_other _ _ _ _ HNE.out).trans GH.out)); have n3_ := Aside0.mk (show Below w.heap.size w v4 from drawn_below hd (below_set HB.out GEA.out)); clear GA GH HB hd; (try clear hz3 hy3); have GA := n1_; have GH := n2_; have HB := n3_; clear n1_ n2_ n3_; have hz4 := blk_frozen GA.out 4; have hy4 := (blk_cell GA.out 4).trans (show _ = some (Value.int .i64 0) from rfl)) | (go_at_call 44; (with_reducible refine (gazetteerref01_Get.calls A0 c0 l0 14 2 f5 0 _ ?s1 ?s2 HG5.out).mono ?_); (case s1 => exact Kd.C_below HR0.out (below_set HB.out GEA.out)); (case s2 => exact HC0.out); rintro e v5 ⟨rfl, hd⟩; have n1_ := Aside0.mk (show v5.heap[ga]? = some (.cells #[.int .i64 f0, .int .i64 f1, .int .i64 f2, .int .i64 f3, .int .i64 f4] 43 (0, 0)) from (drawn_heap hd ga).trans (blk_put GA.out 4 (.int .i64 f4) rfl)); have n2_ := Aside0.mk (show v5.heap[gh]? = some (.cells #[.int .i64 0, .int .i64 0, .int .i64 0, .int .i64 0, .int .i64 0] 43 (0, 0)) from (drawn_heap hd gh).trans ((Go.Deep.blk_setCell_other _ _ _ _ HNE.out).trans GH.out)); have n3_ := Aside0.mk (show Below w.heap.size w v5 from drawn_below hd (below_set HB.out GEA.out)); clear GA GH HB hd; (try clear hz4 hy4); have GA := n1_; have GH := n2_; have HB := n3_; clear n1_ n2_ n3_; have hy0 := (blk_cell GA.out 0).trans (show _ = some (Value.int .i64 f0) from rfl); have hy1 := (blk_cell GA.out 1).trans (show _ = some (Value.int .i64 f1) from rfl); have hy2 := (blk_cell GA.out 2).trans (show _ = some (Value.int .i64 f2) from rfl); have hy3 := (blk_cell GA.out 3).trans (show _ = some (Value.int .i64 f3) from rfl); have hy4 := (blk_cell GA.out 4).trans (show _ = some (Value.int .i64 f4) from rfl)) | ((with_reducible refine gate_dst (N := 8) rfl ?_); refine box_event ?hg (N := 8) ?hd (cs := #[.int .i64 0, .int .i64 0, .int .i64 0, .int .i64 0, .int .i64 0]) (t := 43) ?hr ?_; (case hd => rfl); (case hg => rfl); (case hr => first | (go_simp; done) | (go_simp; rfl)); intro gn hg wgn hbk hb; have n2_ := Aside0.mk (below_step (by repeat (first | (with_reducible first | exact HB.out | apply below_alloc | apply pw_below_drewN | apply below_drew1) | exact HB.out)) hb); have n3_ := Aside0.mk (blk_below GH.out hb); have n4_ := Aside0.mk (blk_below GA.out hb); clear HB GH GA hy0 hy1 hy2 hy3 hy4; have HB := n2_; have GH := n3_; have GA := n4_; have GN := Aside0.mk hbk; clear n2_ n3_ n4_ hb hbk hg; have hy0 := (blk_cell GA.out 0).trans (show _ = some (Value.int .i64 f0) from rfl); have hy1 := (blk_cell GA.out 1).trans (show _ = some (Value.int .i64 f1) from rfl); have hy2 := (blk_cell GA.out 2).trans (show _ = some (Value.int .i64 f2) from rfl); have hy3 := (blk_cell GA.out 3).trans (show _ = some (Value.int .i64 f3) from rfl); have hy4 := (blk_cell GA.out 4).trans (show _ = some (Value.int .i64 f4) from rfl); have hx0 := (blk_cell GN.out 0).trans (show _ = some (Value.int .i64 0) from rfl); have hx1 := (blk_cell GN.out 1).trans (show _ = some (Value.int .i64 0) from rfl); have hx2 := (blk_cell GN.out 2).trans (show _ = some (Value.int .i64 0) from rfl); have hx3 := (blk_cell GN.out 3).trans (show _ = some (Value.int .i64 0) from rfl); have hx4 := (blk_cell GN.out 4).trans (show _ = some (Value.int .i64 0) from rfl); have hd0 := (blk_cell GH.out 0).trans (show _ = some (Value.int .i64 0) from rfl); have hd1 := (blk_cell GH.out 1).trans (show _ = some (Value.int .i64 0) from rfl); have hd2 := (blk_cell GH.out 2).trans (show _ = some (Value.int .i64 0) from rfl); have hd3 := (blk_cell GH.out 3).trans (show _ = some (Value.int .i64 0) from rfl); have hd4 := (blk_cell GH.out 4).trans (show _ = some (Value.int .i64 0) from rfl); have hz0 := blk_frozen GH.out 0; have hz1 := blk_frozen GH.out 1; have hz2 := blk_frozen GH.out 2; have hz3 := blk_frozen GH.out 3; have hz4 := blk_frozen GH.out 4))
        (try simp only [Exit.inBlock, Exit.then])
        refine bodyPost_ret (results_ctt rfl _ _ gh 43 _ (0, 0) _ rfl (blk_put (blk_put (blk_put (blk_put (blk_put GH.out 0 _ rfl) 1 _ rfl) 2 _ rfl) 3 _ rfl) 4 _ rfl) Try.underlying43 rfl (by kernel_rfl)) rfl ?_
        exact ⟨_, rfl, Kd.R_nil _ _ _ _ _, (below_set (below_set (below_set (below_set (below_set HB.out GEH.out) GEH.out) GEH.out) GEH.out) GEH.out)⟩
      · rw [if_neg h3] at hE
        have k3 : decide (f4 ≤ f3) = false := decide_eq_false h3
        have HE := Aside0.mk hE
        clear hE h0 h4 h3
        go_enter Try.func22, Try.ntmps22
        go_wp2_with (first | ((with_reducible refine gate_dst (N := 2) rfl ?_); refine box_event ?hg (N := 2) ?hd (cs := #[.int .i64 0, .int .i64 0, .int .i64 0, .int .i64 0, .int .i64 0]) (t := 43) ?hr ?_; (case hd => rfl); (case hg => rfl); (case hr => first | (go_simp; done) | (go_simp; rfl)); intro gh hg wgh hbk hb; have n1_ := Aside0.mk (show w.heap.size ≤ gh from by rw [hg]; exact (below_size (by repeat (first | (with_reducible first | exact HB.out | apply below_alloc | apply pw_below_drewN | apply below_drew1) | exact HB.out)))); have n2_ := Aside0.mk (below_step (by repeat (first | (with_reducible first | exact HB.out | apply below_alloc | apply pw_below_drewN | apply below_drew1) | exact HB.out)) hb); clear HB; have GEH := n1_; have HB := n2_; have GH := Aside0.mk hbk; clear n1_ n2_ hb hbk hg) | ((with_reducible refine gate_dst (N := 5) rfl ?_); refine box_event ?hg (N := 5) ?hd (cs := #[.int .i64 0, .int .i64 0, .int .i64 0, .int .i64 0, .int .i64 0]) (t := 43) ?hr ?_; (case hd => rfl); (case hg => rfl); (case hr => first | (go_simp; done) | (go_simp; rfl)); intro ga hg wga hbk hb; have n1_ := Aside0.mk (show w.heap.size ≤ ga from by rw [hg]; exact (below_size (by repeat (first | (with_reducible first | exact HB.out | apply below_alloc | apply pw_below_drewN | apply below_drew1) | exact HB.out)))); have n2_ := Aside0.mk (below_step (by repeat (first | (with_reducible first | exact HB.out | apply below_alloc | apply pw_below_drewN | apply below_drew1) | exact HB.out)) hb); have n3_ := Aside0.mk (blk_below GH.out hb); have n4_ := Aside0.mk (show gh ≠ ga from by have := blk_lt GH.out; omega); clear HB GH; have GEA := n1_; have HB := n2_; have GH := n3_; have HNE := n4_; have GA := Aside0.mk hbk; clear n1_ n2_ n3_ n4_ hb hbk hg; have hz0 := blk_frozen GA.out 0; have hy0 := (blk_cell GA.out 0).trans (show _ = some (Value.int .i64 0) from rfl)) | (go_at_call 44; (with_reducible refine (gazetteerref01_Get.calls A0 c0 l0 0 1 f0 0 _ ?s1 ?s2 HG0.out).mono ?_); (case s1 => exact Kd.C_below HR0.out HB.out); (case s2 => exact HC0.out); rintro e v0 ⟨rfl, hd⟩; have n1_ := Aside0.mk (show v0.heap[ga]? = some (.cells #[.int .i64 0, .int .i64 0, .int .i64 0, .int .i64 0, .int .i64 0] 43 (0, 0)) from (drawn_heap hd ga).trans GA.out); have n2_ := Aside0.mk (show v0.heap[gh]? = some (.cells #[.int .i64 0, .int .i64 0, .int .i64 0, .int .i64 0, .int .i64 0] 43 (0, 0)) from (drawn_heap hd gh).trans GH.out); have n3_ := Aside0.mk (show Below w.heap.size w v0 from drawn_below hd HB.out); clear GA GH HB hd; (try clear hz0 hy0); have GA := n1_; have GH := n2_; have HB := n3_; clear n1_ n2_ n3_; have hz0 := blk_frozen GA.out 0; have hy0 := (blk_cell GA.out 0).trans (show _ = some (Value.int .i64 0) from rfl)) | (go_at_call 44; (with_reducible refine (gazetteerref01_Get.calls A0 c0 l0 1 4 f1 0 _ ?s1 ?s2 HG1.out).mono ?_); (case s1 => exact Kd.C_below HR0.out (below_set HB.out GEA.out)); (case s2 => exact HC0.out); rintro e v1 ⟨rfl, hd⟩; have n1_ := Aside0.mk (show v1.heap[ga]? = some (.cells #[.int .i64 f0, .int .i64 0, .int .i64 0, .int .i64 0, .int .i64 0] 43 (0, 0)) from (drawn_heap hd ga).trans (blk_put GA.out 0 (.int .i64 f0) rfl)); have n2_ := Aside0.mk (show v1.heap[gh]? = some (.cells #[.int .i64 0, .int .i64 0, .int .i64 0, .int .i64 0, .int .i64 0] 43 (0, 0)) from (drawn_heap hd gh).trans ((Go.Deep.blk_setCell_other _ _ _ _ HNE.out).trans GH.out)); have n3_ := Aside0.mk (show Below w.heap.size w v1 from drawn_below hd (below_set HB.out GEA.out)); clear GA GH HB hd; (try clear hz0 hy0); have GA := n1_; have GH := n2_; have HB := n3_; clear n1_ n2_ n3_; have hz1 := blk_frozen GA.out 1; have hy1 := (blk_cell GA.out 1).trans (show _ = some (Value.int .i64 0) from rfl)) | (go_at_call 44; (with_reducible refine (gazetteerref01_Get.calls A0 c0 l0 5 7 f2 0 _ ?s1 ?s2 HG2.out).mono ?_); (case s1 => exact Kd.C_below HR0.out (below_set HB.out GEA.out)); (case s2 => exact HC0.out); rintro e v2 ⟨rfl, hd⟩; have n1_ := Aside0.mk (show v2.heap[ga]? = some (.cells #[.int .i64 f0, .int .i64 f1, .int .i64 0, .int .i64 0, .int .i64 0] 43 (0, 0)) from (drawn_heap hd ga).trans (blk_put GA.out 1 (.int .i64 f1) rfl)); have n2_ := Aside0.mk (show v2.heap[gh]? = some (.cells #[.int .i64 0, .int .i64 0, .int .i64 0, .int .i64 0, .int .i64 0] 43 (0, 0)) from (drawn_heap hd gh).trans ((Go.Deep.blk_setCell_other _ _ _ _ HNE.out).trans GH.out)); have n3_ := Aside0.mk (show Below w.heap.size w v2 from drawn_below hd (below_set HB.out GEA.out)); clear GA GH HB hd; (try clear hz1 hy1); have GA := n1_; have GH := n2_; have HB := n3_; clear n1_ n2_ n3_; have hz2 := blk_frozen GA.out 2; have hy2 := (blk_cell GA.out 2).trans (show _ = some (Value.int .i64 0) from rfl)) | (go_at_call 44; (with_reducible refine (gazetteerref01_Get.calls A0 c0 l0 12 1 f3 0 _ ?s1 ?s2 HG3.out).mono ?_); (case s1 => exact Kd.C_below HR0.out (below_set HB.out GEA.out)); (case s2 => exact HC0.out); rintro e v3 ⟨rfl, hd⟩; have n1_ := Aside0.mk (show v3.heap[ga]? = some (.cells #[.int .i64 f0, .int .i64 f1, .int .i64 f2, .int .i64 0, .int .i64 0] 43 (0, 0)) from (drawn_heap hd ga).trans (blk_put GA.out 2 (.int .i64 f2) rfl)); have n2_ := Aside0.mk (show v3.heap[gh]? = some (.cells #[.int .i64 0, .int .i64 0, .int .i64 0, .int .i64 0, .int .i64 0] 43 (0, 0)) from (drawn_heap hd gh).trans ((Go.Deep.blk_setCell_other _ _ _ _ HNE.out).trans GH.out)); have n3_ := Aside0.mk (show Below w.heap.size w v3 from drawn_below hd (below_set HB.out GEA.out)); clear GA GH HB hd; (try clear hz2 hy2); have GA := n1_; have GH := n2_; have HB := n3_; clear n1_ n2_ n3_; have hz3 := blk_frozen GA.out 3; have hy3 := (blk_cell GA.out 3).trans (show _ = some (Value.int .i64 0) from rfl)) | (go_at_call 44; (with_reducible refine (gazetteerref01_Get.calls A0 c0 l0 13 1 f4 0 _ ?s1 ?s2 HG4.out).mono ?_); (case s1 => exact Kd.C_below HR0.out (below_set HB.out GEA.out)); (case s2 => exact HC0.out); rintro e v4 ⟨rfl, hd⟩; have n1_ := Aside0.mk (show v4.heap[ga]? = some (.cells #[.int .i64 f0, .int .i64 f1, .int .i64 f2, .int .i64 f3, .int .i64 0] 43 (0, 0)) from (drawn_heap hd ga).trans (blk_put GA.out 3 (.int .i64 f3) rfl)); have n2_ := Aside0.mk (show v4.heap[gh]? = some (.cells #[.int .i64 0, .int .i64 0, .int .i64 0, .int .i64 0, .int .i64 0] 43 (0, 0)) from (drawn_heap hd gh).trans ((Go.Deep.blk_setCell_other _ _ _ _ HNE.out).trans GH.out)); have n3_ := Aside0.mk (show Below w.heap.size w v4 from drawn_below hd (below_set HB.out GEA.out)); clear GA GH HB hd; (try clear hz3 hy3); have GA := n1_; have GH := n2_; have HB := n3_; clear n1_ n2_ n3_; have hz4 := blk_frozen GA.out 4; have hy4 := (blk_cell GA.out 4).trans (show _ = some (Value.int .i64 0) from rfl)) | (go_at_call 44; (with_reducible refine (gazetteerref01_Get.calls A0 c0 l0 14 2 f5 0 _ ?s1 ?s2 HG5.out).mono ?_); (case s1 => exact Kd.C_below HR0.out (below_set HB.out GEA.out)); (case s2 => exact HC0.out); rintro e v5 ⟨rfl, hd⟩; have n1_ := Aside0.mk (show v5.heap[ga]? = some (.cells #[.int .i64 f0, .int .i64 f1, .int .i64 f2, .int .i64 f3, .int .i64 f4] 43 (0, 0)) from (drawn_heap hd ga).trans (blk_put GA.out 4 (.int .i64 f4) rfl)); have n2_ := Aside0.mk (show v5.heap[gh]? = some (.cells #[.int .i64 0, .int .i64 0, .int .i64 0, .int .i64 0, .int .i64 0] 43 (0, 0)) from (drawn_heap hd gh).trans ((Go.Deep.blk_setCell_other _ _ _ _ HNE.out).trans GH.out)); have n3_ := Aside0.mk (show Below w.heap.size w v5 from drawn_below hd (below_set HB.out GEA.out)); clear GA GH HB hd; (try clear hz4 hy4); have GA := n1_; have GH := n2_; have HB := n3_; clear n1_ n2_ n3_; have hy0 := (blk_cell GA.out 0).trans (show _ = some (Value.int .i64 f0) from rfl); have hy1 := (blk_cell GA.out 1).trans (show _ = some (Value.int .i64 f1) from rfl); have hy2 := (blk_cell GA.out 2).trans (show _ = some (Value.int .i64 f2) from rfl); have hy3 := (blk_cell GA.out 3).trans (show _ = some (Value.int .i64 f3) from rfl); have hy4 := (blk_cell GA.out 4).trans (show _ = some (Value.int .i64 f4) from rfl)) | ((with_reducible refine gate_dst (N := 8) rfl ?_); refine box_event ?hg (N := 8) ?hd (cs := #[.int .i64 0, .int .i64 0, .int .i64 0, .int .i64 0, .int .i64 0]) (t := 43) ?hr ?_; (case hd => rfl); (case hg => rfl); (case hr => first | (go_simp; done) | (go_simp; rfl)); intro gn hg wgn hbk hb; have n2_ := Aside0.mk (below_step (by repeat (first | (with_reducible first | exact HB.out | apply below_alloc | apply pw_below_drewN | apply below_drew1) | exact HB.out)) hb); have n3_ := Aside0.mk (blk_below GH.out hb); have n4_ := Aside0.mk (blk_below GA.out hb); clear HB GH GA hy0 hy1 hy2 hy3 hy4; have HB := n2_; have GH := n3_; have GA := n4_; have GN := Aside0.mk hbk; clear n2_ n3_ n4_ hb hbk hg; have hy0 := (blk_cell GA.out 0).trans (show _ = some (Value.int .i64 f0) from rfl); have hy1 := (blk_cell GA.out 1).trans (show _ = some (Value.int .i64 f1) from rfl); have hy2 := (blk_cell GA.out 2).trans (show _ = some (Value.int .i64 f2) from rfl); have hy3 := (blk_cell GA.out 3).trans (show _ = some (Value.int .i64 f3) from rfl); have hy4 := (blk_cell GA.out 4).trans (show _ = some (Value.int .i64 f4) from rfl); have hx0 := (blk_cell GN.out 0).trans (show _ = some (Value.int .i64 0) from rfl); have hx1 := (blk_cell GN.out 1).trans (show _ = some (Value.int .i64 0) from rfl); have hx2 := (blk_cell GN.out 2).trans (show _ = some (Value.int .i64 0) from rfl); have hx3 := (blk_cell GN.out 3).trans (show _ = some (Value.int .i64 0) from rfl); have hx4 := (blk_cell GN.out 4).trans (show _ = some (Value.int .i64 0) from rfl); have hd0 := (blk_cell GH.out 0).trans (show _ = some (Value.int .i64 0) from rfl); have hd1 := (blk_cell GH.out 1).trans (show _ = some (Value.int .i64 0) from rfl); have hd2 := (blk_cell GH.out 2).trans (show _ = some (Value.int .i64 0) from rfl); have hd3 := (blk_cell GH.out 3).trans (show _ = some (Value.int .i64 0) from rfl); have hd4 := (blk_cell GH.out 4).trans (show _ = some (Value.int .i64 0) from rfl); have hz0 := blk_frozen GH.out 0; have hz1 := blk_frozen GH.out 1; have hz2 := blk_frozen GH.out 2; have hz3 := blk_frozen GH.out 3; have hz4 := blk_frozen GH.out 4))
        go_loopw [9] (fun v wr => ∃ x : Int, 16 + f5 ≤ x ∧ x ≤ 512 ∧ v = .int .i64 x ∧ Aside0 (∀ j : Nat, (16 + f5).toNat ≤ j → (j : Int) < x → l0.getD j 0 = 0) ∧ Aside0 (wr.heap[gh]? = some (.cells #[.int .i64 0, .int .i64 0, .int .i64 0, .int .i64 0, .int .i64 0] 43 (0, 0))) ∧ Aside0 (wr.heap[ga]? = some (.cells #[.int .i64 f0, .int .i64 f1, .int .i64 f2, .int .i64 f3, .int .i64 f4] 43 (0, 0))) ∧ Aside0 (wr.heap[gn]? = some (.cells #[.int .i64 0, .int .i64 0, .int .i64 0, .int .i64 0, .int .i64 0] 43 (0, 0))) ∧ Aside0 (Below w.heap.size w wr)) (fun i _ => 512 - (intOf i).toNat)
        case atStart => exact ⟨16 + f5, by omega, by omega, by go_num, ⟨fun j _ _ => by omega⟩, GH, GA, GN, HB⟩
        case round =>
          clear HB GA GH GN
          obtain ⟨x, hx0, hx1, rfl, HZ, GH, GA, GN, HB⟩ := hrel
          have hf0 := hfb.1
          have HDAT := Aside0.mk hdat
          clear hfb hdat hd
          have hy0 := (blk_cell GA.out 0).trans (show _ = some (Value.int .i64 f0) from rfl)
          have hy1 := (blk_cell GA.out 1).trans (show _ = some (Value.int .i64 f1) from rfl)
          have hy2 := (blk_cell GA.out 2).trans (show _ = some (Value.int .i64 f2) from rfl)
          have hy3 := (blk_cell GA.out 3).trans (show _ = some (Value.int .i64 f3) from rfl)
          have hy4 := (blk_cell GA.out 4).trans (show _ = some (Value.int .i64 f4) from rfl)
          have hx0' := (blk_cell GN.out 0).trans (show _ = some (Value.int .i64 0) from rfl)
          have hx1' := (blk_cell GN.out 1).trans (show _ = some (Value.int .i64 0) from rfl)
          have hx2' := (blk_cell GN.out 2).trans (show _ = some (Value.int .i64 0) from rfl)
          have hx3' := (blk_cell GN.out 3).trans (show _ = some (Value.int .i64 0) from rfl)
          have hx4' := (blk_cell GN.out 4).trans (show _ = some (Value.int .i64 0) from rfl)
          have hd0 := (blk_cell GH.out 0).trans (show _ = some (Value.int .i64 0) from rfl)
          have hd1 := (blk_cell GH.out 1).trans (show _ = some (Value.int .i64 0) from rfl)
          have hd2 := (blk_cell GH.out 2).trans (show _ = some (Value.int .i64 0) from rfl)
          have hd3 := (blk_cell GH.out 3).trans (show _ = some (Value.int .i64 0) from rfl)
          have hd4 := (blk_cell GH.out 4).trans (show _ = some (Value.int .i64 0) from rfl)
          have hz0 := blk_frozen GH.out 0
          have hz1 := blk_frozen GH.out 1
          have hz2 := blk_frozen GH.out 2
          have hz3 := blk_frozen GH.out 3
          have hz4 := blk_frozen GH.out 4
          by_cases hlt : x < 512
          · obtain ⟨ad, e, hx⟩ := Kd.at_int (by repeat (first | exact (Kd.C_below HR0.out HB.out) | (with_reducible refine Kd.C_alloc ?_ _) | (with_reducible refine Kd.C_drewN ?_ _) | (with_reducible refine Kd.C_drew ?_))) x (by omega) (by rw [HL.out]; omega)
            cases e
            by_cases hz : rd l0 x = 0
            · have HZ' := Aside0.mk hz
              rw [hz] at hx
              clear hz
              have hlo : 0 ≤ x := by omega
              have hln : x < (l0.length : Int) := by rw [HL.out]; omega
              go_wp2
              go_roundw
              case rel => exact ⟨x + 1, by omega, by omega, by go_num, ⟨fun j h1 h2 => if hj : (j : Int) < x then HZ.out j h1 hj else (show j = x.toNat from by omega) ▸ HZ'.out⟩, GH, GA, GN, HB⟩
              case measure => simp [intOf]; omega
            · have HA := Aside0.mk (show ¬ ((l0.drop (16 + f5).toNat).all (fun x => x == 0) = true) from fun h => hz ((all_zero_iff l0 _).1 h x.toNat (by omega) (by rw [HL.out]; omega)))
              have hzb : (rd l0 x != 0) = true := bne_iff_ne.2 hz
              have hE := HE.out
              rw [if_neg HA.out] at hE
              obtain ⟨rfl, rfl, rfl, rfl, rfl, rfl, rfl⟩ : 0 = r0 ∧ 0 = r1 ∧ 0 = r2 ∧ 0 = r3 ∧ 0 = r4 ∧ [] = r5 ∧ 14 = r6 := by simpa using hE
              clear hE hz
              have hlo : 0 ≤ x := by omega
              have hln : x < (l0.length : Int) := by rw [HL.out]; omega
              go_wp2
              (try simp only [Exit.inBlock, Exit.then])
              refine bodyPost_ret (results_ctt rfl _ _ gh 43 _ (0, 0) _ rfl (blk_put (blk_put (blk_put (blk_put (blk_put GH.out 0 _ rfl) 1 _ rfl) 2 _ rfl) 3 _ rfl) 4 _ rfl) Try.underlying43 rfl (by kernel_rfl)) rfl ?_
              exact ⟨_, rfl, Kd.R_nil _ _ _ _ _, (below_set (below_set (below_set (below_set (below_set HB.out GEH.out) GEH.out) GEH.out) GEH.out) GEH.out)⟩
          · obtain rfl : x = 512 := by omega
            have hE := HE.out
            rw [if_pos ((all_zero_iff l0 _).2 (fun j h1 h2 => HZ.out j h1 (by have := HL.out; omega)))] at hE
            obtain ⟨rfl, rfl, rfl, rfl, rfl, rfl, rfl⟩ : f0 = r0 ∧ f1 = r1 ∧ f2 = r2 ∧ f3 = r3 ∧ f4 = r4 ∧ d = r5 ∧ 0 = r6 := by simpa using hE
            clear hE
            go_wp2
            have n0_ := Aside0.mk (blk_drew GA.out)
            have n1_ := Aside0.mk (blk_drew GH.out)
            have n2_ := Aside0.mk (below_drew1 HB.out)
            clear GA GH GN HB hy0 hy1 hy2 hy3 hy4 hx0' hx1' hx2' hx3' hx4' hd0 hd1 hd2 hd3 hd4 hz0 hz1 hz2 hz3 hz4
            have GA := n0_
            have GH := n1_
            have HB := n2_
            clear n0_ n1_ n2_
            have hdl : d.length = f5.toNat := by rw [HDAT.out, List.length_drop, List.length_take, HL.out]; omega
            obtain ⟨i08, hi08, _, hsz8, _⟩ := info_parts infoB
            have hcut := cut_mid (P := Try.prog) 24 5 .i64 .i64 Try.underlying24 hi08 1 hsz8 A0 l0.length c0 16 (16 + f5) (by omega) (by omega) (by rw [HL.out]; omega) HC0.out
            have hr := Kd.C_mid (lo := (16 : Int).toNat) (hi := (16 + f5).toNat) (c := c0) HR0.out (by omega) (by rw [HL.out]; omega) HC0.out
            rw [← HDAT.out] at hr
            rw [show (16 + f5).toNat - (16 : Int).toNat = d.length by rw [hdl]; omega] at hcut
            obtain ⟨A1, hA1⟩ : ∃ A1, A1 = (if c0 = (16 : Int).toNat then A0 else A0.map (·.add ((16 : Int).toNat * 1))) := ⟨_, rfl⟩
            obtain ⟨c1, hc1⟩ : ∃ c1, c1 = c0 - (16 : Int).toNat := ⟨_, rfl⟩
            rw [← hA1, ← hc1] at hcut
            have HRD := Aside0.mk (show Kd.C (Kd.int .u8) w A1 d.length d from by rw [hA1]; exact hr)
            have HDL := Aside0.mk (show d.length ≤ 496 by omega)
            have hwr : IntKind.i64.wrap (16 + f5) = 16 + f5 := by rw [i64_w, wrap_id (by omega) (by omega)]
            clear hA1 hc1 hr hdl hi08 hsz8
            refine start_ (n := 10) (S := fun w' => w'.cell? ⟨ga, 0, none⟩ = some (.int .i64 f0) ∧ w'.cell? ⟨ga, 1, none⟩ = some (.int .i64 f1) ∧ w'.cell? ⟨ga, 2, none⟩ = some (.int .i64 f2) ∧ w'.cell? ⟨ga, 3, none⟩ = some (.int .i64 f3) ∧ w'.cell? ⟨ga, 4, none⟩ = some (.int .i64 f4)) (ds := []) #[false, false, false, false, false, false, false, false, false, false] (by kernel_rfl) rfl rfl ⟨(blk_cell GA.out 0).trans rfl, (blk_cell GA.out 1).trans rfl, (blk_cell GA.out 2).trans rfl, (blk_cell GA.out 3).trans rfl, (blk_cell GA.out 4).trans rfl⟩ (fun hHeld => ?_)
            generalize wr.drew = wd at GA GH HB hHeld ⊢
            refine pure_ (i := 2) (N := some 83) (v := ?_) (a' := ?_) #[false, false, true, false, false, false, false, false, false, false] rfl rfl (by kernel_rfl) (fun _ _ _ h => h) (Or.inl ⟨by rfl, ?_⟩) ?_ ?_
            rotate_left
            · intro w'
              go_simp
              with_reducible rfl
            rotate_left
            · simp only [Act.put, List.setIfInBounds_toArray, List.set_cons_zero, List.set_cons_succ, i64_w, i32_w]
              rfl
            refine pure_ (i := 3) (N := some 84) (v := ?_) (a' := ?_) #[false, false, true, true, false, false, false, false, false, false] rfl rfl (by kernel_rfl) (fun _ _ _ h => h) (Or.inl ⟨by rfl, ?_⟩) ?_ ?_
            rotate_left
            · intro w'
              go_simp
              with_reducible rfl
            rotate_left
            · simp only [Act.put, List.setIfInBounds_toArray, List.set_cons_zero, List.set_cons_succ, i64_w, i32_w]
              rfl
            refine pure_ (i := 4) (N := some 85) (v := ?_) (a' := ?_) #[false, false, true, true, true, false, false, false, false, false] rfl rfl (by kernel_rfl) (fun _ _ _ h => h) (Or.inl ⟨by rfl, ?_⟩) ?_ ?_
            rotate_left
            · intro w'
              go_simp
              with_reducible rfl
            rotate_left
            · simp only [Act.put, List.setIfInBounds_toArray, List.set_cons_zero, List.set_cons_succ, i64_w, i32_w]
              rfl
            refine pure_ (i := 5) (N := some 86) (v := ?_) (a' := ?_) #[false, false, true, true, true, true, false, false, false, false] rfl rfl (by kernel_rfl) (fun _ _ _ h => h) (Or.inl ⟨by rfl, ?_⟩) ?_ ?_
            rotate_left
            · intro w'
              go_simp
              with_reducible rfl
            rotate_left
            · simp only [Act.put, List.setIfInBounds_toArray, List.set_cons_zero, List.set_cons_succ, i64_w, i32_w]
              rfl
            refine take_ (i := 0) (N := some 81) (v := ?_) (a' := ?_) #[true, false, true, true, true, true, false, false, false, false] rfl rfl (by kernel_rfl) (fun _ _ _ h => h) (Or.inl ⟨by rfl, ?_⟩) hHeld ?_ ?_
            rotate_left
            · rintro w' ⟨s0, s1, s2, s3, s4⟩
              go_simp
              with_reducible rfl
            rotate_left
            · simp only [Act.put, List.setIfInBounds_toArray, List.set_cons_zero, List.set_cons_succ, i64_w, i32_w]
              rfl

            refine one_ (i := 1) (N := some 82) #[true, true, true, true, true, true, false, false, false, false] rfl rfl (by kernel_rfl) (by decide) (fun K hK => ?_)
            refine Kd.R_lit_step (Kd.int .u8) _ 5 ?hg (N := 82) ?hd (xs := ([] : List Int)) (inner := []) (ok := fun _ => True) (okp := fun _ => True) ?hr ?hp (fun _ hk => hk) trivial (Below.refl _ _) (Nat.le_refl _) (by simp) ?_; (case hd => rfl); (case hg => rfl); (case hr => first | (go_simp; done) | (go_simp; rfl)); (case hp => exact (Reps.none _ _))
            intro v82 w82 ho hb hg_ hnew_
            clear hg_ hnew_
            have n0_ := Aside0.mk (Kd.R_lower ho (below_size (by repeat (first | (with_reducible first | exact HB.out | apply below_alloc | apply pw_below_drewN | apply below_drew1) | exact HB.out))))
            have n1_ := Aside0.mk (blk_below GA.out hb)
            have n2_ := Aside0.mk (blk_below GH.out hb)
            have n3_ := Aside0.mk (below_step (by repeat (first | (with_reducible first | exact HB.out | apply below_alloc | apply pw_below_drewN | apply below_drew1) | exact HB.out)) hb)
            clear GA GH HB ho hb
            have HO := n0_
            have GA := n1_
            have GH := n2_
            have HB := n3_
            clear n0_ n1_ n2_ n3_
            refine hK.out _ _ ⟨(blk_cell GA.out 0).trans rfl, (blk_cell GA.out 1).trans rfl, (blk_cell GA.out 2).trans rfl, (blk_cell GA.out 3).trans rfl, (blk_cell GA.out 4).trans rfl⟩ (fun hHeld => ?_)
            clear hK K
            refine norm_ (a' := ?_) ?_ ?_
            rotate_left
            · show Act.put _ (some 82) _ = _
              simp only [Act.put, List.setIfInBounds_toArray, List.set_cons_zero, List.set_cons_succ, i64_w, i32_w]
              rfl
            refine one_ (i := 6) (N := some 87) #[true, true, true, true, true, true, true, false, false, false] rfl rfl (by kernel_rfl) (by decide) (fun K hK => ?_)
            refine Kd.R_append_rows_step (Kd.int .u8) (w0 := w) w.heap.size (by rfl) (.tmp 82) (.tmp 86) 24 5 (.int .u8 0) 1 rfl Try.underlying24 infoB rfl (by decide) (by omega) v82 [] d _ _ _ (fun _ => True) (fun _ => False) rfl rfl ?aO ?aR (fun _ _ h => h) (fun _ h => h.elim) ?aF ?aB ?aS ?aL ?_
            (case aR => exact (by repeat (first | exact (Kd.C_below HRD.out HB.out) | (with_reducible refine Kd.C_alloc ?_ _) | (with_reducible refine Kd.C_drewN ?_ _) | (with_reducible refine Kd.C_drew ?_))))
            (case aB => exact (by repeat (first | (with_reducible first | exact HB.out | apply below_alloc | apply pw_below_drewN | apply below_drew1) | exact HB.out)))
            (case aF => exact (fun _ _ => trivial))
            (case aO => exact (by (with_reducible repeat (first | apply Kd.R_alloc | apply Kd.R_drewN | apply Kd.R_drew)); exact HO.out))
            (case aS => exact (below_size (by repeat (first | (with_reducible first | exact HB.out | apply below_alloc | apply pw_below_drewN | apply below_drew1) | exact HB.out))))
            (case aL => have := HDL.out; simp; omega)
            intro v87 w87 ho hb hg hat
            rw [List.nil_append] at ho
            have n0_ := Aside0.mk (blk_grown GA.out hg (Kd.R_ne HO.out GA.out (by decide)))
            have n1_ := Aside0.mk (blk_grown GH.out hg (Kd.R_ne HO.out GH.out (by decide)))
            clear GA GH HB HO hg hat
            have GA := n0_
            have GH := n1_
            have HB := Aside0.mk hb
            have HO := Aside0.mk ho
            clear n0_ n1_ hb ho
            obtain ⟨A87, c87, e87⟩ := Kd.R_slice HO.out
            subst e87
            refine hK.out _ _ ⟨(blk_cell GA.out 0).trans rfl, (blk_cell GA.out 1).trans rfl, (blk_cell GA.out 2).trans rfl, (blk_cell GA.out 3).trans rfl, (blk_cell GA.out 4).trans rfl⟩ (fun hHeld => ?_)
            clear hK K
            refine norm_ (a' := ?_) ?_ ?_
            rotate_left
            · show Act.put _ (some 87) _ = _
              simp only [Act.put, List.setIfInBounds_toArray, List.set_cons_zero, List.set_cons_succ, i64_w, i32_w]
              rfl
            have hd0 := (blk_cell GH.out 0).trans (show _ = some (Value.int .i64 0) from rfl)
            have hd1 := (blk_cell GH.out 1).trans (show _ = some (Value.int .i64 0) from rfl)
            have hd2 := (blk_cell GH.out 2).trans (show _ = some (Value.int .i64 0) from rfl)
            have hd3 := (blk_cell GH.out 3).trans (show _ = some (Value.int .i64 0) from rfl)
            have hd4 := (blk_cell GH.out 4).trans (show _ = some (Value.int .i64 0) from rfl)
            have hz0 := blk_frozen GH.out 0
            have hz1 := blk_frozen GH.out 1
            have hz2 := blk_frozen GH.out 2
            have hz3 := blk_frozen GH.out 3
            have hz4 := blk_frozen GH.out 4
            refine one_ (i := 7) (N := none) #[true, true, true, true, true, true, true, true, false, false] rfl rfl (by kernel_rfl) (by decide) (fun K hK => ?_)
            refine store_step (w1 := (((((w87.setCell ⟨gh, 0, none⟩ (.int .i64 f0)).setCell ⟨gh, 1, none⟩ (.int .i64 f1)).setCell ⟨gh, 2, none⟩ (.int .i64 f2)).setCell ⟨gh, 3, none⟩ (.int .i64 f3)).setCell ⟨gh, 4, none⟩ (.int .i64 f4))) (by rfl) rfl rfl ?hr ?_
            (case hr => first | (go_simp; done) | (go_simp; rfl))
            have n0_ := Aside0.mk (show ((((((w87.setCell ⟨gh, 0, none⟩ (.int .i64 f0)).setCell ⟨gh, 1, none⟩ (.int .i64 f1)).setCell ⟨gh, 2, none⟩ (.int .i64 f2)).setCell ⟨gh, 3, none⟩ (.int .i64 f3)).setCell ⟨gh, 4, none⟩ (.int .i64 f4))).heap[ga]? = _ from ((Go.Deep.blk_setCell_other _ _ _ _ HNE.out.symm).trans ((Go.Deep.blk_setCell_other _ _ _ _ HNE.out.symm).trans ((Go.Deep.blk_setCell_other _ _ _ _ HNE.out.symm).trans ((Go.Deep.blk_setCell_other _ _ _ _ HNE.out.symm).trans ((Go.Deep.blk_setCell_other _ _ _ _ HNE.out.symm).trans GA.out))))))
            have n1_ := Aside0.mk (show ((((((w87.setCell ⟨gh, 0, none⟩ (.int .i64 f0)).setCell ⟨gh, 1, none⟩ (.int .i64 f1)).setCell ⟨gh, 2, none⟩ (.int .i64 f2)).setCell ⟨gh, 3, none⟩ (.int .i64 f3)).setCell ⟨gh, 4, none⟩ (.int .i64 f4))).heap[gh]? = some (.cells #[.int .i64 f0, .int .i64 f1, .int .i64 f2, .int .i64 f3, .int .i64 f4] 43 (0, 0)) from (blk_put (blk_put (blk_put (blk_put (blk_put GH.out 0 _ rfl) 1 _ rfl) 2 _ rfl) 3 _ rfl) 4 _ rfl))
            have n2_ := Aside0.mk (show Below w.heap.size w (((((w87.setCell ⟨gh, 0, none⟩ (.int .i64 f0)).setCell ⟨gh, 1, none⟩ (.int .i64 f1)).setCell ⟨gh, 2, none⟩ (.int .i64 f2)).setCell ⟨gh, 3, none⟩ (.int .i64 f3)).setCell ⟨gh, 4, none⟩ (.int .i64 f4)) from (below_set (below_set (below_set (below_set (below_set HB.out GEH.out) GEH.out) GEH.out) GEH.out) GEH.out))
            have n3_ := Aside0.mk (show Kd.R (Kd.int .u8) 5 (((((w87.setCell ⟨gh, 0, none⟩ (.int .i64 f0)).setCell ⟨gh, 1, none⟩ (.int .i64 f1)).setCell ⟨gh, 2, none⟩ (.int .i64 f2)).setCell ⟨gh, 3, none⟩ (.int .i64 f3)).setCell ⟨gh, 4, none⟩ (.int .i64 f4)) w.heap.size (fun _ => True) (.slice A87 d.length c87) d from (Kd.R_set (Kd.R_set (Kd.R_set (Kd.R_set (Kd.R_set HO.out GH.out (by decide) 0 _) (blk_put GH.out 0 _ rfl) (by decide) 1 _) (blk_put (blk_put GH.out 0 _ rfl) 1 _ rfl) (by decide) 2 _) (blk_put (blk_put (blk_put GH.out 0 _ rfl) 1 _ rfl) 2 _ rfl) (by decide) 3 _) (blk_put (blk_put (blk_put (blk_put GH.out 0 _ rfl) 1 _ rfl) 2 _ rfl) 3 _ rfl) (by decide) 4 _))
            clear GA GH HB HO hd0 hd1 hd2 hd3 hd4 hz0 hz1 hz2 hz3 hz4
            generalize (((((w87.setCell ⟨gh, 0, none⟩ (.int .i64 f0)).setCell ⟨gh, 1, none⟩ (.int .i64 f1)).setCell ⟨gh, 2, none⟩ (.int .i64 f2)).setCell ⟨gh, 3, none⟩ (.int .i64 f3)).setCell ⟨gh, 4, none⟩ (.int .i64 f4)) = ws at n0_ n1_ n2_ n3_ ⊢
            have GA := n0_
            have GH := n1_
            have HB := n2_
            have HO := n3_
            clear n0_ n1_ n2_ n3_
            refine hK.out _ _ ⟨(blk_cell GA.out 0).trans rfl, (blk_cell GA.out 1).trans rfl, (blk_cell GA.out 2).trans rfl, (blk_cell GA.out 3).trans rfl, (blk_cell GA.out 4).trans rfl⟩ (fun hHeld => ?_)
            clear hK K
            refine pure_ (i := 8) (N := some 3) (v := ?_) (a' := ?_) #[true, true, true, true, true, true, true, true, true, false] rfl rfl (by kernel_rfl) (fun _ _ _ h => h) (Or.inl ⟨by rfl, ?_⟩) ?_ ?_
            rotate_left
            · intro w'
              go_simp
              with_reducible rfl
            rotate_left
            · simp only [Act.put, List.setIfInBounds_toArray, List.set_cons_zero, List.set_cons_succ, i64_w, i32_w]
              rfl
            refine pure_ (i := 9) (N := some 4) (v := ?_) (a' := ?_) #[true, true, true, true, true, true, true, true, true, true] rfl rfl (by kernel_rfl) (fun _ _ _ h => h) (Or.inl ⟨by rfl, ?_⟩) ?_ ?_
            rotate_left
            · intro w'
              go_simp
              with_reducible rfl
            rotate_left
            · simp only [Act.put, List.setIfInBounds_toArray, List.set_cons_zero, List.set_cons_succ, i64_w, i32_w]
              rfl
            refine done_ (by kernel_rfl) ?_
            go_wp2
            (try simp only [Exit.inBlock, Exit.then])
            refine bodyPost_ret (results_ctt rfl _ _ gh 43 _ (0, 0) _ rfl GH.out Try.underlying43 rfl (by kernel_rfl)) rfl ?_
            exact ⟨_, rfl, (by (with_reducible repeat (first | apply Kd.R_alloc | apply Kd.R_drewN | apply Kd.R_drew)); exact HO.out), (by repeat (first | (with_reducible first | exact HB.out | apply below_alloc | apply pw_below_drewN | apply below_drew1) | exact HB.out))⟩
end Go.Proofs.Ytahnncccdlblgaa.G
