/- What sector.Open does, in closed form. Conditions: cells that are bytes. -/
import Derived.Test.YtahnncccdlblgaaGseal
import Derived.Below
import Derived.Deep.Draws
import Derived.Deep.AppendLies
import Derived.Maps.AppendAt
import Derived.OwnWalk
import Derived.Laws.BytesArg
import Derived.Laws.MakeOwn
import Derived.Laws.OwnMore
import Derived.Deep.OwnRows
import Derived.Tactics
import Derived.Lib.ConvBytes
import Derived.Laws.Slices
import Derived.WalkKit
import Derived.KernelRfl
import Derived.RowKit3
import Derived.Deep.LoopGhost
import Derived.Deep.QuietTactic
import Derived.BigQuiet
import Derived.WideLaws
import Derived.Deep.DeepCutAuto
import Derived.Deep.CutBlock
import Derived.Deep.RegionHeld3
import Derived.Laws.Rows
import Derived.Lib.AppendStr
import Derived.ArgAppend
import Derived.Laws.IdiomCopy
import Derived.OrdersHeld
import Derived.Laws.BitsLemmas
import Derived.RowKit
namespace Go.Proofs.Ytahnncccdlblgaa.G
open Go.RowKit Go.Proofs.YtahnncccdlblgaaW.PrintWords Go.Proofs.YtahnncccdlblgaaW.PrintLast Go.Proofs.YtahnncccdlblgaaW.PrintMore Go.Proofs.Ytahnncccdlblgaa.Plain
attribute [local go_sem] max2_int min2_int max_two min_two max_three min_three max_four min_four
set_option linter.unusedVariables false
set_option linter.unusedSimpArgs false
/-- The number of s bytes from p on. -/
def fld (l : List Int) (p s : Nat) : Int := val ((l.take (p + s)).drop p)
def offN : Nat → Nat
  | 0 => 0
  | 1 => 1
  | 2 => 5
  | 3 => 12
  | 4 => 13
  | 5 => 14
  | _ => 16
def szN : Nat → Nat
  | 0 => 1
  | 1 => 4
  | 2 => 7
  | 3 => 1
  | 4 => 1
  | _ => 2
/-- The j-th number of a head. -/
def fieldN (l : List Int) (j : Nat) : Int := fld l (offN j) (szN j)
/-- The j-th number, when k have been read. -/
def cellN (l : List Int) (k j : Nat) : Int := if j < k then fieldN l j else 0
def arrN (l : List Int) (k : Nat) : Array Value := #[.int .i64 (cellN l k 0), .int .i64 (cellN l k 1), .int .i64 (cellN l k 2), .int .i64 (cellN l k 3), .int .i64 (cellN l k 4), .int .i64 (cellN l k 5)]
/-- The data, as many as the last number says. -/
def dataN (l : List Int) : List Int := (l.take (16 + fieldN l 5).toNat).drop (16 : Int).toNat
def openF (l : List Int) : Int × Int × Int × Int × Int × List Int × Int :=
  if l.length = 512 then
    (if fieldN l 5 ≤ 496 then
      (if sealF (fieldN l 0) (fieldN l 1) (fieldN l 2) (fieldN l 3) (fieldN l 4) (dataN l) = (l, 0) then (fieldN l 0, fieldN l 1, fieldN l 2, fieldN l 3, fieldN l 4, dataN l, 0)
        else (0, 0, 0, 0, 0, [], 14))
      else (0, 0, 0, 0, 0, [], 14))
    else (0, 0, 0, 0, 0, [], 3)
def sector_Open.f (l : List Int) : Option (Int × Int × Int × Int × Int × List Int × Int) := if bytesB l = true then some (openF l) else none

theorem arr_put (l : List Int) (k : Nat) (hk : k < 6) : (arrN l k).setIfInBounds k (.int .i64 (fieldN l k)) = arrN l (k + 1) := by
  match k, hk with
  | 0, _ => rfl
  | 1, _ => rfl
  | 2, _ => rfl
  | 3, _ => rfl
  | 4, _ => rfl
  | 5, _ => rfl
theorem arr_get (l : List Int) (k j : Nat) (hj : j < 6) : (arrN l k)[j]? = some (.int .i64 (cellN l k j)) := by
  match j, hj with
  | 0, _ => rfl
  | 1, _ => rfl
  | 2, _ => rfl
  | 3, _ => rfl
  | 4, _ => rfl
  | 5, _ => rfl
theorem off_step (j : Nat) (hj : j < 6) : (offN j : Int) + (szN j : Int) = (offN (j + 1) : Int) := by
  match j, hj with
  | 0, _ => rfl
  | 1, _ => rfl
  | 2, _ => rfl
  | 3, _ => rfl
  | 4, _ => rfl
  | 5, _ => rfl
theorem sz_rd (j : Nat) (hj : j < 6) : rd [1, 4, 7, 1, 1, 2] (j : Int) = (szN j : Int) := by
  match j, hj with
  | 0, _ => rfl
  | 1, _ => rfl
  | 2, _ => rfl
  | 3, _ => rfl
  | 4, _ => rfl
  | 5, _ => rfl
theorem off_bd (j : Nat) : offN j ≤ 16 ∧ 1 ≤ szN j ∧ szN j ≤ 7 ∧ (j < 6 → offN j + szN j ≤ 16) := by
  match j with
  | 0 => decide
  | 1 => decide
  | 2 => decide
  | 3 => decide
  | 4 => decide
  | 5 => decide
  | n + 6 => exact ⟨Nat.le_refl 16, by show 1 ≤ 2; decide, by show 2 ≤ 7; decide, fun h => by omega⟩
theorem get_field (l : List Int) (hb : bytesB l = true) (hl : l.length = 512) (j : Nat) (hj : j < 6) : num_Get.f l (offN j) (szN j) = some (fieldN l j, 0) := by
  have h := off_bd j
  have h3 := h.2.2.2 hj
  unfold num_Get.f
  rw [if_pos hb, if_neg (by omega), if_neg (by omega), if_neg (by omega), if_neg (by omega), if_neg (by omega)]
  unfold fieldN fld
  rw [show ((offN j : Int) + (szN j : Int)).toNat = offN j + szN j by omega, Int.toNat_natCast]

theorem be_bytes (n : Int) (k : Nat) : ∀ x ∈ be n k, 0 ≤ x ∧ x ≤ 255 := by
  induction k with
  | zero => intro x h; simp [be] at h
  | succ k ih =>
    intro x h
    simp only [be, List.mem_cons] at h
    rcases h with rfl | h
    · have := Int.emod_nonneg (n / 256 ^ k) (show (256 : Int) ≠ 0 by decide)
      have := Int.emod_lt_of_pos (n / 256 ^ k) (show (0 : Int) < 256 by decide)
      omega
    · exact ih x h
theorem seal_bytes (a0 a1 a2 a3 a4 : Int) (l : List Int) (h : bytesB l = true) : bytesB (sealF a0 a1 a2 a3 a4 l).1 = true := by
  rw [bytesB_iff] at h ⊢
  unfold sealF
  split
  · split
    · intro x hx
      simp only [sealB, List.mem_append, List.mem_replicate] at hx
      rcases hx with ((((((hx | hx) | hx) | hx) | hx) | hx) | hx) | hx
      · exact be_bytes _ _ x hx
      · exact be_bytes _ _ x hx
      · exact be_bytes _ _ x hx
      · exact be_bytes _ _ x hx
      · exact be_bytes _ _ x hx
      · exact be_bytes _ _ x hx
      · exact h x hx
      · omega
    · intro x hx; simp at hx
  · intro x hx; simp at hx
theorem field_bd (l : List Int) (hb : bytesB l = true) (j : Nat) : 0 ≤ fieldN l j ∧ fieldN l j < 256 ^ 7 := by
  rw [bytesB_iff] at hb
  have h := val_bd ((l.take (offN j + szN j)).drop (offN j)) (fun x hx => hb x (List.mem_of_mem_take (List.mem_of_mem_drop hx)))
  refine ⟨h.1, Int.lt_of_lt_of_le h.2 (pow256_le ?_)⟩
  have := off_bd j
  rw [List.length_drop, List.length_take]
  omega

set_option maxHeartbeats 4000000 in
theorem sector_Open.calls (A0 : Option Addr) (c0 : Nat) (l0 : List Int) (r0 r1 r2 r3 r4 : Int) (r5 : List Int) (r6 : Int) (w : World) (hr0 : Kd.C (Kd.int .u8) w A0 l0.length l0) (hc0 : l0.length ≤ c0) (h : sector_Open.f l0 = some (r0, r1, r2, r3, r4, r5, r6)) :
    Calls Try.prog 21 #[.slice A0 l0.length c0] w fun e w' => ∃ v0_ : Value, e = .returned (.tuple #[.agg #[.int .i64 r0, .int .i64 r1, .int .i64 r2, .int .i64 r3, .int .i64 r4], v0_, .int .i64 r6]) ∧ Kd.R (Kd.int .u8) 5 w' w.heap.size (fun _ => True) v0_ r5 ∧ Below w.heap.size w w' := by
  have HR0 := Aside0.mk hr0
  have HC0 := Aside0.mk hc0
  have HB := Aside0.mk (Below.refl w.heap.size w)
  unfold sector_Open.f at h
  have hbb : bytesB l0 = true := by
    cases hbb : bytesB l0 with
    | true => rfl
    | false => rw [hbb] at h; cases h
  rw [if_pos hbb] at h
  have hE := Option.some.inj h
  clear h hr0 hc0
  unfold openF at hE
  by_cases hl : l0.length = 512
  · rw [if_pos hl] at hE
    have HE := Aside0.mk hE
    have hnb : (((l0.length : Int)) != 512) = false := bne_eq_false_iff_eq.2 (by omega)
    have HL := Aside0.mk hl
    clear hE hl
    go_enter Try.func21, Try.ntmps21
    go_wp2_with (first | ((with_reducible refine gate_dst (N := 2) rfl ?_); refine box_event ?hg (N := 2) ?hd (cs := #[.int .i64 0, .int .i64 0, .int .i64 0, .int .i64 0, .int .i64 0]) (t := 23) ?hr ?_; (case hd => rfl); (case hg => rfl); (case hr => first | (go_simp; done) | (go_simp; rfl)); intro gh hg wgh hbk hb; have n1_ := Aside0.mk (show w.heap.size ≤ gh from by rw [hg]; exact (below_size (by repeat (first | (with_reducible first | exact HB.out | apply below_alloc | apply pw_below_drewN | apply below_drew1) | exact HB.out)))); have n2_ := Aside0.mk (below_step (by repeat (first | (with_reducible first | exact HB.out | apply below_alloc | apply pw_below_drewN | apply below_drew1) | exact HB.out)) hb); clear HB; have GEH := n1_; have HB := n2_; have GH := Aside0.mk hbk; clear n1_ n2_ hb hbk hg) | ((with_reducible refine gate_dst (N := 5) rfl ?_); refine box_event ?hg (N := 5) ?hd (cs := #[.int .i64 0, .int .i64 0, .int .i64 0, .int .i64 0, .int .i64 0, .int .i64 0]) (t := 78) ?hr ?_; (case hd => rfl); (case hg => rfl); (case hr => first | (go_simp; done) | (go_simp; rfl)); intro ga hg wga hbk hb; have n1_ := Aside0.mk (show w.heap.size ≤ ga from by rw [hg]; exact (below_size (by repeat (first | (with_reducible first | exact HB.out | apply below_alloc | apply pw_below_drewN | apply below_drew1) | exact HB.out)))); have n2_ := Aside0.mk (below_step (by repeat (first | (with_reducible first | exact HB.out | apply below_alloc | apply pw_below_drewN | apply below_drew1) | exact HB.out)) hb); have n3_ := Aside0.mk (blk_below GH.out hb); have n4_ := Aside0.mk (show gh ≠ ga from by have := blk_lt GH.out; omega); clear HB GH; have GEA := n1_; have HB := n2_; have GH := n3_; have HNE := n4_; have GA := Aside0.mk (show _ = some (Obj.cells (arrN l0 0) 78 (0, 0)) from hbk); clear n1_ n2_ n3_ n4_ hb hbk hg) | (go_at_call 39; (with_reducible refine (BSec.sector_sizes.calls [1, 4, 7, 1, 1, 2] _ rfl).mono ?_); rintro e w3 ⟨v14, rfl, ho, hb⟩; have n1_ := Aside0.mk (Kd.R_lower ho (below_size (by repeat (first | (with_reducible first | exact HB.out | apply below_alloc | apply pw_below_drewN | apply below_drew1) | exact HB.out)))); have n2_ := Aside0.mk (blk_below GH.out hb); have n3_ := Aside0.mk (blk_below GA.out hb); have n0_ := Aside0.mk (below_step (by repeat (first | (with_reducible first | exact HB.out | apply below_alloc | apply pw_below_drewN | apply below_drew1) | exact HB.out)) hb); clear HB; have HB := n0_; clear n0_; clear GH GA ho hb; have HS := n1_; have GH := n2_; have GA := n3_; clear n1_ n2_ n3_; obtain ⟨A14, c14, e14⟩ := Kd.R_slice HS.out; subst e14))
    go_loopw [6, 16] (fun v i wr => ∃ j : Nat, j ≤ 6 ∧ v = .int .i64 (offN j : Int) ∧ i = .int .i64 (j : Int) ∧ Aside0 (wr.heap[ga]? = some (.cells (arrN l0 j) 78 (0, 0))) ∧ Aside0 (wr.heap[gh]? = some (.cells #[.int .i64 0, .int .i64 0, .int .i64 0, .int .i64 0, .int .i64 0] 23 (0, 0))) ∧ Aside0 (Kd.R (Kd.int .i64) 3 wr w.heap.size (fun _ => True) (.slice A14 6 c14) [1, 4, 7, 1, 1, 2]) ∧ Aside0 (Below w.heap.size w wr)) (fun _ i _ => 6 - (intOf i).toNat)
    case atStart => exact ⟨0, by omega, rfl, rfl, GA, GH, HS, HB⟩
    case round =>
      clear HB GA GH HS
      obtain ⟨j, hj, rfl, rfl, GA, GH, HS, HB⟩ := hrel
      by_cases hlt : j < 6
      · obtain ⟨ad14, e14, hx14⟩ := Kd.at_int (Kd.R_reads' HS.out).2.2 (j : Int) (by omega) (by simp; omega)
        cases e14
        obtain ⟨s, hs⟩ : ∃ s : Int, s = (szN j : Int) := ⟨_, rfl⟩
        obtain ⟨p, hp⟩ : ∃ p : Int, p = (offN j : Int) := ⟨_, rfl⟩
        obtain ⟨f, hf⟩ : ∃ f : Int, f = fieldN l0 j := ⟨_, rfl⟩
        have HG := Aside0.mk (show num_Get.f l0 p s = some (f, 0) by rw [hs, hp, hf]; exact get_field l0 hbb HL.out j hlt)
        rw [sz_rd j hlt, ← hs] at hx14
        simp only [Int.toNat_natCast] at hx14
        rw [← hp]
        have HF := Aside0.mk hf
        have HP := Aside0.mk hp
        have HSZ := Aside0.mk hs
        have hcz := (blk_cell GA.out j).trans (arr_get l0 j j hlt)
        have hfz := blk_frozen GA.out j
        clear hf hp hs
        go_wp2_with (first | (go_at_call 41; (with_reducible refine (num_Get.calls A0 c0 l0 p s f 0 _ ?s1 ?s2 HG.out).mono ?_); (case s1 => exact (by repeat (first | exact (Kd.C_below HR0.out HB.out) | (with_reducible refine Kd.C_alloc ?_ _) | (with_reducible refine Kd.C_drewN ?_ _) | (with_reducible refine Kd.C_drew ?_)))); (case s2 => exact HC0.out); rintro e w4 ⟨rfl, ⟨nd, rfl⟩⟩) | ((with_reducible refine gate_store (t := 3) (p := 29) rfl ?_); refine store_event (t := 3) (p := 29) (v := ?vo) (w1 := ((wr.drewN nd).setCell ⟨ga, j, none⟩ (.int .i64 f))) ?hg ?ho ?hn ?hr ?_; (case ho => rfl); (case hg => rfl); (case hn => rfl); (case hr => first | (go_simp; done) | (go_simp; rfl)); intro w5 hw))
        go_roundw
        case rel => exact ⟨j + 1, by omega, by rw [HP.out, HSZ.out, off_step j hlt, wrap_id (by omega) (by have := off_bd (j + 1); omega)], by go_num, ⟨by rw [HF.out]; exact blk_put (blk_drewN GA.out nd) j _ (arr_put l0 j hlt)⟩, ⟨(Go.Deep.blk_setCell_other _ _ _ _ HNE.out).trans (blk_drewN GH.out nd)⟩, ⟨Kd.R_set (by (with_reducible repeat (first | apply Kd.R_alloc | apply Kd.R_drewN | apply Kd.R_drew)); exact HS.out) (blk_drewN GA.out nd) (by decide) j _⟩, ⟨below_set (by repeat (first | (with_reducible first | exact HB.out | apply below_alloc | apply pw_below_drewN | apply below_drew1) | exact HB.out)) GEA.out⟩⟩
        case measure => simp [intOf]; omega
      · obtain rfl : j = 6 := by omega
        clear hlt hj
        have hc0' := (blk_cell GA.out 0).trans (show _ = some (Value.int .i64 (fieldN l0 0)) from rfl)
        have hc1' := (blk_cell GA.out 1).trans (show _ = some (Value.int .i64 (fieldN l0 1)) from rfl)
        have hc2' := (blk_cell GA.out 2).trans (show _ = some (Value.int .i64 (fieldN l0 2)) from rfl)
        have hc3' := (blk_cell GA.out 3).trans (show _ = some (Value.int .i64 (fieldN l0 3)) from rfl)
        have hc4' := (blk_cell GA.out 4).trans (show _ = some (Value.int .i64 (fieldN l0 4)) from rfl)
        have hc5' := (blk_cell GA.out 5).trans (show _ = some (Value.int .i64 (fieldN l0 5)) from rfl)
        have hd0 := (blk_cell GH.out 0).trans (show _ = some (Value.int .i64 0) from rfl)
        have hd1 := (blk_cell GH.out 1).trans (show _ = some (Value.int .i64 0) from rfl)
        have hd2 := (blk_cell GH.out 2).trans (show _ = some (Value.int .i64 0) from rfl)
        have hd3 := (blk_cell GH.out 3).trans (show _ = some (Value.int .i64 0) from rfl)
        have hd4 := (blk_cell GH.out 4).trans (show _ = some (Value.int .i64 0) from rfl)
        have hz0 := blk_frozen GH.out 0
        have hz1 := blk_frozen GH.out 1
        have hz2 := blk_frozen GH.out 2
        have hz3 := blk_frozen GH.out 3
        have hz4 := blk_frozen GH.out 4
        have hfb := field_bd l0 hbb 5
        by_cases h5 : fieldN l0 5 ≤ 496
        · have h5b : decide (496 < fieldN l0 5) = false := decide_eq_false (by omega)
          rw [if_pos h5] at HE
          obtain ⟨d, hd⟩ : ∃ d, dataN l0 = d := ⟨_, rfl⟩
          have hdl : d.length = (fieldN l0 5).toNat := by rw [← hd]; unfold dataN; rw [List.length_drop, List.length_take, HL.out]; omega
          have hdb : bytesB d = true := by rw [← hd]; exact bytesB_iff.2 (fun x hx => bytesB_iff.1 hbb x (List.mem_of_mem_take (List.mem_of_mem_drop hx)))
          obtain ⟨i08, hi08, _, hsz8, _⟩ := info_parts infoB
          have hcut := cut_mid (P := Try.prog) 24 5 .i64 .i64 Try.underlying24 hi08 1 hsz8 A0 l0.length c0 16 (16 + fieldN l0 5) (by omega) (by omega) (by rw [HL.out]; omega) HC0.out
          have hr := Kd.C_mid (lo := (16 : Int).toNat) (hi := (16 + fieldN l0 5).toNat) (c := c0) HR0.out (by omega) (by rw [HL.out]; omega) HC0.out
          rw [show (l0.take (16 + fieldN l0 5).toNat).drop (16 : Int).toNat = d from hd] at hr
          rw [show (16 + fieldN l0 5).toNat - (16 : Int).toNat = d.length by rw [hdl]; omega] at hcut
          obtain ⟨A1, hA1⟩ : ∃ A1, A1 = (if c0 = (16 : Int).toNat then A0 else A0.map (·.add ((16 : Int).toNat * 1))) := ⟨_, rfl⟩
          obtain ⟨c1, hc1⟩ : ∃ c1, c1 = c0 - (16 : Int).toNat := ⟨_, rfl⟩
          rw [← hA1, ← hc1] at hcut
          have HRD := Aside0.mk (show Kd.C (Kd.int .u8) w A1 d.length d from by rw [hA1]; exact hr)
          have HCD := Aside0.mk (show d.length ≤ c1 from by rw [hc1, hdl]; have := HC0.out; have := HL.out; omega)
          have HCL := Aside0.mk (show bytes_Clone.f d = some d by unfold bytes_Clone.f; rw [if_pos (by omega)])
          obtain ⟨⟨sb, se⟩, hse⟩ : ∃ x, x = sealF (fieldN l0 0) (fieldN l0 1) (fieldN l0 2) (fieldN l0 3) (fieldN l0 4) d := ⟨_, rfl⟩
          have hsb := seal_bytes (fieldN l0 0) (fieldN l0 1) (fieldN l0 2) (fieldN l0 3) (fieldN l0 4) d hdb
          rw [← hse] at hsb
          have HE1 := HE.out
          rw [hd, ← hse] at HE1
          have HEQ := Aside0.mk (show bytes_Equal.f sb l0 = some (decide (sb = l0)) by unfold bytes_Equal.f; rw [if_pos hsb, if_pos hbb])
          have HF5 := Aside0.mk (show (arrN l0 6)[5]? = some (Value.int .i64 (fieldN l0 5)) from rfl)
          generalize fieldN l0 0 = f0 at *
          generalize fieldN l0 1 = f1 at *
          generalize fieldN l0 2 = f2 at *
          generalize fieldN l0 3 = f3 at *
          generalize fieldN l0 4 = f4 at *
          generalize fieldN l0 5 = f5 at *
          have HSE := Aside0.mk (show sector_Seal.f f0 f1 f2 f3 f4 d = some (sb, se) by unfold sector_Seal.f; rw [hse])
          have HEA := Aside0.mk HE1
          clear hse hsb hd hdb HE HE1 hdl hi08 hsz8 hA1 hc1 hr
          by_cases hs0 : se = 0
          · subst hs0
            by_cases hq : sb = l0
            · have hqb := decide_eq_true hq
              rw [hqb] at HEQ
              obtain ⟨rfl, rfl, rfl, rfl, rfl, rfl, rfl⟩ : f0 = r0 ∧ f1 = r1 ∧ f2 = r2 ∧ f3 = r3 ∧ f4 = r4 ∧ d = r5 ∧ 0 = r6 := by have := HEA.out; rw [hq, if_pos rfl] at this; simpa using this
              clear hq hqb HEA
              go_wp2_with (first | (go_at_call 42; (with_reducible refine (bytes_Clone.calls A1 c1 d d _ ?s1 ?s2 HCL.out).mono ?_); (case s1 => exact Kd.C_below HRD.out (below_set (below_set (below_set (below_set (below_set HB.out GEH.out) GEH.out) GEH.out) GEH.out) GEH.out)); (case s2 => exact HCD.out); rintro e w8 ⟨v54, rfl, ho, hb⟩; have n1_ := Aside0.mk (Kd.R_lower ho (below_size (below_set (below_set (below_set (below_set (below_set HB.out GEH.out) GEH.out) GEH.out) GEH.out) GEH.out))); have n2_ := Aside0.mk (show w8.heap[gh]? = some (.cells #[.int .i64 f0, .int .i64 f1, .int .i64 f2, .int .i64 f3, .int .i64 f4] 23 (0, 0)) from blk_below (blk_put (blk_put (blk_put (blk_put (blk_put GH.out 0 _ rfl) 1 _ rfl) 2 _ rfl) 3 _ rfl) 4 _ rfl) hb); have n3_ := Aside0.mk (below_step (below_set (below_set (below_set (below_set (below_set HB.out GEH.out) GEH.out) GEH.out) GEH.out) GEH.out) hb); clear GH GA HB ho hb hd0 hd1 hd2 hd3 hd4 hz0 hz1 hz2 hz3 hz4 hc0' hc1' hc2' hc3' hc4' hc5'; have HD := n1_; have GH := n2_; have HB := n3_; clear n1_ n2_ n3_; obtain ⟨A54, c54, e54⟩ := Kd.R_slice HD.out; subst e54; have hd0 := (blk_cell GH.out 0).trans (show _ = some (Value.int .i64 f0) from rfl); have hd1 := (blk_cell GH.out 1).trans (show _ = some (Value.int .i64 f1) from rfl); have hd2 := (blk_cell GH.out 2).trans (show _ = some (Value.int .i64 f2) from rfl); have hd3 := (blk_cell GH.out 3).trans (show _ = some (Value.int .i64 f3) from rfl); have hd4 := (blk_cell GH.out 4).trans (show _ = some (Value.int .i64 f4) from rfl)) | (go_at_call 14; (with_reducible refine (sector_Seal.calls f0 f1 f2 f3 f4 A54 c54 d sb _ _ ?s1 ?s2 HSE.out).mono ?_); (case s1 => exact (by repeat (first | exact (Kd.R_reads' HD.out).2.2 | (with_reducible refine Kd.C_alloc ?_ _) | (with_reducible refine Kd.C_drewN ?_ _) | (with_reducible refine Kd.C_drew ?_)))); (case s2 => exact (Kd.R_reads' HD.out).2.1); rintro e w9 ⟨v58, rfl, ho, hb⟩; have n1_ := Aside0.mk (Kd.R_lower ho (below_size (by repeat (first | (with_reducible first | exact HB.out | apply below_alloc | apply pw_below_drewN | apply below_drew1) | exact HB.out)))); have n2_ := Aside0.mk (blk_below GH.out hb); have n3_ := Aside0.mk (Kd.R_below HD.out hb); have n0_ := Aside0.mk (below_step (by repeat (first | (with_reducible first | exact HB.out | apply below_alloc | apply pw_below_drewN | apply below_drew1) | exact HB.out)) hb); clear HB; have HB := n0_; clear n0_; clear GH HD ho hb; have HSB := n1_; have GH := n2_; have HD := n3_; clear n1_ n2_ n3_; obtain ⟨A59, c59, e59⟩ := Kd.R_slice HSB.out; subst e59; have he0 := (blk_cell GH.out 0).trans (show _ = some (Value.int .i64 f0) from rfl); have he1 := (blk_cell GH.out 1).trans (show _ = some (Value.int .i64 f1) from rfl); have he2 := (blk_cell GH.out 2).trans (show _ = some (Value.int .i64 f2) from rfl); have he3 := (blk_cell GH.out 3).trans (show _ = some (Value.int .i64 f3) from rfl); have he4 := (blk_cell GH.out 4).trans (show _ = some (Value.int .i64 f4) from rfl); have hz0 := blk_frozen GH.out 0; have hz1 := blk_frozen GH.out 1; have hz2 := blk_frozen GH.out 2; have hz3 := blk_frozen GH.out 3; have hz4 := blk_frozen GH.out 4) | (go_at_call 43; (with_reducible refine (bytes_Equal.calls A59 c59 sb A0 c0 l0 _ _ ?s1 ?s2 ?s3 ?s4 HEQ.out).mono ?_); (case s1 => exact (by repeat (first | exact (Kd.R_reads' HSB.out).2.2 | (with_reducible refine Kd.C_alloc ?_ _) | (with_reducible refine Kd.C_drewN ?_ _) | (with_reducible refine Kd.C_drew ?_)))); (case s2 => exact (Kd.R_reads' HSB.out).2.1); (case s3 => exact (by repeat (first | exact (Kd.C_below HR0.out HB.out) | (with_reducible refine Kd.C_alloc ?_ _) | (with_reducible refine Kd.C_drewN ?_ _) | (with_reducible refine Kd.C_drew ?_)))); (case s4 => exact HC0.out); rintro e w' ⟨rfl, ⟨nd, rfl⟩⟩))
              (try simp only [Exit.inBlock, Exit.then])
              refine bodyPost_ret (results_ctt rfl _ _ gh 23 _ (0, 0) _ rfl (blk_put (blk_put (blk_put (blk_put (blk_put (blk_drewN GH.out nd) 0 _ rfl) 1 _ rfl) 2 _ rfl) 3 _ rfl) 4 _ rfl) Try.underlying23 rfl (by kernel_rfl)) rfl ?_
              exact ⟨_, rfl, (Kd.R_set (Kd.R_set (Kd.R_set (Kd.R_set (Kd.R_set (by (with_reducible repeat (first | apply Kd.R_alloc | apply Kd.R_drewN | apply Kd.R_drew)); exact HD.out) (blk_drewN GH.out nd) (by decide) 0 _) (blk_put (blk_drewN GH.out nd) 0 _ rfl) (by decide) 1 _) (blk_put (blk_put (blk_drewN GH.out nd) 0 _ rfl) 1 _ rfl) (by decide) 2 _) (blk_put (blk_put (blk_put (blk_drewN GH.out nd) 0 _ rfl) 1 _ rfl) 2 _ rfl) (by decide) 3 _) (blk_put (blk_put (blk_put (blk_put (blk_drewN GH.out nd) 0 _ rfl) 1 _ rfl) 2 _ rfl) 3 _ rfl) (by decide) 4 _), (below_set (below_set (below_set (below_set (below_set (by repeat (first | (with_reducible first | exact HB.out | apply below_alloc | apply pw_below_drewN | apply below_drew1) | exact HB.out)) GEH.out) GEH.out) GEH.out) GEH.out) GEH.out)⟩
            · have hqb := decide_eq_false hq
              rw [hqb] at HEQ
              obtain ⟨rfl, rfl, rfl, rfl, rfl, rfl, rfl⟩ : 0 = r0 ∧ 0 = r1 ∧ 0 = r2 ∧ 0 = r3 ∧ 0 = r4 ∧ [] = r5 ∧ 14 = r6 := by have := HEA.out; rw [if_neg (by simpa using hq)] at this; simpa using this
              clear hq hqb HEA
              go_wp2_with (first | (go_at_call 42; (with_reducible refine (bytes_Clone.calls A1 c1 d d _ ?s1 ?s2 HCL.out).mono ?_); (case s1 => exact Kd.C_below HRD.out (below_set (below_set (below_set (below_set (below_set HB.out GEH.out) GEH.out) GEH.out) GEH.out) GEH.out)); (case s2 => exact HCD.out); rintro e w8 ⟨v54, rfl, ho, hb⟩; have n1_ := Aside0.mk (Kd.R_lower ho (below_size (below_set (below_set (below_set (below_set (below_set HB.out GEH.out) GEH.out) GEH.out) GEH.out) GEH.out))); have n2_ := Aside0.mk (show w8.heap[gh]? = some (.cells #[.int .i64 f0, .int .i64 f1, .int .i64 f2, .int .i64 f3, .int .i64 f4] 23 (0, 0)) from blk_below (blk_put (blk_put (blk_put (blk_put (blk_put GH.out 0 _ rfl) 1 _ rfl) 2 _ rfl) 3 _ rfl) 4 _ rfl) hb); have n3_ := Aside0.mk (below_step (below_set (below_set (below_set (below_set (below_set HB.out GEH.out) GEH.out) GEH.out) GEH.out) GEH.out) hb); clear GH GA HB ho hb hd0 hd1 hd2 hd3 hd4 hz0 hz1 hz2 hz3 hz4 hc0' hc1' hc2' hc3' hc4' hc5'; have HD := n1_; have GH := n2_; have HB := n3_; clear n1_ n2_ n3_; obtain ⟨A54, c54, e54⟩ := Kd.R_slice HD.out; subst e54; have hd0 := (blk_cell GH.out 0).trans (show _ = some (Value.int .i64 f0) from rfl); have hd1 := (blk_cell GH.out 1).trans (show _ = some (Value.int .i64 f1) from rfl); have hd2 := (blk_cell GH.out 2).trans (show _ = some (Value.int .i64 f2) from rfl); have hd3 := (blk_cell GH.out 3).trans (show _ = some (Value.int .i64 f3) from rfl); have hd4 := (blk_cell GH.out 4).trans (show _ = some (Value.int .i64 f4) from rfl)) | (go_at_call 14; (with_reducible refine (sector_Seal.calls f0 f1 f2 f3 f4 A54 c54 d sb _ _ ?s1 ?s2 HSE.out).mono ?_); (case s1 => exact (by repeat (first | exact (Kd.R_reads' HD.out).2.2 | (with_reducible refine Kd.C_alloc ?_ _) | (with_reducible refine Kd.C_drewN ?_ _) | (with_reducible refine Kd.C_drew ?_)))); (case s2 => exact (Kd.R_reads' HD.out).2.1); rintro e w9 ⟨v58, rfl, ho, hb⟩; have n1_ := Aside0.mk (Kd.R_lower ho (below_size (by repeat (first | (with_reducible first | exact HB.out | apply below_alloc | apply pw_below_drewN | apply below_drew1) | exact HB.out)))); have n2_ := Aside0.mk (blk_below GH.out hb); have n3_ := Aside0.mk (Kd.R_below HD.out hb); have n0_ := Aside0.mk (below_step (by repeat (first | (with_reducible first | exact HB.out | apply below_alloc | apply pw_below_drewN | apply below_drew1) | exact HB.out)) hb); clear HB; have HB := n0_; clear n0_; clear GH HD ho hb; have HSB := n1_; have GH := n2_; have HD := n3_; clear n1_ n2_ n3_; obtain ⟨A59, c59, e59⟩ := Kd.R_slice HSB.out; subst e59; have he0 := (blk_cell GH.out 0).trans (show _ = some (Value.int .i64 f0) from rfl); have he1 := (blk_cell GH.out 1).trans (show _ = some (Value.int .i64 f1) from rfl); have he2 := (blk_cell GH.out 2).trans (show _ = some (Value.int .i64 f2) from rfl); have he3 := (blk_cell GH.out 3).trans (show _ = some (Value.int .i64 f3) from rfl); have he4 := (blk_cell GH.out 4).trans (show _ = some (Value.int .i64 f4) from rfl); have hz0 := blk_frozen GH.out 0; have hz1 := blk_frozen GH.out 1; have hz2 := blk_frozen GH.out 2; have hz3 := blk_frozen GH.out 3; have hz4 := blk_frozen GH.out 4) | (go_at_call 43; (with_reducible refine (bytes_Equal.calls A59 c59 sb A0 c0 l0 _ _ ?s1 ?s2 ?s3 ?s4 HEQ.out).mono ?_); (case s1 => exact (by repeat (first | exact (Kd.R_reads' HSB.out).2.2 | (with_reducible refine Kd.C_alloc ?_ _) | (with_reducible refine Kd.C_drewN ?_ _) | (with_reducible refine Kd.C_drew ?_)))); (case s2 => exact (Kd.R_reads' HSB.out).2.1); (case s3 => exact (by repeat (first | exact (Kd.C_below HR0.out HB.out) | (with_reducible refine Kd.C_alloc ?_ _) | (with_reducible refine Kd.C_drewN ?_ _) | (with_reducible refine Kd.C_drew ?_)))); (case s4 => exact HC0.out); rintro e w' ⟨rfl, ⟨nd, rfl⟩⟩))
              (try simp only [Exit.inBlock, Exit.then])
              refine bodyPost_ret (results_ctt rfl _ _ gh 23 _ (0, 0) _ rfl (blk_put (blk_put (blk_put (blk_put (blk_put (blk_drewN GH.out nd) 0 _ rfl) 1 _ rfl) 2 _ rfl) 3 _ rfl) 4 _ rfl) Try.underlying23 rfl (by kernel_rfl)) rfl ?_
              exact ⟨_, rfl, Kd.R_nil _ _ _ _ _, (below_set (below_set (below_set (below_set (below_set (by repeat (first | (with_reducible first | exact HB.out | apply below_alloc | apply pw_below_drewN | apply below_drew1) | exact HB.out)) GEH.out) GEH.out) GEH.out) GEH.out) GEH.out)⟩
          · have hs1 : (se != 0) = true := bne_iff_ne.2 hs0
            obtain ⟨rfl, rfl, rfl, rfl, rfl, rfl, rfl⟩ : 0 = r0 ∧ 0 = r1 ∧ 0 = r2 ∧ 0 = r3 ∧ 0 = r4 ∧ [] = r5 ∧ 14 = r6 := by have := HEA.out; rw [if_neg (fun e => hs0 (Prod.mk.inj e).2)] at this; simpa using this
            clear hs0 HEA
            go_wp2_with (first | (go_at_call 42; (with_reducible refine (bytes_Clone.calls A1 c1 d d _ ?s1 ?s2 HCL.out).mono ?_); (case s1 => exact Kd.C_below HRD.out (below_set (below_set (below_set (below_set (below_set HB.out GEH.out) GEH.out) GEH.out) GEH.out) GEH.out)); (case s2 => exact HCD.out); rintro e w8 ⟨v54, rfl, ho, hb⟩; have n1_ := Aside0.mk (Kd.R_lower ho (below_size (below_set (below_set (below_set (below_set (below_set HB.out GEH.out) GEH.out) GEH.out) GEH.out) GEH.out))); have n2_ := Aside0.mk (show w8.heap[gh]? = some (.cells #[.int .i64 f0, .int .i64 f1, .int .i64 f2, .int .i64 f3, .int .i64 f4] 23 (0, 0)) from blk_below (blk_put (blk_put (blk_put (blk_put (blk_put GH.out 0 _ rfl) 1 _ rfl) 2 _ rfl) 3 _ rfl) 4 _ rfl) hb); have n3_ := Aside0.mk (below_step (below_set (below_set (below_set (below_set (below_set HB.out GEH.out) GEH.out) GEH.out) GEH.out) GEH.out) hb); clear GH GA HB ho hb hd0 hd1 hd2 hd3 hd4 hz0 hz1 hz2 hz3 hz4 hc0' hc1' hc2' hc3' hc4' hc5'; have HD := n1_; have GH := n2_; have HB := n3_; clear n1_ n2_ n3_; obtain ⟨A54, c54, e54⟩ := Kd.R_slice HD.out; subst e54; have hd0 := (blk_cell GH.out 0).trans (show _ = some (Value.int .i64 f0) from rfl); have hd1 := (blk_cell GH.out 1).trans (show _ = some (Value.int .i64 f1) from rfl); have hd2 := (blk_cell GH.out 2).trans (show _ = some (Value.int .i64 f2) from rfl); have hd3 := (blk_cell GH.out 3).trans (show _ = some (Value.int .i64 f3) from rfl); have hd4 := (blk_cell GH.out 4).trans (show _ = some (Value.int .i64 f4) from rfl)) | (go_at_call 14; (with_reducible refine (sector_Seal.calls f0 f1 f2 f3 f4 A54 c54 d sb _ _ ?s1 ?s2 HSE.out).mono ?_); (case s1 => exact (by repeat (first | exact (Kd.R_reads' HD.out).2.2 | (with_reducible refine Kd.C_alloc ?_ _) | (with_reducible refine Kd.C_drewN ?_ _) | (with_reducible refine Kd.C_drew ?_)))); (case s2 => exact (Kd.R_reads' HD.out).2.1); rintro e w9 ⟨v58, rfl, ho, hb⟩; have n1_ := Aside0.mk (Kd.R_lower ho (below_size (by repeat (first | (with_reducible first | exact HB.out | apply below_alloc | apply pw_below_drewN | apply below_drew1) | exact HB.out)))); have n2_ := Aside0.mk (blk_below GH.out hb); have n3_ := Aside0.mk (Kd.R_below HD.out hb); have n0_ := Aside0.mk (below_step (by repeat (first | (with_reducible first | exact HB.out | apply below_alloc | apply pw_below_drewN | apply below_drew1) | exact HB.out)) hb); clear HB; have HB := n0_; clear n0_; clear GH HD ho hb; have HSB := n1_; have GH := n2_; have HD := n3_; clear n1_ n2_ n3_; obtain ⟨A59, c59, e59⟩ := Kd.R_slice HSB.out; subst e59; have he0 := (blk_cell GH.out 0).trans (show _ = some (Value.int .i64 f0) from rfl); have he1 := (blk_cell GH.out 1).trans (show _ = some (Value.int .i64 f1) from rfl); have he2 := (blk_cell GH.out 2).trans (show _ = some (Value.int .i64 f2) from rfl); have he3 := (blk_cell GH.out 3).trans (show _ = some (Value.int .i64 f3) from rfl); have he4 := (blk_cell GH.out 4).trans (show _ = some (Value.int .i64 f4) from rfl); have hz0 := blk_frozen GH.out 0; have hz1 := blk_frozen GH.out 1; have hz2 := blk_frozen GH.out 2; have hz3 := blk_frozen GH.out 3; have hz4 := blk_frozen GH.out 4) | (go_at_call 43; (with_reducible refine (bytes_Equal.calls A59 c59 sb A0 c0 l0 _ _ ?s1 ?s2 ?s3 ?s4 HEQ.out).mono ?_); (case s1 => exact (by repeat (first | exact (Kd.R_reads' HSB.out).2.2 | (with_reducible refine Kd.C_alloc ?_ _) | (with_reducible refine Kd.C_drewN ?_ _) | (with_reducible refine Kd.C_drew ?_)))); (case s2 => exact (Kd.R_reads' HSB.out).2.1); (case s3 => exact (by repeat (first | exact (Kd.C_below HR0.out HB.out) | (with_reducible refine Kd.C_alloc ?_ _) | (with_reducible refine Kd.C_drewN ?_ _) | (with_reducible refine Kd.C_drew ?_)))); (case s4 => exact HC0.out); rintro e w' ⟨rfl, ⟨nd, rfl⟩⟩))
            (try simp only [Exit.inBlock, Exit.then])
            refine bodyPost_ret (results_ctt rfl _ _ gh 23 _ (0, 0) _ rfl (blk_put (blk_put (blk_put (blk_put (blk_put GH.out 0 _ rfl) 1 _ rfl) 2 _ rfl) 3 _ rfl) 4 _ rfl) Try.underlying23 rfl (by kernel_rfl)) rfl ?_
            exact ⟨_, rfl, Kd.R_nil _ _ _ _ _, (below_set (below_set (below_set (below_set (below_set (by repeat (first | (with_reducible first | exact HB.out | apply below_alloc | apply pw_below_drewN | apply below_drew1) | exact HB.out)) GEH.out) GEH.out) GEH.out) GEH.out) GEH.out)⟩
        · have h5b : decide (496 < fieldN l0 5) = true := decide_eq_true (by omega)
          rw [if_neg h5] at HE
          obtain ⟨rfl, rfl, rfl, rfl, rfl, rfl, rfl⟩ : 0 = r0 ∧ 0 = r1 ∧ 0 = r2 ∧ 0 = r3 ∧ 0 = r4 ∧ [] = r5 ∧ 14 = r6 := by simpa using HE.out
          go_wp2
          (try simp only [Exit.inBlock, Exit.then])
          refine bodyPost_ret (results_ctt rfl _ _ gh 23 _ (0, 0) _ rfl (blk_put (blk_put (blk_put (blk_put (blk_put GH.out 0 _ rfl) 1 _ rfl) 2 _ rfl) 3 _ rfl) 4 _ rfl) Try.underlying23 rfl (by kernel_rfl)) rfl ?_
          exact ⟨_, rfl, Kd.R_nil _ _ _ _ _, (below_set (below_set (below_set (below_set (below_set HB.out GEH.out) GEH.out) GEH.out) GEH.out) GEH.out)⟩
  · rw [if_neg hl] at hE
    simp only [Prod.mk.injEq] at hE
    obtain ⟨rfl, rfl, rfl, rfl, rfl, rfl, rfl⟩ := hE
    have hnb : (((l0.length : Int)) != 512) = true := bne_iff_ne.2 (by omega)
    go_enter Try.func21, Try.ntmps21
    go_wp2
    (try simp only [Exit.inBlock, Exit.then])
    refine bodyPost_ret (results_ctt rfl _ _ w.heap.size 23 _ (0, 0) _ rfl (blk_new w _) Try.underlying23 rfl (by kernel_rfl)) rfl ?_
    exact ⟨_, rfl, Kd.R_nil _ _ _ _ _, (by repeat (first | (with_reducible first | exact HB.out | apply below_alloc | apply pw_below_drewN | apply below_drew1) | exact HB.out))⟩
end Go.Proofs.Ytahnncccdlblgaa.G
