/- What a sector tells of itself, or why it tells nothing: the walk of the statement. Conditions: none. -/
import Derived.Test.YtahnncccdlblgaaSameOpen
import Derived.Test.YtahnncccdlblgaaSectorSeals
import Derived.Test.YtahnncccdlblgaaVals
import Derived.StillTailTactics
import Derived.Below
import Derived.Deep.Draws
import Derived.Deep.AppendLies
import Derived.Maps.AppendAt
import Derived.OwnWalk
import Derived.Laws.BytesArg
import Derived.Laws.MakeOwn
import Derived.Laws.OwnMore
import Derived.Deep.OwnRows
import Derived.Tactics
import Derived.Lib.ConvBytes
import Derived.Laws.Slices
import Derived.WalkKit
import Derived.KernelRfl
import Derived.RowKit3
import Derived.Deep.LoopGhost
import Derived.Deep.QuietTactic
import Derived.BigQuiet
import Derived.WideLaws
import Derived.Deep.DeepCutAuto
import Derived.Deep.CutBlock
import Derived.Deep.RegionHeld3
import Derived.Laws.Rows
import Derived.Lib.AppendStr
import Derived.ArgAppend
import Derived.Laws.IdiomCopy
import Derived.OrdersHeld
import Derived.Laws.BitsLemmas
import Derived.RowKit
namespace Go.Proofs.Ytahnncccdlblgaa.SectorOpens
open Go.Proofs.Ytahnncccdlblgaa.G
open Go.RowKit Go.Proofs.YtahnncccdlblgaaW.PrintWords Go.Proofs.YtahnncccdlblgaaW.PrintLast Go.Proofs.YtahnncccdlblgaaW.PrintMore Go.Proofs.Ytahnncccdlblgaa.Plain
attribute [local go_sem] max2_int min2_int max_two min_two max_three min_three max_four min_four
set_option linter.unusedVariables false
set_option linter.unusedSimpArgs false
/-- The first loop's and the second loop's list: bytes, not too many, one's own. -/
def Own (w wr : World) (v : Value) (ys : List Int) : Prop := Aside0 (Kd.R (Kd.int .u8) 5 wr w.heap.size (fun _ => True) v ys) ∧ Aside0 (bytesB ys = true) ∧ Aside0 (ys.length ≤ 2000) ∧ Aside0 (Below w.heap.size w wr)
def lenOf : Value → Nat
  | .slice _ n _ => n
  | _ => 0

theorem open_cases (l : List Int) : openF l = (0, 0, 0, 0, 0, [], 14) ∨ openF l = (0, 0, 0, 0, 0, [], 3) ∨ ∃ f0 f1 f2 f3 f4 d, openF l = (f0, f1, f2, f3, f4, d, 0) := by
  unfold openF
  split
  · split
    · split
      · exact .inr (.inr ⟨_, _, _, _, _, _, rfl⟩)
      · exact .inl rfl
    · exact .inl rfl
  · exact .inr (.inl rfl)
theorem open_short (l : List Int) : (openF l).2.2.2.2.2.1.length ≤ l.length := by
  unfold openF
  split
  · split
    · split
      · show (dataN l).length ≤ l.length
        unfold dataN
        rw [List.length_drop, List.length_take]; omega
      · simp
    · simp
  · simp

set_option maxHeartbeats 8000000 in
set_option maxRecDepth 100000 in
theorem core (A0 : Option Addr) (c0 : Nat) (l0 : List Int) (A1 : Option Addr) (c1 : Nat) (l1 : List Int) (A2 : Option Addr) (c2 : Nat) (l2 : List Int) (w : World) (hr0 : Kd.C (Kd.int .u8) w A0 l0.length l0) (hc0 : l0.length ≤ c0)
    (hr1 : Kd.C (Kd.int .u16) w A1 l1.length l1) (hc1 : l1.length ≤ c1) (hr2 : Kd.C (Kd.int .u8) w A2 l2.length l2) (hc2 : l2.length ≤ c2) (hb0 : bytesB l0 = true) (hb2 : bytesB l2 = true) (h16 : ∀ x ∈ l1, 0 ≤ x ∧ x ≤ 65535) (hlm : l0.length < 140737488355328) :
    Calls Try.prog 7 #[.slice A0 l0.length c0, .slice A1 l1.length c1, .slice A2 l2.length c2] w fun e w' => e = .returned (.bool true) ∧ Below w.heap.size w w' := by
  have HR0 := Aside0.mk hr0
  have HR1 := Aside0.mk hr1
  have HR2 := Aside0.mk hr2
  have HC0 := Aside0.mk hc0
  have HC1 := Aside0.mk hc1
  have HC2 := Aside0.mk hc2
  have HB0 := Aside0.mk hb0
  have HB2 := Aside0.mk hb2
  have H16 := Aside0.mk h16
  have HLM := Aside0.mk hlm
  have HB := Aside0.mk (Below.refl w.heap.size w)
  have hu23 := Try.underlying23
  clear hr0 hr1 hr2 hc0 hc1 hc2 hb0 hb2 h16 hlm
  by_cases hl : 2000 < (l0.length : Int)
  · have hlb := decide_eq_true hl
    clear hl
    go_enter Try.func7, Try.ntmps7
    go_wp2_with (first | ((with_reducible refine gate_dst (N := 15) rfl ?_); refine Kd.R_lit (Kd.int .u8) _ 5 ?hg (N := 15) ?hd (xs := ([] : List Int)) (inner := []) (ok := fun _ => True) (okp := fun _ => True) ?hr ?hp (fun _ hk => hk) trivial (Below.refl _ _) (Nat.le_refl _) (by simp) ?_; (case hd => rfl); (case hg => rfl); (case hr => first | (go_simp; done) | (go_simp; rfl)); (case hp => exact (Reps.none _ _)); intro v1 w1 ho hb _ _; have HO1 := Aside0.mk (Kd.R_lower ho (below_size (by repeat (first | (with_reducible first | exact HB.out | apply below_alloc | apply pw_below_drewN | apply below_drew1) | exact HB.out)))); have n0_ := Aside0.mk (below_step (by repeat (first | (with_reducible first | exact HB.out | apply below_alloc | apply pw_below_drewN | apply below_drew1) | exact HB.out)) hb); clear HB; have HB := n0_; clear n0_; clear hb ho) | ((with_reducible refine gate_builtin (b := .append) (xs := #[.tmp 15, .tmp 16]) rfl ?_); at_builtin; refine Kd.R_append_rows (Kd.int .u8) (w0 := w) w.heap.size rfl (.tmp 15) (.tmp 16) 24 5 (.int .u8 0) 1 rfl Try.underlying24 infoB rfl (by decide) (by omega) v1 [] l0 _ _ _ (fun _ => True) (fun _ => False) rfl rfl ?aO ?aR (fun _ _ h => h) (fun _ h => h.elim) (fun _ _ => trivial) ?aB ?aS ?aL ?_; (case aR => exact (by repeat (first | exact (Kd.C_below HR0.out HB.out) | (with_reducible refine Kd.C_alloc ?_ _) | (with_reducible refine Kd.C_drewN ?_ _) | (with_reducible refine Kd.C_drew ?_)))); (case aB => exact (by repeat (first | (with_reducible first | exact HB.out | apply below_alloc | apply pw_below_drewN | apply below_drew1) | exact HB.out))); (case aO => exact (by (with_reducible repeat (first | apply Kd.R_alloc | apply Kd.R_drewN | apply Kd.R_drew)); exact HO1.out)); (case aS => exact (below_size (by repeat (first | (with_reducible first | exact HB.out | apply below_alloc | apply pw_below_drewN | apply below_drew1) | exact HB.out)))); (case aL => have := HLM.out; simp; omega); intro v2 w2 ho hb hg hat; rw [List.nil_append] at ho; clear HB HO1; have HB := Aside0.mk hb; have HO2 := Aside0.mk ho; clear ho hb hg hat; obtain ⟨A7, c7, e7⟩ := Kd.R_slice HO2.out; subst e7) | (go_at_call 13; (with_reducible refine (gazetteerlaw09_answers.calls true _ rfl).mono ?_); rintro e w3 ⟨rfl, hb⟩; have n0_ := Aside0.mk (below_step (by repeat (first | (with_reducible first | exact HB.out | apply below_alloc | apply pw_below_drewN | apply below_drew1) | exact HB.out)) hb); clear HB; have HB := n0_; clear n0_; clear hb))
    go_ret
    exact ⟨rfl, (by repeat (first | (with_reducible first | exact HB.out | apply below_alloc | apply pw_below_drewN | apply below_drew1) | exact HB.out))⟩
  · have hlb := decide_eq_false hl
    have HL2 := Aside0.mk (show l0.length ≤ 2000 by omega)
    clear hl
    go_enter Try.func7, Try.ntmps7
    go_upto_block 0 with (first | ((with_reducible refine gate_dst (N := 15) rfl ?_); refine Kd.R_lit (Kd.int .u8) _ 5 ?hg (N := 15) ?hd (xs := ([] : List Int)) (inner := []) (ok := fun _ => True) (okp := fun _ => True) ?hr ?hp (fun _ hk => hk) trivial (Below.refl _ _) (Nat.le_refl _) (by simp) ?_; (case hd => rfl); (case hg => rfl); (case hr => first | (go_simp; done) | (go_simp; rfl)); (case hp => exact (Reps.none _ _)); intro v1 w1 ho hb _ _; have HO1 := Aside0.mk (Kd.R_lower ho (below_size (by repeat (first | (with_reducible first | exact HB.out | apply below_alloc | apply pw_below_drewN | apply below_drew1) | exact HB.out)))); have n0_ := Aside0.mk (below_step (by repeat (first | (with_reducible first | exact HB.out | apply below_alloc | apply pw_below_drewN | apply below_drew1) | exact HB.out)) hb); clear HB; have HB := n0_; clear n0_; clear hb ho) | ((with_reducible refine gate_builtin (b := .append) (xs := #[.tmp 15, .tmp 16]) rfl ?_); at_builtin; refine Kd.R_append_rows (Kd.int .u8) (w0 := w) w.heap.size rfl (.tmp 15) (.tmp 16) 24 5 (.int .u8 0) 1 rfl Try.underlying24 infoB rfl (by decide) (by omega) v1 [] l0 _ _ _ (fun _ => True) (fun _ => False) rfl rfl ?aO ?aR (fun _ _ h => h) (fun _ h => h.elim) (fun _ _ => trivial) ?aB ?aS ?aL ?_; (case aR => exact (by repeat (first | exact (Kd.C_below HR0.out HB.out) | (with_reducible refine Kd.C_alloc ?_ _) | (with_reducible refine Kd.C_drewN ?_ _) | (with_reducible refine Kd.C_drew ?_)))); (case aB => exact (by repeat (first | (with_reducible first | exact HB.out | apply below_alloc | apply pw_below_drewN | apply below_drew1) | exact HB.out))); (case aO => exact (by (with_reducible repeat (first | apply Kd.R_alloc | apply Kd.R_drewN | apply Kd.R_drew)); exact HO1.out)); (case aS => exact (below_size (by repeat (first | (with_reducible first | exact HB.out | apply below_alloc | apply pw_below_drewN | apply below_drew1) | exact HB.out)))); (case aL => have := HLM.out; simp; omega); intro v2 w2 ho hb hg hat; rw [List.nil_append] at ho; clear HB HO1; have HB := Aside0.mk hb; have HO2 := Aside0.mk ho; clear ho hb hg hat; obtain ⟨A7, c7, e7⟩ := Kd.R_slice HO2.out; subst e7) | (go_at_call 13; (with_reducible refine (gazetteerlaw09_answers.calls true _ rfl).mono ?_); rintro e w3 ⟨rfl, hb⟩; have n9_ := Aside0.mk (Kd.R_below HO2.out hb); have n0_ := Aside0.mk (below_step (by repeat (first | (with_reducible first | exact HB.out | apply below_alloc | apply pw_below_drewN | apply below_drew1) | exact HB.out)) hb); clear HB; have HB := n0_; clear n0_; clear hb HO2; have HO2 := n9_; clear n9_))
    go_cut [7] (fun v wc => ∃ (A : Option Addr) (c : Nat) (ys : List Int), v = .slice A ys.length c ∧ Own w wc (.slice A ys.length c) ys)
    case first =>
      go_wp2_with (fail)
      go_loopw [7] (fun v wr => ∃ (A : Option Addr) (c : Nat) (ys : List Int), v = .slice A ys.length c ∧ Own w wr (.slice A ys.length c) ys) (fun v _ => 512 - lenOf v)
      case atStart => exact ⟨A7, c7, l0, rfl, HO2, HB0, HL2, HB⟩
      case round =>
        clear HB HO2
        obtain ⟨A, c, ys, rfl, HO, HYB, HYL, HB⟩ := hrel
        by_cases h1 : 0 < (ys.length : Int)
        · have k1 := decide_eq_true h1
          have k1n := decide_eq_true (show 0 < ys.length by omega)
          have k1e : ¬ (ys = []) := fun e => by rw [e] at h1; simp at h1
          by_cases h2 : (ys.length : Int) < 512
          · have k2 := decide_eq_true h2
            by_cases h3 : (l0.length : Int) % 3 = 0
            · have k3 : ((l0.length : Int) % 3 != 0) = false := bne_eq_false_iff_eq.2 h3
              clear h1 h2 h3
              go_wp2
              go_meet
              case rel => exact ⟨A, c, ys, rfl, HO, HYB, HYL, HB⟩
            · have k3 : ((l0.length : Int) % 3 != 0) = true := bne_iff_ne.2 h3
              have HY5 := Aside0.mk (show ys.length < 512 by omega)
              clear h1 h2 h3
              go_wp2_with ((with_reducible refine gate_builtin (b := .append) (xs := #[.tmp 40, .tmp 41]) rfl ?_); at_builtin; refine Kd.R_append (Kd.int .u8) (w0 := w) w.heap.size rfl (.tmp 40) (.tmp 41) 24 5 (.int .u8 0) 1 rfl Try.underlying24 infoB rfl (by decide) (by omega) (.slice A ys.length c) ys (0 : Int) [.int .u8 0] (fun _ => True) (fun _ => False) rfl rfl ?aP (fun _ hk => hk.elim) ?aF ?aO ?aB ?aS ?aL ?_; (case aP => exact rfl); (case aF => exact (fun _ _ => trivial)); (case aO => exact (by (with_reducible repeat (first | apply Kd.R_alloc | apply Kd.R_drewN | apply Kd.R_drew)); exact HO.out)); (case aB => exact (by repeat (first | (with_reducible first | exact HB.out | apply below_alloc | apply pw_below_drewN | apply below_drew1) | exact HB.out))); (case aS => exact (below_size (by repeat (first | (with_reducible first | exact HB.out | apply below_alloc | apply pw_below_drewN | apply below_drew1) | exact HB.out)))); (case aL => have := HY5.out; omega); intro v4 w4 ho hb hg _; clear HB HO; have HB := Aside0.mk hb; have HO := Aside0.mk ho; clear ho hb hg; obtain ⟨A9, c9, e9⟩ := Kd.R_slice HO.out; subst e9)
              go_roundw
              case rel => exact ⟨A9, c9, ys ++ [0], by rw [List.length_append]; rfl, HO, ⟨bytesB_iff.2 (fun x hx => by rcases List.mem_append.1 hx with h | h; exact bytesB_iff.1 HYB.out x h; rw [List.mem_singleton] at h; omega)⟩, ⟨by have := HY5.out; simp; omega⟩, HB⟩
              case measure => have := HY5.out; simp only [lenOf, List.length_append, List.length_singleton]; omega
          · have k2 := decide_eq_false h2
            clear h1 h2
            go_wp2
            go_meet
            case rel => exact ⟨A, c, ys, rfl, HO, HYB, HYL, HB⟩
        · have k1 := decide_eq_false h1
          have k1e : ys = [] := List.eq_nil_of_length_eq_zero (by omega)
          subst k1e
          clear h1
          go_wp2
          go_meet
          case rel => exact ⟨A, c, [], rfl, HO, HYB, HYL, HB⟩
    case rest =>
      clear HB HO2
      obtain ⟨A, c, ys, rfl, HO, HYB, HYL, HB⟩ := hcut
      go_upto_block 2 with (fail)
      go_cut [7] (fun v wc => ∃ (A : Option Addr) (c : Nat) (ys : List Int), v = .slice A ys.length c ∧ Own w wc (.slice A ys.length c) ys)
      case first =>
        go_wp2_with (fail)
        go_loopw [8] (fun v wr => ∃ (i : Nat) (zs : List Int), v = .int .i64 (i : Int) ∧ i ≤ 20 ∧ zs.length = ys.length ∧ Own w wr (.slice A ys.length c) zs) (fun v _ => 20 - (intOf v).toNat)
        case atStart => exact ⟨0, ys, rfl, by omega, rfl, HO, HYB, HYL, HB⟩
        case round =>
          clear HB HO HYB HYL
          obtain ⟨i, zs, rfl, hi, hzl, HO, HYB, HYL, HB⟩ := hrel
          have HMET := Aside0.mk (show ∃ (A' : Option Addr) (c' : Nat) (ys' : List Int), Value.slice A ys.length c = .slice A' ys'.length c' ∧ Own w wr (.slice A' ys'.length c') ys' from ⟨A, c, zs, by rw [hzl], by rw [hzl]; exact HO, HYB, HYL, HB⟩)
          by_cases h1 : (i : Int) < (l1.length : Int)
          · have k1 := decide_eq_true h1
            have k1n := decide_eq_true (show i < l1.length by omega)
            by_cases h2 : (i : Int) < (l2.length : Int)
            · have k2 := decide_eq_true h2
              have k2n := decide_eq_true (show i < l2.length by omega)
              by_cases h3 : (i : Int) < 20
              · have k3 := decide_eq_true h3
                by_cases h4 : 0 < (ys.length : Int)
                · have k4 := decide_eq_true h4
                  have k4n := decide_eq_true (show 0 < ys.length by omega)
                  have k4e : ¬ (ys = []) := fun e => by rw [e] at h4; simp at h4
                  obtain ⟨ad1, e1, hx1⟩ := Kd.at_int HR1.out (i : Int) (by omega) h1
                  obtain ⟨ad2, e2, hx2⟩ := Kd.at_int HR2.out (i : Int) (by omega) h2
                  cases e1
                  cases e2
                  simp only [Int.toNat_natCast] at hx1 hx2
                  have hxb : 0 ≤ rd l1 (i : Int) ∧ rd l1 (i : Int) ≤ 65535 := by
                    unfold rd
                    rw [Int.toNat_natCast, List.getD_eq_getElem?_getD, List.getElem?_eq_getElem (by omega)]
                    exact H16.out _ (List.getElem_mem _)
                  have hyb : 0 ≤ rd l2 (i : Int) ∧ rd l2 (i : Int) ≤ 255 := by
                    unfold rd
                    rw [Int.toNat_natCast]
                    have := HB2.out
                    rw [bytesB_iff] at this
                    rw [List.getD_eq_getElem?_getD, List.getElem?_eq_getElem (by omega)]
                    exact this _ (List.getElem_mem _)
                  generalize rd l1 (i : Int) = x at *
                  generalize rd l2 (i : Int) = y at *
                  have m0 : 0 ≤ x % (ys.length : Int) := Int.emod_nonneg _ (by omega)
                  have m1 : x % (ys.length : Int) < (ys.length : Int) := Int.emod_lt_of_pos _ h4
                  obtain ⟨q, hq⟩ : ∃ q : Nat, x % (ys.length : Int) = (q : Int) := ⟨(x % (ys.length : Int)).toNat, by omega⟩
                  have hqt : x.tmod (ys.length : Int) = (q : Int) := by rw [Int.tmod_eq_emod_of_nonneg hxb.1]; exact hq
                  have hql : q < ys.length := by omega
                  have hxw : IntKind.i64.wrap x = x := by rw [i64_w, wrap_id (by omega) (by omega)]
                  obtain ⟨g7, cap7, e7, gb7, _, _⟩ := Kd.R_form HO.out (by omega)
                  injection e7 with ea en ec
                  subst ea ec
                  have hce := Kd.R_celln 0 HO.out (q : Int) (by omega) (by omega)
                  have HOd := Aside0.mk (Kd.R_drew HO.out)
                  have HBd := Aside0.mk (below_drew1 HB.out)
                  have HGE := Aside0.mk gb7
                  have hx1d : wr.drew.cell? _ = _ := pw_cell_below HBd.out hx1
                  have HX1 := Aside0.mk hx1
                  have HX2 := Aside0.mk hx2
                  have hx2d : wr.drew.cell? _ = _ := pw_cell_below HBd.out hx2
                  have hc1d : wr.drew.cell? ⟨g7, q, none⟩ = _ := hce.1
                  have hc2d : wr.drew.frozen? ⟨g7, q, none⟩ = false := hce.2
                  have hyBB := Aside0.mk hyb
                  have HQL := Aside0.mk hql
                  have h20 := Aside0.mk h3
                  have k5 := decide_eq_true (show (q : Int) < (ys.length : Int) by omega)
                  have k6 : (((ys.length : Int)) == 0) = false := beq_eq_false_iff_ne.2 (by omega)
                  have k7 : (0 : Int) ≤ (i : Int) := by omega
                  have k8 : (0 : Int) ≤ (q : Int) := by omega
                  have t1 : i < l1.length := by omega
                  have t2 : i < l2.length := by omega
                  have t3 : q < ys.length := hql
                  clear hce hx1 hx2 HMET HO HB hyb m0 m1 gb7 en h1 h2 h3 h4
                  go_wp2
                  refine start_ (n := 15) (S := fun w' => w'.cell? (ad1.add i) = some (.int .u16 x) ∧ w'.cell? (ad2.add i) = some (.int .u8 y)) (ds := []) #[false, false, false, false, false, false, false, false, false, false, false, false, false, false, false] (by kernel_rfl) rfl rfl ⟨hx1d, hx2d⟩ (fun hHeld => ?_)
                  generalize wr.drew = wd at hHeld hc1d hc2d HOd HBd hx1d hx2d ⊢
                  refine pure_ (i := 0) (N := some 64) (v := ?_) (a' := ?_) #[true, false, false, false, false, false, false, false, false, false, false, false, false, false, false] rfl rfl (by kernel_rfl) (fun _ _ _ h => h) (Or.inl ⟨by rfl, ?_⟩) ?_ ?_
                  rotate_left
                  · intro w'
                    go_simp
                    with_reducible rfl
                  rotate_left
                  · simp only [Act.put, List.setIfInBounds_toArray, List.set_cons_zero, List.set_cons_succ, i64_w, i32_w]
                    rfl
                  refine pure_ (i := 1) (N := some 65) (v := ?_) (a' := ?_) #[true, true, false, false, false, false, false, false, false, false, false, false, false, false, false] rfl rfl (by kernel_rfl) (fun _ _ _ h => h) (Or.inl ⟨by rfl, ?_⟩) ?_ ?_
                  rotate_left
                  · intro w'
                    go_simp
                    with_reducible rfl
                  rotate_left
                  · simp only [Act.put, List.setIfInBounds_toArray, List.set_cons_zero, List.set_cons_succ, i64_w, i32_w]
                    rfl
                  refine pure_ (i := 2) (N := some 66) (v := ?_) (a' := ?_) #[true, true, true, false, false, false, false, false, false, false, false, false, false, false, false] rfl rfl (by kernel_rfl) (fun _ _ _ h => h) (Or.inl ⟨by rfl, ?_⟩) ?_ ?_
                  rotate_left
                  · intro w'
                    go_simp
                    with_reducible rfl
                  rotate_left
                  · simp only [Act.put, List.setIfInBounds_toArray, List.set_cons_zero, List.set_cons_succ, i64_w, i32_w]
                    rfl
                  refine pure_ (i := 3) (N := some 67) (v := ?_) (a' := ?_) #[true, true, true, true, false, false, false, false, false, false, false, false, false, false, false] rfl rfl (by kernel_rfl) (fun _ _ _ h => h) (Or.inl ⟨by rfl, ?_⟩) ?_ ?_
                  rotate_left
                  · intro w'
                    go_simp
                    with_reducible rfl
                  rotate_left
                  · simp only [Act.put, List.setIfInBounds_toArray, List.set_cons_zero, List.set_cons_succ, i64_w, i32_w]
                    rfl
                  refine take_ (i := 4) (N := some 68) (v := ?_) (a' := ?_) #[true, true, true, true, true, false, false, false, false, false, false, false, false, false, false] rfl rfl (by kernel_rfl) (fun _ _ _ h => h) (Or.inl ⟨by rfl, ?_⟩) hHeld ?_ ?_
                  rotate_left
                  · rintro w' ⟨s0, s1⟩
                    go_simp
                    with_reducible rfl
                  rotate_left
                  · simp only [Act.put, List.setIfInBounds_toArray, List.set_cons_zero, List.set_cons_succ, i64_w, i32_w]
                    rfl
                  refine pure_ (i := 5) (N := some 69) (v := ?_) (a' := ?_) #[true, true, true, true, true, true, false, false, false, false, false, false, false, false, false] rfl rfl (by kernel_rfl) (fun _ _ _ h => h) (Or.inl ⟨by rfl, ?_⟩) ?_ ?_
                  rotate_left
                  · intro w'
                    go_simp
                    with_reducible rfl
                  rotate_left
                  · simp only [Act.put, List.setIfInBounds_toArray, List.set_cons_zero, List.set_cons_succ, i64_w, i32_w]
                    rfl
                  refine pure_ (i := 6) (N := some 70) (v := ?_) (a' := ?_) #[true, true, true, true, true, true, true, false, false, false, false, false, false, false, false] rfl rfl (by kernel_rfl) (fun _ _ _ h => h) (Or.inl ⟨by rfl, ?_⟩) ?_ ?_
                  rotate_left
                  · intro w'
                    go_simp
                    with_reducible rfl
                  rotate_left
                  · simp only [Act.put, List.setIfInBounds_toArray, List.set_cons_zero, List.set_cons_succ, i64_w, i32_w]
                    rfl
                  refine pure_ (i := 7) (N := some 71) (v := ?_) (a' := ?_) #[true, true, true, true, true, true, true, true, false, false, false, false, false, false, false] rfl rfl (by kernel_rfl) (fun _ _ _ h => h) (Or.inl ⟨by rfl, ?_⟩) ?_ ?_
                  rotate_left
                  · intro w'
                    go_simp
                    with_reducible rfl
                  rotate_left
                  · simp only [Act.put, List.setIfInBounds_toArray, List.set_cons_zero, List.set_cons_succ, i64_w, i32_w]
                    rfl
                  refine pure_ (i := 8) (N := some 72) (v := ?_) (a' := ?_) #[true, true, true, true, true, true, true, true, true, false, false, false, false, false, false] rfl rfl (by kernel_rfl) (fun _ _ _ h => h) (Or.inl ⟨by rfl, ?_⟩) ?_ ?_
                  rotate_left
                  · intro w'
                    go_simp
                    with_reducible rfl
                  rotate_left
                  · simp only [Act.put, List.setIfInBounds_toArray, List.set_cons_zero, List.set_cons_succ, i64_w, i32_w]
                    rfl
                  refine pure_ (i := 9) (N := some 73) (v := ?_) (a' := ?_) #[true, true, true, true, true, true, true, true, true, true, false, false, false, false, false] rfl rfl (by kernel_rfl) (fun _ _ _ h => h) (Or.inl ⟨by rfl, ?_⟩) ?_ ?_
                  rotate_left
                  · intro w'
                    go_simp
                    with_reducible rfl
                  rotate_left
                  · simp only [Act.put, List.setIfInBounds_toArray, List.set_cons_zero, List.set_cons_succ, i64_w, i32_w]
                    rfl
                  refine pure_ (i := 10) (N := some 74) (v := ?_) (a' := ?_) #[true, true, true, true, true, true, true, true, true, true, true, false, false, false, false] rfl rfl (by kernel_rfl) (fun _ _ _ h => h) (Or.inl ⟨by rfl, ?_⟩) ?_ ?_
                  rotate_left
                  · intro w'
                    go_simp
                    with_reducible rfl
                  rotate_left
                  · simp only [Act.put, List.setIfInBounds_toArray, List.set_cons_zero, List.set_cons_succ, i64_w, i32_w]
                    rfl
                  refine pure_ (i := 11) (N := some 75) (v := ?_) (a' := ?_) #[true, true, true, true, true, true, true, true, true, true, true, true, false, false, false] rfl rfl (by kernel_rfl) (fun _ _ _ h => h) (Or.inl ⟨by rfl, ?_⟩) ?_ ?_
                  rotate_left
                  · intro w'
                    go_simp
                    with_reducible rfl
                  rotate_left
                  · simp only [Act.put, List.setIfInBounds_toArray, List.set_cons_zero, List.set_cons_succ, i64_w, i32_w]
                    rfl
                  refine take_ (i := 12) (N := some 76) (v := ?_) (a' := ?_) #[true, true, true, true, true, true, true, true, true, true, true, true, true, false, false] rfl rfl (by kernel_rfl) (fun _ _ _ h => h) (Or.inl ⟨by rfl, ?_⟩) hHeld ?_ ?_
                  rotate_left
                  · rintro w' ⟨s0, s1⟩
                    go_simp
                    with_reducible rfl
                  rotate_left
                  · simp only [Act.put, List.setIfInBounds_toArray, List.set_cons_zero, List.set_cons_succ, i64_w, i32_w]
                    rfl
                  refine pure_ (i := 13) (N := some 77) (v := ?_) (a' := ?_) #[true, true, true, true, true, true, true, true, true, true, true, true, true, true, false] rfl rfl (by kernel_rfl) (fun _ _ _ h => h) (Or.inl ⟨by rfl, ?_⟩) ?_ ?_
                  rotate_left
                  · intro w'
                    go_simp
                    with_reducible rfl
                  rotate_left
                  · simp only [Act.put, List.setIfInBounds_toArray, List.set_cons_zero, List.set_cons_succ, i64_w, i32_w]
                    rfl
                  refine one_ (i := 14) (N := none) #[true, true, true, true, true, true, true, true, true, true, true, true, true, true, true] rfl rfl (by kernel_rfl) (by decide) (fun K hK => ?_)
                  refine store_step (w1 := wd.setCell ⟨g7, q, none⟩ (.int .u8 y)) (by rfl) rfl rfl ?hr ?_
                  (case hr => first | (go_simp; done) | (go_simp; rfl))
                  have n0_ := Aside0.mk (show Kd.R (Kd.int .u8) 5 (wd.setCell ⟨g7, q, none⟩ (.int .u8 y)) w.heap.size (fun _ => True) (.slice (some ⟨g7, 0, none⟩) ys.length c) (zs.set q y) from Kd.R_putn HOd.out (q : Int) y)
                  have n1_ := Aside0.mk (show Below w.heap.size w (wd.setCell ⟨g7, q, none⟩ (.int .u8 y)) from below_set HBd.out HGE.out)
                  generalize wd.setCell ⟨g7, q, none⟩ (.int .u8 y) = ws at n0_ n1_ ⊢
                  refine hK.out _ _ ⟨pw_cell_below n1_.out HX1.out, pw_cell_below n1_.out HX2.out⟩ (fun hHeld => ?_)
                  clear hK K
                  refine done_ (by kernel_rfl) ?_
                  go_wp2
                  go_roundw
                  case rel => exact ⟨i + 1, zs.set q y, by go_num, by have := h20.out; omega, by rw [List.length_set]; exact hzl, n0_, ⟨bytesB_iff.2 (fun z hz => by rcases List.mem_or_eq_of_mem_set hz with h | h; exact bytesB_iff.1 HYB.out z h; rw [h]; exact hyBB.out)⟩, ⟨by rw [List.length_set]; exact HYL.out⟩, n1_⟩
                  case measure => have := h20.out; simp [intOf]; omega
                · have k4 := decide_eq_false h4
                  have k4e : ys = [] := List.eq_nil_of_length_eq_zero (by omega)
                  subst k4e
                  clear h1 h2 h3 h4
                  go_wp2
                  go_meet
                  case rel => exact HMET.out
              · have k3 := decide_eq_false h3
                clear h1 h2 h3
                go_wp2
                go_meet
                case rel => exact HMET.out
            · have k2 := decide_eq_false h2
              have k2n := decide_eq_false (show ¬ i < l2.length by omega)
              clear h1 h2
              go_wp2
              go_meet
              case rel => exact HMET.out
          · have k1 := decide_eq_false h1
            have k1n := decide_eq_false (show ¬ i < l1.length by omega)
            clear h1
            go_wp2
            go_meet
            case rel => exact HMET.out
      case rest =>
        clear HB HO HYB HYL
        obtain ⟨A, c, ys, rfl, HO, HYB, HYL, HB⟩ := hcut
        have hropen := same_open ys HYB.out
        have hsh := open_short ys
        rcases open_cases ys with hO | hO | ⟨f0, f1, f2, f3, f4, d, hO⟩
        · have HOP := Aside0.mk (show sector_Open.f ys = some (0, 0, 0, 0, 0, [], 14) by unfold sector_Open.f; rw [if_pos HYB.out, hO])
          have HRP := Aside0.mk (show gazetteerref08_Open.f ys = some (0, 0, 0, 0, 0, [], 14) by unfold gazetteerref08_Open.f; rw [if_pos HYB.out, hropen, hO])
          clear hropen hsh hO
          go_upto_region 12 with (first | ((with_reducible refine gate_dst (N := 79) rfl ?_); refine Kd.R_lit (Kd.int .u8) _ 5 ?hg (N := 79) ?hd (xs := ([] : List Int)) (inner := []) (ok := fun _ => True) (okp := fun _ => True) ?hr ?hp (fun _ hk => hk) trivial (Below.refl _ _) (Nat.le_refl _) (by simp) ?_; (case hd => rfl); (case hg => rfl); (case hr => first | (go_simp; done) | (go_simp; rfl)); (case hp => exact (Reps.none _ _)); intro v79 w79 ho hb _ _; have n1_ := Aside0.mk (Kd.R_lower ho (below_size (by repeat (first | (with_reducible first | exact HB.out | apply below_alloc | apply pw_below_drewN | apply below_drew1) | exact HB.out)))); have n2_ := Aside0.mk (Kd.R_elder' HO.out (Kd.R_base ho) hb); have n0_ := Aside0.mk (below_step (by repeat (first | (with_reducible first | exact HB.out | apply below_alloc | apply pw_below_drewN | apply below_drew1) | exact HB.out)) hb); clear HB; have HB := n0_; clear n0_; clear hb ho HO; have HO1 := n1_; have HO := n2_; clear n1_ n2_) | ((with_reducible refine gate_builtin (b := .append) (xs := #[.tmp 79, .tmp 80]) rfl ?_); at_builtin; refine Kd.R_append_rows (Kd.int .u8) (w0 := w) w.heap.size rfl (.tmp 79) (.tmp 80) 24 5 (.int .u8 0) 1 rfl Try.underlying24 infoB rfl (by decide) (by omega) v79 [] ys _ _ _ (fun _ => True) (fun _ => False) rfl rfl ?aO ?aR (fun _ _ h => h) (fun _ h => h.elim) (fun _ _ => trivial) ?aB ?aS ?aL ?_; (case aR => exact (by repeat (first | exact (Kd.R_reads' HO.out).2.2 | (with_reducible refine Kd.C_alloc ?_ _) | (with_reducible refine Kd.C_drewN ?_ _) | (with_reducible refine Kd.C_drew ?_)))); (case aB => exact (by repeat (first | (with_reducible first | exact HB.out | apply below_alloc | apply pw_below_drewN | apply below_drew1) | exact HB.out))); (case aO => exact (by (with_reducible repeat (first | apply Kd.R_alloc | apply Kd.R_drewN | apply Kd.R_drew)); exact HO1.out)); (case aS => exact (below_size (by repeat (first | (with_reducible first | exact HB.out | apply below_alloc | apply pw_below_drewN | apply below_drew1) | exact HB.out)))); (case aL => have := HYL.out; simp; omega); intro v81 w81 ho hb hg hat; rw [List.nil_append] at ho; have n1_ := Aside0.mk (Kd.R_grown HO.out hg (fun k hk => hk.2)); clear HB HO1 HO; have HB := Aside0.mk hb; have HO := n1_; have HX := Aside0.mk ho; clear ho hb hg hat n1_; obtain ⟨A81, c81, e81⟩ := Kd.R_slice HX.out; subst e81) | (go_at_call 21; (with_reducible refine (sector_Open.calls A81 c81 ys _ _ _ _ _ _ _ _ ?s1 ?s2 HOP.out).mono ?_); (case s1 => exact (by repeat (first | exact (Kd.R_reads' HX.out).2.2 | (with_reducible refine Kd.C_alloc ?_ _) | (with_reducible refine Kd.C_drewN ?_ _) | (with_reducible refine Kd.C_drew ?_)))); (case s2 => exact (Kd.R_reads' HX.out).2.1); rintro e w82 ⟨v83, rfl, ho, hb⟩; have n1_ := Aside0.mk (Kd.R_lower ho (below_size (by repeat (first | (with_reducible first | exact HB.out | apply below_alloc | apply pw_below_drewN | apply below_drew1) | exact HB.out)))); have n2_ := Aside0.mk (Kd.R_below HO.out hb); have n0_ := Aside0.mk (below_step (by repeat (first | (with_reducible first | exact HB.out | apply below_alloc | apply pw_below_drewN | apply below_drew1) | exact HB.out)) hb); clear HB; have HB := n0_; clear n0_; clear hb ho HO HX; have HD := n1_; have HO := n2_; clear n1_ n2_; obtain ⟨A83, c83, e83⟩ := Kd.R_slice HD.out; subst e83) | ((with_reducible refine gate_dst (N := 9) rfl ?_); refine box_event ?hg (N := 9) ?hd (cs := #[.int .i64 0, .int .i64 0, .int .i64 0, .int .i64 0, .int .i64 0]) (t := 23) ?hr ?_; (case hd => rfl); (case hg => rfl); (case hr => first | (go_simp; done) | (go_simp; rfl)); intro g9 hg w9 hbk hb; have n1_ := Aside0.mk (show w.heap.size ≤ g9 from by rw [hg]; exact (below_size (by repeat (first | (with_reducible first | exact HB.out | apply below_alloc | apply pw_below_drewN | apply below_drew1) | exact HB.out)))); have n2_ := Aside0.mk (Kd.R_below HO.out hb); have n3_ := Aside0.mk (Kd.R_below HD.out hb); have n0_ := Aside0.mk (below_step (by repeat (first | (with_reducible first | exact HB.out | apply below_alloc | apply pw_below_drewN | apply below_drew1) | exact HB.out)) hb); clear HB; have HB := n0_; clear n0_; clear HO HD; have GE9 := n1_; have HO := n2_; have HD := n3_; have G9 := Aside0.mk hbk; clear n1_ n2_ n3_ hb hbk hg; have q0 := (blk_cell G9.out 0).trans (show _ = some (Value.int .i64 0) from rfl); have r0 := blk_frozen G9.out 0; have q1 := (blk_cell G9.out 1).trans (show _ = some (Value.int .i64 0) from rfl); have r1 := blk_frozen G9.out 1; have q2 := (blk_cell G9.out 2).trans (show _ = some (Value.int .i64 0) from rfl); have r2 := blk_frozen G9.out 2; have q3 := (blk_cell G9.out 3).trans (show _ = some (Value.int .i64 0) from rfl); have r3 := blk_frozen G9.out 3; have q4 := (blk_cell G9.out 4).trans (show _ = some (Value.int .i64 0) from rfl); have r4 := blk_frozen G9.out 4) | (go_at_call 22; (with_reducible refine (gazetteerref08_Open.calls _ _ ys _ _ _ _ _ _ _ _ ?s1 ?s2 HRP.out).mono ?_); (case s1 => exact (Kd.R_reads' (Kd.R_set (Kd.R_set (Kd.R_set (Kd.R_set (Kd.R_set HO.out G9.out (by decide) 0 (.int .i64 0)) (blk_put G9.out 0 (.int .i64 0) rfl) (by decide) 1 (.int .i64 0)) (blk_put (blk_put G9.out 0 (.int .i64 0) rfl) 1 (.int .i64 0) rfl) (by decide) 2 (.int .i64 0)) (blk_put (blk_put (blk_put G9.out 0 (.int .i64 0) rfl) 1 (.int .i64 0) rfl) 2 (.int .i64 0) rfl) (by decide) 3 (.int .i64 0)) (blk_put (blk_put (blk_put (blk_put G9.out 0 (.int .i64 0) rfl) 1 (.int .i64 0) rfl) 2 (.int .i64 0) rfl) 3 (.int .i64 0) rfl) (by decide) 4 (.int .i64 0))).2.2); (case s2 => exact (Kd.R_reads' HO.out).2.1); rintro e w88 ⟨v90, rfl, ho, hb⟩; have n1_ := Aside0.mk (Kd.R_lower ho (below_size (below_set (below_set (below_set (below_set (below_set HB.out GE9.out) GE9.out) GE9.out) GE9.out) GE9.out))); have n2_ := Aside0.mk (show w88.heap[g9]? = some (.cells #[.int .i64 0, .int .i64 0, .int .i64 0, .int .i64 0, .int .i64 0] 23 (0, 0)) from blk_below (blk_put (blk_put (blk_put (blk_put (blk_put G9.out 0 _ rfl) 1 _ rfl) 2 _ rfl) 3 _ rfl) 4 _ rfl) hb); have n3_ := Aside0.mk (Kd.R_below (Kd.R_set (Kd.R_set (Kd.R_set (Kd.R_set (Kd.R_set HD.out G9.out (by decide) 0 (.int .i64 0)) (blk_put G9.out 0 (.int .i64 0) rfl) (by decide) 1 (.int .i64 0)) (blk_put (blk_put G9.out 0 (.int .i64 0) rfl) 1 (.int .i64 0) rfl) (by decide) 2 (.int .i64 0)) (blk_put (blk_put (blk_put G9.out 0 (.int .i64 0) rfl) 1 (.int .i64 0) rfl) 2 (.int .i64 0) rfl) (by decide) 3 (.int .i64 0)) (blk_put (blk_put (blk_put (blk_put G9.out 0 (.int .i64 0) rfl) 1 (.int .i64 0) rfl) 2 (.int .i64 0) rfl) 3 (.int .i64 0) rfl) (by decide) 4 (.int .i64 0)) hb); have n4_ := Aside0.mk (below_step (below_set (below_set (below_set (below_set (below_set HB.out GE9.out) GE9.out) GE9.out) GE9.out) GE9.out) hb); clear HB hb ho G9 HD HO q0 q1 q2 q3 q4 r0 r1 r2 r3 r4; have HD2 := n1_; have G9 := n2_; have HD := n3_; have HB := n4_; clear n1_ n2_ n3_ n4_; obtain ⟨A90, c90, e90⟩ := Kd.R_slice HD2.out; subst e90) | ((with_reducible refine gate_dst (N := 12) rfl ?_); refine box_event ?hg (N := 12) ?hd (cs := #[.int .i64 0, .int .i64 0, .int .i64 0, .int .i64 0, .int .i64 0]) (t := 43) ?hr ?_; (case hd => rfl); (case hg => rfl); (case hr => first | (go_simp; done) | (go_simp; rfl)); intro g12 hg w12 hbk hb; have n1_ := Aside0.mk (show w.heap.size ≤ g12 from by rw [hg]; exact (below_size (by repeat (first | (with_reducible first | exact HB.out | apply below_alloc | apply pw_below_drewN | apply below_drew1) | exact HB.out)))); have n2_ := Aside0.mk (Kd.R_below HD2.out hb); have n3_ := Aside0.mk (Kd.R_below HD.out hb); have n4_ := Aside0.mk (blk_below G9.out hb); have n5_ := Aside0.mk (show g9 ≠ g12 from by have := blk_lt G9.out; omega); have n0_ := Aside0.mk (below_step (by repeat (first | (with_reducible first | exact HB.out | apply below_alloc | apply pw_below_drewN | apply below_drew1) | exact HB.out)) hb); clear HB; have HB := n0_; clear n0_; clear HD2 HD G9; have GE12 := n1_; have HD2 := n2_; have HD := n3_; have G9 := n4_; have HNE := n5_; have G12 := Aside0.mk hbk; clear n1_ n2_ n3_ n4_ n5_ hb hbk hg; have q0 := (blk_cell G12.out 0).trans (show _ = some (Value.int .i64 0) from rfl); have r0 := blk_frozen G12.out 0; have q1 := (blk_cell G12.out 1).trans (show _ = some (Value.int .i64 0) from rfl); have r1 := blk_frozen G12.out 1; have q2 := (blk_cell G12.out 2).trans (show _ = some (Value.int .i64 0) from rfl); have r2 := blk_frozen G12.out 2; have q3 := (blk_cell G12.out 3).trans (show _ = some (Value.int .i64 0) from rfl); have r3 := blk_frozen G12.out 3; have q4 := (blk_cell G12.out 4).trans (show _ = some (Value.int .i64 0) from rfl); have r4 := blk_frozen G12.out 4))
          have n1_ := Aside0.mk (show (((((w12.setCell ⟨g12, 0, none⟩ (.int .i64 0)).setCell ⟨g12, 1, none⟩ (.int .i64 0)).setCell ⟨g12, 2, none⟩ (.int .i64 0)).setCell ⟨g12, 3, none⟩ (.int .i64 0)).setCell ⟨g12, 4, none⟩ (.int .i64 0)).heap[g9]? = some (.cells #[.int .i64 0, .int .i64 0, .int .i64 0, .int .i64 0, .int .i64 0] 23 (0, 0)) from ((Go.Deep.blk_setCell_other _ _ _ _ HNE.out).trans ((Go.Deep.blk_setCell_other _ _ _ _ HNE.out).trans ((Go.Deep.blk_setCell_other _ _ _ _ HNE.out).trans ((Go.Deep.blk_setCell_other _ _ _ _ HNE.out).trans ((Go.Deep.blk_setCell_other _ _ _ _ HNE.out).trans G9.out))))))
          have n2_ := Aside0.mk (show (((((w12.setCell ⟨g12, 0, none⟩ (.int .i64 0)).setCell ⟨g12, 1, none⟩ (.int .i64 0)).setCell ⟨g12, 2, none⟩ (.int .i64 0)).setCell ⟨g12, 3, none⟩ (.int .i64 0)).setCell ⟨g12, 4, none⟩ (.int .i64 0)).heap[g12]? = some (.cells #[.int .i64 0, .int .i64 0, .int .i64 0, .int .i64 0, .int .i64 0] 43 (0, 0)) from (blk_put (blk_put (blk_put (blk_put (blk_put G12.out 0 _ rfl) 1 _ rfl) 2 _ rfl) 3 _ rfl) 4 _ rfl))
          have n3_ := Aside0.mk (Kd.R_set (Kd.R_set (Kd.R_set (Kd.R_set (Kd.R_set HD.out G12.out (by decide) 0 (.int .i64 0)) (blk_put G12.out 0 (.int .i64 0) rfl) (by decide) 1 (.int .i64 0)) (blk_put (blk_put G12.out 0 (.int .i64 0) rfl) 1 (.int .i64 0) rfl) (by decide) 2 (.int .i64 0)) (blk_put (blk_put (blk_put G12.out 0 (.int .i64 0) rfl) 1 (.int .i64 0) rfl) 2 (.int .i64 0) rfl) (by decide) 3 (.int .i64 0)) (blk_put (blk_put (blk_put (blk_put G12.out 0 (.int .i64 0) rfl) 1 (.int .i64 0) rfl) 2 (.int .i64 0) rfl) 3 (.int .i64 0) rfl) (by decide) 4 (.int .i64 0))
          have n4_ := Aside0.mk (Kd.R_set (Kd.R_set (Kd.R_set (Kd.R_set (Kd.R_set HD2.out G12.out (by decide) 0 (.int .i64 0)) (blk_put G12.out 0 (.int .i64 0) rfl) (by decide) 1 (.int .i64 0)) (blk_put (blk_put G12.out 0 (.int .i64 0) rfl) 1 (.int .i64 0) rfl) (by decide) 2 (.int .i64 0)) (blk_put (blk_put (blk_put G12.out 0 (.int .i64 0) rfl) 1 (.int .i64 0) rfl) 2 (.int .i64 0) rfl) (by decide) 3 (.int .i64 0)) (blk_put (blk_put (blk_put (blk_put G12.out 0 (.int .i64 0) rfl) 1 (.int .i64 0) rfl) 2 (.int .i64 0) rfl) 3 (.int .i64 0) rfl) (by decide) 4 (.int .i64 0))
          have n5_ := Aside0.mk (show Below w.heap.size w (((((w12.setCell ⟨g12, 0, none⟩ (.int .i64 0)).setCell ⟨g12, 1, none⟩ (.int .i64 0)).setCell ⟨g12, 2, none⟩ (.int .i64 0)).setCell ⟨g12, 3, none⟩ (.int .i64 0)).setCell ⟨g12, 4, none⟩ (.int .i64 0)) from (below_set (below_set (below_set (below_set (below_set HB.out GE12.out) GE12.out) GE12.out) GE12.out) GE12.out))
          generalize (((((w12.setCell ⟨g12, 0, none⟩ (.int .i64 0)).setCell ⟨g12, 1, none⟩ (.int .i64 0)).setCell ⟨g12, 2, none⟩ (.int .i64 0)).setCell ⟨g12, 3, none⟩ (.int .i64 0)).setCell ⟨g12, 4, none⟩ (.int .i64 0)) = wz at n1_ n2_ n3_ n4_ n5_ ⊢
          clear HB HD HD2 G9 G12 q0 q1 q2 q3 q4 r0 r1 r2 r3 r4
          have G9 := n1_
          have G12 := n2_
          have HD := n3_
          have HD2 := n4_
          have HB := n5_
          clear n1_ n2_ n3_ n4_ n5_
          have a0 := (blk_cell G9.out 0).trans (show _ = some (Value.int .i64 0) from rfl)
          have b0 := (blk_cell G12.out 0).trans (show _ = some (Value.int .i64 0) from rfl)
          have a1 := (blk_cell G9.out 1).trans (show _ = some (Value.int .i64 0) from rfl)
          have b1 := (blk_cell G12.out 1).trans (show _ = some (Value.int .i64 0) from rfl)
          have a2 := (blk_cell G9.out 2).trans (show _ = some (Value.int .i64 0) from rfl)
          have b2 := (blk_cell G12.out 2).trans (show _ = some (Value.int .i64 0) from rfl)
          have a3 := (blk_cell G9.out 3).trans (show _ = some (Value.int .i64 0) from rfl)
          have b3 := (blk_cell G12.out 3).trans (show _ = some (Value.int .i64 0) from rfl)
          have a4 := (blk_cell G9.out 4).trans (show _ = some (Value.int .i64 0) from rfl)
          have b4 := (blk_cell G12.out 4).trans (show _ = some (Value.int .i64 0) from rfl)
          go_wp2_with (fail)
          go_ret
          exact ⟨by simp, (by repeat (first | (with_reducible first | exact HB.out | apply below_alloc | apply pw_below_drewN | apply below_drew1) | exact HB.out))⟩
        · have HOP := Aside0.mk (show sector_Open.f ys = some (0, 0, 0, 0, 0, [], 3) by unfold sector_Open.f; rw [if_pos HYB.out, hO])
          have HRP := Aside0.mk (show gazetteerref08_Open.f ys = some (0, 0, 0, 0, 0, [], 3) by unfold gazetteerref08_Open.f; rw [if_pos HYB.out, hropen, hO])
          clear hropen hsh hO
          go_upto_region 12 with (first | ((with_reducible refine gate_dst (N := 79) rfl ?_); refine Kd.R_lit (Kd.int .u8) _ 5 ?hg (N := 79) ?hd (xs := ([] : List Int)) (inner := []) (ok := fun _ => True) (okp := fun _ => True) ?hr ?hp (fun _ hk => hk) trivial (Below.refl _ _) (Nat.le_refl _) (by simp) ?_; (case hd => rfl); (case hg => rfl); (case hr => first | (go_simp; done) | (go_simp; rfl)); (case hp => exact (Reps.none _ _)); intro v79 w79 ho hb _ _; have n1_ := Aside0.mk (Kd.R_lower ho (below_size (by repeat (first | (with_reducible first | exact HB.out | apply below_alloc | apply pw_below_drewN | apply below_drew1) | exact HB.out)))); have n2_ := Aside0.mk (Kd.R_elder' HO.out (Kd.R_base ho) hb); have n0_ := Aside0.mk (below_step (by repeat (first | (with_reducible first | exact HB.out | apply below_alloc | apply pw_below_drewN | apply below_drew1) | exact HB.out)) hb); clear HB; have HB := n0_; clear n0_; clear hb ho HO; have HO1 := n1_; have HO := n2_; clear n1_ n2_) | ((with_reducible refine gate_builtin (b := .append) (xs := #[.tmp 79, .tmp 80]) rfl ?_); at_builtin; refine Kd.R_append_rows (Kd.int .u8) (w0 := w) w.heap.size rfl (.tmp 79) (.tmp 80) 24 5 (.int .u8 0) 1 rfl Try.underlying24 infoB rfl (by decide) (by omega) v79 [] ys _ _ _ (fun _ => True) (fun _ => False) rfl rfl ?aO ?aR (fun _ _ h => h) (fun _ h => h.elim) (fun _ _ => trivial) ?aB ?aS ?aL ?_; (case aR => exact (by repeat (first | exact (Kd.R_reads' HO.out).2.2 | (with_reducible refine Kd.C_alloc ?_ _) | (with_reducible refine Kd.C_drewN ?_ _) | (with_reducible refine Kd.C_drew ?_)))); (case aB => exact (by repeat (first | (with_reducible first | exact HB.out | apply below_alloc | apply pw_below_drewN | apply below_drew1) | exact HB.out))); (case aO => exact (by (with_reducible repeat (first | apply Kd.R_alloc | apply Kd.R_drewN | apply Kd.R_drew)); exact HO1.out)); (case aS => exact (below_size (by repeat (first | (with_reducible first | exact HB.out | apply below_alloc | apply pw_below_drewN | apply below_drew1) | exact HB.out)))); (case aL => have := HYL.out; simp; omega); intro v81 w81 ho hb hg hat; rw [List.nil_append] at ho; have n1_ := Aside0.mk (Kd.R_grown HO.out hg (fun k hk => hk.2)); clear HB HO1 HO; have HB := Aside0.mk hb; have HO := n1_; have HX := Aside0.mk ho; clear ho hb hg hat n1_; obtain ⟨A81, c81, e81⟩ := Kd.R_slice HX.out; subst e81) | (go_at_call 21; (with_reducible refine (sector_Open.calls A81 c81 ys _ _ _ _ _ _ _ _ ?s1 ?s2 HOP.out).mono ?_); (case s1 => exact (by repeat (first | exact (Kd.R_reads' HX.out).2.2 | (with_reducible refine Kd.C_alloc ?_ _) | (with_reducible refine Kd.C_drewN ?_ _) | (with_reducible refine Kd.C_drew ?_)))); (case s2 => exact (Kd.R_reads' HX.out).2.1); rintro e w82 ⟨v83, rfl, ho, hb⟩; have n1_ := Aside0.mk (Kd.R_lower ho (below_size (by repeat (first | (with_reducible first | exact HB.out | apply below_alloc | apply pw_below_drewN | apply below_drew1) | exact HB.out)))); have n2_ := Aside0.mk (Kd.R_below HO.out hb); have n0_ := Aside0.mk (below_step (by repeat (first | (with_reducible first | exact HB.out | apply below_alloc | apply pw_below_drewN | apply below_drew1) | exact HB.out)) hb); clear HB; have HB := n0_; clear n0_; clear hb ho HO HX; have HD := n1_; have HO := n2_; clear n1_ n2_; obtain ⟨A83, c83, e83⟩ := Kd.R_slice HD.out; subst e83) | ((with_reducible refine gate_dst (N := 9) rfl ?_); refine box_event ?hg (N := 9) ?hd (cs := #[.int .i64 0, .int .i64 0, .int .i64 0, .int .i64 0, .int .i64 0]) (t := 23) ?hr ?_; (case hd => rfl); (case hg => rfl); (case hr => first | (go_simp; done) | (go_simp; rfl)); intro g9 hg w9 hbk hb; have n1_ := Aside0.mk (show w.heap.size ≤ g9 from by rw [hg]; exact (below_size (by repeat (first | (with_reducible first | exact HB.out | apply below_alloc | apply pw_below_drewN | apply below_drew1) | exact HB.out)))); have n2_ := Aside0.mk (Kd.R_below HO.out hb); have n3_ := Aside0.mk (Kd.R_below HD.out hb); have n0_ := Aside0.mk (below_step (by repeat (first | (with_reducible first | exact HB.out | apply below_alloc | apply pw_below_drewN | apply below_drew1) | exact HB.out)) hb); clear HB; have HB := n0_; clear n0_; clear HO HD; have GE9 := n1_; have HO := n2_; have HD := n3_; have G9 := Aside0.mk hbk; clear n1_ n2_ n3_ hb hbk hg; have q0 := (blk_cell G9.out 0).trans (show _ = some (Value.int .i64 0) from rfl); have r0 := blk_frozen G9.out 0; have q1 := (blk_cell G9.out 1).trans (show _ = some (Value.int .i64 0) from rfl); have r1 := blk_frozen G9.out 1; have q2 := (blk_cell G9.out 2).trans (show _ = some (Value.int .i64 0) from rfl); have r2 := blk_frozen G9.out 2; have q3 := (blk_cell G9.out 3).trans (show _ = some (Value.int .i64 0) from rfl); have r3 := blk_frozen G9.out 3; have q4 := (blk_cell G9.out 4).trans (show _ = some (Value.int .i64 0) from rfl); have r4 := blk_frozen G9.out 4) | (go_at_call 22; (with_reducible refine (gazetteerref08_Open.calls _ _ ys _ _ _ _ _ _ _ _ ?s1 ?s2 HRP.out).mono ?_); (case s1 => exact (Kd.R_reads' (Kd.R_set (Kd.R_set (Kd.R_set (Kd.R_set (Kd.R_set HO.out G9.out (by decide) 0 (.int .i64 0)) (blk_put G9.out 0 (.int .i64 0) rfl) (by decide) 1 (.int .i64 0)) (blk_put (blk_put G9.out 0 (.int .i64 0) rfl) 1 (.int .i64 0) rfl) (by decide) 2 (.int .i64 0)) (blk_put (blk_put (blk_put G9.out 0 (.int .i64 0) rfl) 1 (.int .i64 0) rfl) 2 (.int .i64 0) rfl) (by decide) 3 (.int .i64 0)) (blk_put (blk_put (blk_put (blk_put G9.out 0 (.int .i64 0) rfl) 1 (.int .i64 0) rfl) 2 (.int .i64 0) rfl) 3 (.int .i64 0) rfl) (by decide) 4 (.int .i64 0))).2.2); (case s2 => exact (Kd.R_reads' HO.out).2.1); rintro e w88 ⟨v90, rfl, ho, hb⟩; have n1_ := Aside0.mk (Kd.R_lower ho (below_size (below_set (below_set (below_set (below_set (below_set HB.out GE9.out) GE9.out) GE9.out) GE9.out) GE9.out))); have n2_ := Aside0.mk (show w88.heap[g9]? = some (.cells #[.int .i64 0, .int .i64 0, .int .i64 0, .int .i64 0, .int .i64 0] 23 (0, 0)) from blk_below (blk_put (blk_put (blk_put (blk_put (blk_put G9.out 0 _ rfl) 1 _ rfl) 2 _ rfl) 3 _ rfl) 4 _ rfl) hb); have n3_ := Aside0.mk (Kd.R_below (Kd.R_set (Kd.R_set (Kd.R_set (Kd.R_set (Kd.R_set HD.out G9.out (by decide) 0 (.int .i64 0)) (blk_put G9.out 0 (.int .i64 0) rfl) (by decide) 1 (.int .i64 0)) (blk_put (blk_put G9.out 0 (.int .i64 0) rfl) 1 (.int .i64 0) rfl) (by decide) 2 (.int .i64 0)) (blk_put (blk_put (blk_put G9.out 0 (.int .i64 0) rfl) 1 (.int .i64 0) rfl) 2 (.int .i64 0) rfl) (by decide) 3 (.int .i64 0)) (blk_put (blk_put (blk_put (blk_put G9.out 0 (.int .i64 0) rfl) 1 (.int .i64 0) rfl) 2 (.int .i64 0) rfl) 3 (.int .i64 0) rfl) (by decide) 4 (.int .i64 0)) hb); have n4_ := Aside0.mk (below_step (below_set (below_set (below_set (below_set (below_set HB.out GE9.out) GE9.out) GE9.out) GE9.out) GE9.out) hb); clear HB hb ho G9 HD HO q0 q1 q2 q3 q4 r0 r1 r2 r3 r4; have HD2 := n1_; have G9 := n2_; have HD := n3_; have HB := n4_; clear n1_ n2_ n3_ n4_; obtain ⟨A90, c90, e90⟩ := Kd.R_slice HD2.out; subst e90) | ((with_reducible refine gate_dst (N := 12) rfl ?_); refine box_event ?hg (N := 12) ?hd (cs := #[.int .i64 0, .int .i64 0, .int .i64 0, .int .i64 0, .int .i64 0]) (t := 43) ?hr ?_; (case hd => rfl); (case hg => rfl); (case hr => first | (go_simp; done) | (go_simp; rfl)); intro g12 hg w12 hbk hb; have n1_ := Aside0.mk (show w.heap.size ≤ g12 from by rw [hg]; exact (below_size (by repeat (first | (with_reducible first | exact HB.out | apply below_alloc | apply pw_below_drewN | apply below_drew1) | exact HB.out)))); have n2_ := Aside0.mk (Kd.R_below HD2.out hb); have n3_ := Aside0.mk (Kd.R_below HD.out hb); have n4_ := Aside0.mk (blk_below G9.out hb); have n5_ := Aside0.mk (show g9 ≠ g12 from by have := blk_lt G9.out; omega); have n0_ := Aside0.mk (below_step (by repeat (first | (with_reducible first | exact HB.out | apply below_alloc | apply pw_below_drewN | apply below_drew1) | exact HB.out)) hb); clear HB; have HB := n0_; clear n0_; clear HD2 HD G9; have GE12 := n1_; have HD2 := n2_; have HD := n3_; have G9 := n4_; have HNE := n5_; have G12 := Aside0.mk hbk; clear n1_ n2_ n3_ n4_ n5_ hb hbk hg; have q0 := (blk_cell G12.out 0).trans (show _ = some (Value.int .i64 0) from rfl); have r0 := blk_frozen G12.out 0; have q1 := (blk_cell G12.out 1).trans (show _ = some (Value.int .i64 0) from rfl); have r1 := blk_frozen G12.out 1; have q2 := (blk_cell G12.out 2).trans (show _ = some (Value.int .i64 0) from rfl); have r2 := blk_frozen G12.out 2; have q3 := (blk_cell G12.out 3).trans (show _ = some (Value.int .i64 0) from rfl); have r3 := blk_frozen G12.out 3; have q4 := (blk_cell G12.out 4).trans (show _ = some (Value.int .i64 0) from rfl); have r4 := blk_frozen G12.out 4))
          have n1_ := Aside0.mk (show (((((w12.setCell ⟨g12, 0, none⟩ (.int .i64 0)).setCell ⟨g12, 1, none⟩ (.int .i64 0)).setCell ⟨g12, 2, none⟩ (.int .i64 0)).setCell ⟨g12, 3, none⟩ (.int .i64 0)).setCell ⟨g12, 4, none⟩ (.int .i64 0)).heap[g9]? = some (.cells #[.int .i64 0, .int .i64 0, .int .i64 0, .int .i64 0, .int .i64 0] 23 (0, 0)) from ((Go.Deep.blk_setCell_other _ _ _ _ HNE.out).trans ((Go.Deep.blk_setCell_other _ _ _ _ HNE.out).trans ((Go.Deep.blk_setCell_other _ _ _ _ HNE.out).trans ((Go.Deep.blk_setCell_other _ _ _ _ HNE.out).trans ((Go.Deep.blk_setCell_other _ _ _ _ HNE.out).trans G9.out))))))
          have n2_ := Aside0.mk (show (((((w12.setCell ⟨g12, 0, none⟩ (.int .i64 0)).setCell ⟨g12, 1, none⟩ (.int .i64 0)).setCell ⟨g12, 2, none⟩ (.int .i64 0)).setCell ⟨g12, 3, none⟩ (.int .i64 0)).setCell ⟨g12, 4, none⟩ (.int .i64 0)).heap[g12]? = some (.cells #[.int .i64 0, .int .i64 0, .int .i64 0, .int .i64 0, .int .i64 0] 43 (0, 0)) from (blk_put (blk_put (blk_put (blk_put (blk_put G12.out 0 _ rfl) 1 _ rfl) 2 _ rfl) 3 _ rfl) 4 _ rfl))
          have n3_ := Aside0.mk (Kd.R_set (Kd.R_set (Kd.R_set (Kd.R_set (Kd.R_set HD.out G12.out (by decide) 0 (.int .i64 0)) (blk_put G12.out 0 (.int .i64 0) rfl) (by decide) 1 (.int .i64 0)) (blk_put (blk_put G12.out 0 (.int .i64 0) rfl) 1 (.int .i64 0) rfl) (by decide) 2 (.int .i64 0)) (blk_put (blk_put (blk_put G12.out 0 (.int .i64 0) rfl) 1 (.int .i64 0) rfl) 2 (.int .i64 0) rfl) (by decide) 3 (.int .i64 0)) (blk_put (blk_put (blk_put (blk_put G12.out 0 (.int .i64 0) rfl) 1 (.int .i64 0) rfl) 2 (.int .i64 0) rfl) 3 (.int .i64 0) rfl) (by decide) 4 (.int .i64 0))
          have n4_ := Aside0.mk (Kd.R_set (Kd.R_set (Kd.R_set (Kd.R_set (Kd.R_set HD2.out G12.out (by decide) 0 (.int .i64 0)) (blk_put G12.out 0 (.int .i64 0) rfl) (by decide) 1 (.int .i64 0)) (blk_put (blk_put G12.out 0 (.int .i64 0) rfl) 1 (.int .i64 0) rfl) (by decide) 2 (.int .i64 0)) (blk_put (blk_put (blk_put G12.out 0 (.int .i64 0) rfl) 1 (.int .i64 0) rfl) 2 (.int .i64 0) rfl) (by decide) 3 (.int .i64 0)) (blk_put (blk_put (blk_put (blk_put G12.out 0 (.int .i64 0) rfl) 1 (.int .i64 0) rfl) 2 (.int .i64 0) rfl) 3 (.int .i64 0) rfl) (by decide) 4 (.int .i64 0))
          have n5_ := Aside0.mk (show Below w.heap.size w (((((w12.setCell ⟨g12, 0, none⟩ (.int .i64 0)).setCell ⟨g12, 1, none⟩ (.int .i64 0)).setCell ⟨g12, 2, none⟩ (.int .i64 0)).setCell ⟨g12, 3, none⟩ (.int .i64 0)).setCell ⟨g12, 4, none⟩ (.int .i64 0)) from (below_set (below_set (below_set (below_set (below_set HB.out GE12.out) GE12.out) GE12.out) GE12.out) GE12.out))
          generalize (((((w12.setCell ⟨g12, 0, none⟩ (.int .i64 0)).setCell ⟨g12, 1, none⟩ (.int .i64 0)).setCell ⟨g12, 2, none⟩ (.int .i64 0)).setCell ⟨g12, 3, none⟩ (.int .i64 0)).setCell ⟨g12, 4, none⟩ (.int .i64 0)) = wz at n1_ n2_ n3_ n4_ n5_ ⊢
          clear HB HD HD2 G9 G12 q0 q1 q2 q3 q4 r0 r1 r2 r3 r4
          have G9 := n1_
          have G12 := n2_
          have HD := n3_
          have HD2 := n4_
          have HB := n5_
          clear n1_ n2_ n3_ n4_ n5_
          have a0 := (blk_cell G9.out 0).trans (show _ = some (Value.int .i64 0) from rfl)
          have b0 := (blk_cell G12.out 0).trans (show _ = some (Value.int .i64 0) from rfl)
          have a1 := (blk_cell G9.out 1).trans (show _ = some (Value.int .i64 0) from rfl)
          have b1 := (blk_cell G12.out 1).trans (show _ = some (Value.int .i64 0) from rfl)
          have a2 := (blk_cell G9.out 2).trans (show _ = some (Value.int .i64 0) from rfl)
          have b2 := (blk_cell G12.out 2).trans (show _ = some (Value.int .i64 0) from rfl)
          have a3 := (blk_cell G9.out 3).trans (show _ = some (Value.int .i64 0) from rfl)
          have b3 := (blk_cell G12.out 3).trans (show _ = some (Value.int .i64 0) from rfl)
          have a4 := (blk_cell G9.out 4).trans (show _ = some (Value.int .i64 0) from rfl)
          have b4 := (blk_cell G12.out 4).trans (show _ = some (Value.int .i64 0) from rfl)
          go_wp2_with (fail)
          go_ret
          exact ⟨by simp, (by repeat (first | (with_reducible first | exact HB.out | apply below_alloc | apply pw_below_drewN | apply below_drew1) | exact HB.out))⟩
        · have HOP := Aside0.mk (show sector_Open.f ys = some (f0, f1, f2, f3, f4, d, 0) by unfold sector_Open.f; rw [if_pos HYB.out, hO])
          have HRP := Aside0.mk (show gazetteerref08_Open.f ys = some (f0, f1, f2, f3, f4, d, 0) by unfold gazetteerref08_Open.f; rw [if_pos HYB.out, hropen, hO])
          have HSAME := Aside0.mk (show gazetteerref01_Same.f d d = some true by unfold gazetteerref01_Same.f; simp)
          clear hropen hsh hO
          go_upto_region 12 with (first | ((with_reducible refine gate_dst (N := 79) rfl ?_); refine Kd.R_lit (Kd.int .u8) _ 5 ?hg (N := 79) ?hd (xs := ([] : List Int)) (inner := []) (ok := fun _ => True) (okp := fun _ => True) ?hr ?hp (fun _ hk => hk) trivial (Below.refl _ _) (Nat.le_refl _) (by simp) ?_; (case hd => rfl); (case hg => rfl); (case hr => first | (go_simp; done) | (go_simp; rfl)); (case hp => exact (Reps.none _ _)); intro v79 w79 ho hb _ _; have n1_ := Aside0.mk (Kd.R_lower ho (below_size (by repeat (first | (with_reducible first | exact HB.out | apply below_alloc | apply pw_below_drewN | apply below_drew1) | exact HB.out)))); have n2_ := Aside0.mk (Kd.R_elder' HO.out (Kd.R_base ho) hb); have n0_ := Aside0.mk (below_step (by repeat (first | (with_reducible first | exact HB.out | apply below_alloc | apply pw_below_drewN | apply below_drew1) | exact HB.out)) hb); clear HB; have HB := n0_; clear n0_; clear hb ho HO; have HO1 := n1_; have HO := n2_; clear n1_ n2_) | ((with_reducible refine gate_builtin (b := .append) (xs := #[.tmp 79, .tmp 80]) rfl ?_); at_builtin; refine Kd.R_append_rows (Kd.int .u8) (w0 := w) w.heap.size rfl (.tmp 79) (.tmp 80) 24 5 (.int .u8 0) 1 rfl Try.underlying24 infoB rfl (by decide) (by omega) v79 [] ys _ _ _ (fun _ => True) (fun _ => False) rfl rfl ?aO ?aR (fun _ _ h => h) (fun _ h => h.elim) (fun _ _ => trivial) ?aB ?aS ?aL ?_; (case aR => exact (by repeat (first | exact (Kd.R_reads' HO.out).2.2 | (with_reducible refine Kd.C_alloc ?_ _) | (with_reducible refine Kd.C_drewN ?_ _) | (with_reducible refine Kd.C_drew ?_)))); (case aB => exact (by repeat (first | (with_reducible first | exact HB.out | apply below_alloc | apply pw_below_drewN | apply below_drew1) | exact HB.out))); (case aO => exact (by (with_reducible repeat (first | apply Kd.R_alloc | apply Kd.R_drewN | apply Kd.R_drew)); exact HO1.out)); (case aS => exact (below_size (by repeat (first | (with_reducible first | exact HB.out | apply below_alloc | apply pw_below_drewN | apply below_drew1) | exact HB.out)))); (case aL => have := HYL.out; simp; omega); intro v81 w81 ho hb hg hat; rw [List.nil_append] at ho; have n1_ := Aside0.mk (Kd.R_grown HO.out hg (fun k hk => hk.2)); clear HB HO1 HO; have HB := Aside0.mk hb; have HO := n1_; have HX := Aside0.mk ho; clear ho hb hg hat n1_; obtain ⟨A81, c81, e81⟩ := Kd.R_slice HX.out; subst e81) | (go_at_call 21; (with_reducible refine (sector_Open.calls A81 c81 ys _ _ _ _ _ _ _ _ ?s1 ?s2 HOP.out).mono ?_); (case s1 => exact (by repeat (first | exact (Kd.R_reads' HX.out).2.2 | (with_reducible refine Kd.C_alloc ?_ _) | (with_reducible refine Kd.C_drewN ?_ _) | (with_reducible refine Kd.C_drew ?_)))); (case s2 => exact (Kd.R_reads' HX.out).2.1); rintro e w82 ⟨v83, rfl, ho, hb⟩; have n1_ := Aside0.mk (Kd.R_lower ho (below_size (by repeat (first | (with_reducible first | exact HB.out | apply below_alloc | apply pw_below_drewN | apply below_drew1) | exact HB.out)))); have n2_ := Aside0.mk (Kd.R_below HO.out hb); have n0_ := Aside0.mk (below_step (by repeat (first | (with_reducible first | exact HB.out | apply below_alloc | apply pw_below_drewN | apply below_drew1) | exact HB.out)) hb); clear HB; have HB := n0_; clear n0_; clear hb ho HO HX; have HD := n1_; have HO := n2_; clear n1_ n2_; obtain ⟨A83, c83, e83⟩ := Kd.R_slice HD.out; subst e83) | ((with_reducible refine gate_dst (N := 9) rfl ?_); refine box_event ?hg (N := 9) ?hd (cs := #[.int .i64 0, .int .i64 0, .int .i64 0, .int .i64 0, .int .i64 0]) (t := 23) ?hr ?_; (case hd => rfl); (case hg => rfl); (case hr => first | (go_simp; done) | (go_simp; rfl)); intro g9 hg w9 hbk hb; have n1_ := Aside0.mk (show w.heap.size ≤ g9 from by rw [hg]; exact (below_size (by repeat (first | (with_reducible first | exact HB.out | apply below_alloc | apply pw_below_drewN | apply below_drew1) | exact HB.out)))); have n2_ := Aside0.mk (Kd.R_below HO.out hb); have n3_ := Aside0.mk (Kd.R_below HD.out hb); have n0_ := Aside0.mk (below_step (by repeat (first | (with_reducible first | exact HB.out | apply below_alloc | apply pw_below_drewN | apply below_drew1) | exact HB.out)) hb); clear HB; have HB := n0_; clear n0_; clear HO HD; have GE9 := n1_; have HO := n2_; have HD := n3_; have G9 := Aside0.mk hbk; clear n1_ n2_ n3_ hb hbk hg; have q0 := (blk_cell G9.out 0).trans (show _ = some (Value.int .i64 0) from rfl); have r0 := blk_frozen G9.out 0; have q1 := (blk_cell G9.out 1).trans (show _ = some (Value.int .i64 0) from rfl); have r1 := blk_frozen G9.out 1; have q2 := (blk_cell G9.out 2).trans (show _ = some (Value.int .i64 0) from rfl); have r2 := blk_frozen G9.out 2; have q3 := (blk_cell G9.out 3).trans (show _ = some (Value.int .i64 0) from rfl); have r3 := blk_frozen G9.out 3; have q4 := (blk_cell G9.out 4).trans (show _ = some (Value.int .i64 0) from rfl); have r4 := blk_frozen G9.out 4) | (go_at_call 22; (with_reducible refine (gazetteerref08_Open.calls _ _ ys _ _ _ _ _ _ _ _ ?s1 ?s2 HRP.out).mono ?_); (case s1 => exact (Kd.R_reads' (Kd.R_set (Kd.R_set (Kd.R_set (Kd.R_set (Kd.R_set HO.out G9.out (by decide) 0 (.int .i64 f0)) (blk_put G9.out 0 (.int .i64 f0) rfl) (by decide) 1 (.int .i64 f1)) (blk_put (blk_put G9.out 0 (.int .i64 f0) rfl) 1 (.int .i64 f1) rfl) (by decide) 2 (.int .i64 f2)) (blk_put (blk_put (blk_put G9.out 0 (.int .i64 f0) rfl) 1 (.int .i64 f1) rfl) 2 (.int .i64 f2) rfl) (by decide) 3 (.int .i64 f3)) (blk_put (blk_put (blk_put (blk_put G9.out 0 (.int .i64 f0) rfl) 1 (.int .i64 f1) rfl) 2 (.int .i64 f2) rfl) 3 (.int .i64 f3) rfl) (by decide) 4 (.int .i64 f4))).2.2); (case s2 => exact (Kd.R_reads' HO.out).2.1); rintro e w88 ⟨v90, rfl, ho, hb⟩; have n1_ := Aside0.mk (Kd.R_lower ho (below_size (below_set (below_set (below_set (below_set (below_set HB.out GE9.out) GE9.out) GE9.out) GE9.out) GE9.out))); have n2_ := Aside0.mk (show w88.heap[g9]? = some (.cells #[.int .i64 f0, .int .i64 f1, .int .i64 f2, .int .i64 f3, .int .i64 f4] 23 (0, 0)) from blk_below (blk_put (blk_put (blk_put (blk_put (blk_put G9.out 0 _ rfl) 1 _ rfl) 2 _ rfl) 3 _ rfl) 4 _ rfl) hb); have n3_ := Aside0.mk (Kd.R_below (Kd.R_set (Kd.R_set (Kd.R_set (Kd.R_set (Kd.R_set HD.out G9.out (by decide) 0 (.int .i64 f0)) (blk_put G9.out 0 (.int .i64 f0) rfl) (by decide) 1 (.int .i64 f1)) (blk_put (blk_put G9.out 0 (.int .i64 f0) rfl) 1 (.int .i64 f1) rfl) (by decide) 2 (.int .i64 f2)) (blk_put (blk_put (blk_put G9.out 0 (.int .i64 f0) rfl) 1 (.int .i64 f1) rfl) 2 (.int .i64 f2) rfl) (by decide) 3 (.int .i64 f3)) (blk_put (blk_put (blk_put (blk_put G9.out 0 (.int .i64 f0) rfl) 1 (.int .i64 f1) rfl) 2 (.int .i64 f2) rfl) 3 (.int .i64 f3) rfl) (by decide) 4 (.int .i64 f4)) hb); have n4_ := Aside0.mk (below_step (below_set (below_set (below_set (below_set (below_set HB.out GE9.out) GE9.out) GE9.out) GE9.out) GE9.out) hb); clear HB hb ho G9 HD HO q0 q1 q2 q3 q4 r0 r1 r2 r3 r4; have HD2 := n1_; have G9 := n2_; have HD := n3_; have HB := n4_; clear n1_ n2_ n3_ n4_; obtain ⟨A90, c90, e90⟩ := Kd.R_slice HD2.out; subst e90) | ((with_reducible refine gate_dst (N := 12) rfl ?_); refine box_event ?hg (N := 12) ?hd (cs := #[.int .i64 0, .int .i64 0, .int .i64 0, .int .i64 0, .int .i64 0]) (t := 43) ?hr ?_; (case hd => rfl); (case hg => rfl); (case hr => first | (go_simp; done) | (go_simp; rfl)); intro g12 hg w12 hbk hb; have n1_ := Aside0.mk (show w.heap.size ≤ g12 from by rw [hg]; exact (below_size (by repeat (first | (with_reducible first | exact HB.out | apply below_alloc | apply pw_below_drewN | apply below_drew1) | exact HB.out)))); have n2_ := Aside0.mk (Kd.R_below HD2.out hb); have n3_ := Aside0.mk (Kd.R_below HD.out hb); have n4_ := Aside0.mk (blk_below G9.out hb); have n5_ := Aside0.mk (show g9 ≠ g12 from by have := blk_lt G9.out; omega); have n0_ := Aside0.mk (below_step (by repeat (first | (with_reducible first | exact HB.out | apply below_alloc | apply pw_below_drewN | apply below_drew1) | exact HB.out)) hb); clear HB; have HB := n0_; clear n0_; clear HD2 HD G9; have GE12 := n1_; have HD2 := n2_; have HD := n3_; have G9 := n4_; have HNE := n5_; have G12 := Aside0.mk hbk; clear n1_ n2_ n3_ n4_ n5_ hb hbk hg; have q0 := (blk_cell G12.out 0).trans (show _ = some (Value.int .i64 0) from rfl); have r0 := blk_frozen G12.out 0; have q1 := (blk_cell G12.out 1).trans (show _ = some (Value.int .i64 0) from rfl); have r1 := blk_frozen G12.out 1; have q2 := (blk_cell G12.out 2).trans (show _ = some (Value.int .i64 0) from rfl); have r2 := blk_frozen G12.out 2; have q3 := (blk_cell G12.out 3).trans (show _ = some (Value.int .i64 0) from rfl); have r3 := blk_frozen G12.out 3; have q4 := (blk_cell G12.out 4).trans (show _ = some (Value.int .i64 0) from rfl); have r4 := blk_frozen G12.out 4))
          have n1_ := Aside0.mk (show (((((w12.setCell ⟨g12, 0, none⟩ (.int .i64 f0)).setCell ⟨g12, 1, none⟩ (.int .i64 f1)).setCell ⟨g12, 2, none⟩ (.int .i64 f2)).setCell ⟨g12, 3, none⟩ (.int .i64 f3)).setCell ⟨g12, 4, none⟩ (.int .i64 f4)).heap[g9]? = some (.cells #[.int .i64 f0, .int .i64 f1, .int .i64 f2, .int .i64 f3, .int .i64 f4] 23 (0, 0)) from ((Go.Deep.blk_setCell_other _ _ _ _ HNE.out).trans ((Go.Deep.blk_setCell_other _ _ _ _ HNE.out).trans ((Go.Deep.blk_setCell_other _ _ _ _ HNE.out).trans ((Go.Deep.blk_setCell_other _ _ _ _ HNE.out).trans ((Go.Deep.blk_setCell_other _ _ _ _ HNE.out).trans G9.out))))))
          have n2_ := Aside0.mk (show (((((w12.setCell ⟨g12, 0, none⟩ (.int .i64 f0)).setCell ⟨g12, 1, none⟩ (.int .i64 f1)).setCell ⟨g12, 2, none⟩ (.int .i64 f2)).setCell ⟨g12, 3, none⟩ (.int .i64 f3)).setCell ⟨g12, 4, none⟩ (.int .i64 f4)).heap[g12]? = some (.cells #[.int .i64 f0, .int .i64 f1, .int .i64 f2, .int .i64 f3, .int .i64 f4] 43 (0, 0)) from (blk_put (blk_put (blk_put (blk_put (blk_put G12.out 0 _ rfl) 1 _ rfl) 2 _ rfl) 3 _ rfl) 4 _ rfl))
          have n3_ := Aside0.mk (Kd.R_set (Kd.R_set (Kd.R_set (Kd.R_set (Kd.R_set HD.out G12.out (by decide) 0 (.int .i64 f0)) (blk_put G12.out 0 (.int .i64 f0) rfl) (by decide) 1 (.int .i64 f1)) (blk_put (blk_put G12.out 0 (.int .i64 f0) rfl) 1 (.int .i64 f1) rfl) (by decide) 2 (.int .i64 f2)) (blk_put (blk_put (blk_put G12.out 0 (.int .i64 f0) rfl) 1 (.int .i64 f1) rfl) 2 (.int .i64 f2) rfl) (by decide) 3 (.int .i64 f3)) (blk_put (blk_put (blk_put (blk_put G12.out 0 (.int .i64 f0) rfl) 1 (.int .i64 f1) rfl) 2 (.int .i64 f2) rfl) 3 (.int .i64 f3) rfl) (by decide) 4 (.int .i64 f4))
          have n4_ := Aside0.mk (Kd.R_set (Kd.R_set (Kd.R_set (Kd.R_set (Kd.R_set HD2.out G12.out (by decide) 0 (.int .i64 f0)) (blk_put G12.out 0 (.int .i64 f0) rfl) (by decide) 1 (.int .i64 f1)) (blk_put (blk_put G12.out 0 (.int .i64 f0) rfl) 1 (.int .i64 f1) rfl) (by decide) 2 (.int .i64 f2)) (blk_put (blk_put (blk_put G12.out 0 (.int .i64 f0) rfl) 1 (.int .i64 f1) rfl) 2 (.int .i64 f2) rfl) (by decide) 3 (.int .i64 f3)) (blk_put (blk_put (blk_put (blk_put G12.out 0 (.int .i64 f0) rfl) 1 (.int .i64 f1) rfl) 2 (.int .i64 f2) rfl) 3 (.int .i64 f3) rfl) (by decide) 4 (.int .i64 f4))
          have n5_ := Aside0.mk (show Below w.heap.size w (((((w12.setCell ⟨g12, 0, none⟩ (.int .i64 f0)).setCell ⟨g12, 1, none⟩ (.int .i64 f1)).setCell ⟨g12, 2, none⟩ (.int .i64 f2)).setCell ⟨g12, 3, none⟩ (.int .i64 f3)).setCell ⟨g12, 4, none⟩ (.int .i64 f4)) from (below_set (below_set (below_set (below_set (below_set HB.out GE12.out) GE12.out) GE12.out) GE12.out) GE12.out))
          generalize (((((w12.setCell ⟨g12, 0, none⟩ (.int .i64 f0)).setCell ⟨g12, 1, none⟩ (.int .i64 f1)).setCell ⟨g12, 2, none⟩ (.int .i64 f2)).setCell ⟨g12, 3, none⟩ (.int .i64 f3)).setCell ⟨g12, 4, none⟩ (.int .i64 f4)) = wz at n1_ n2_ n3_ n4_ n5_ ⊢
          clear HB HD HD2 G9 G12 q0 q1 q2 q3 q4 r0 r1 r2 r3 r4
          have G9 := n1_
          have G12 := n2_
          have HD := n3_
          have HD2 := n4_
          have HB := n5_
          clear n1_ n2_ n3_ n4_ n5_
          have a0 := (blk_cell G9.out 0).trans (show _ = some (Value.int .i64 f0) from rfl)
          have b0 := (blk_cell G12.out 0).trans (show _ = some (Value.int .i64 f0) from rfl)
          have a1 := (blk_cell G9.out 1).trans (show _ = some (Value.int .i64 f1) from rfl)
          have b1 := (blk_cell G12.out 1).trans (show _ = some (Value.int .i64 f1) from rfl)
          have a2 := (blk_cell G9.out 2).trans (show _ = some (Value.int .i64 f2) from rfl)
          have b2 := (blk_cell G12.out 2).trans (show _ = some (Value.int .i64 f2) from rfl)
          have a3 := (blk_cell G9.out 3).trans (show _ = some (Value.int .i64 f3) from rfl)
          have b3 := (blk_cell G12.out 3).trans (show _ = some (Value.int .i64 f3) from rfl)
          have a4 := (blk_cell G9.out 4).trans (show _ = some (Value.int .i64 f4) from rfl)
          have b4 := (blk_cell G12.out 4).trans (show _ = some (Value.int .i64 f4) from rfl)
          go_wp2_with (go_at_call 16; (with_reducible refine (gazetteerref01_Same.calls _ _ d _ _ d _ _ ?s1 ?s2 ?s3 ?s4 HSAME.out).mono ?_); (case s1 => exact (by repeat (first | exact (Kd.R_reads' HD.out).2.2 | (with_reducible refine Kd.C_alloc ?_ _) | (with_reducible refine Kd.C_drewN ?_ _) | (with_reducible refine Kd.C_drew ?_)))); (case s2 => exact (Kd.R_reads' HD.out).2.1); (case s3 => exact (by repeat (first | exact (Kd.R_reads' HD2.out).2.2 | (with_reducible refine Kd.C_alloc ?_ _) | (with_reducible refine Kd.C_drewN ?_ _) | (with_reducible refine Kd.C_drew ?_)))); (case s4 => exact (Kd.R_reads' HD2.out).2.1); rintro e w' ⟨rfl, ⟨nd, rfl⟩⟩)
          go_ret
          exact ⟨by simp, (by repeat (first | (with_reducible first | exact HB.out | apply below_alloc | apply pw_below_drewN | apply below_drew1) | exact HB.out))⟩

theorem opens_u16 {H : Type} {enc : TypeId × Value → H} {w : World} {base : Nat} {spare : Nat → Bool} {held : Bool} : Open.Opens enc Try.prog w base spare held 40 (Kd.slice 32 (Kd.int .u16)) (fun xs => xs.length * 2 ≤ 140737488351232 ∧ ∀ x ∈ xs, (Lit.int .u16 x).wf = true) :=
  Open.opens_slice Try.underlying40 (by kernel_rfl) (by kernel_rfl) (Open.opens_int Try.underlying32)
theorem wfu8 {n : Int} (h : (Lit.int .u8 n).wf = true) : 0 ≤ n ∧ n ≤ 255 := by
  simp [Lit.wf, IntKind.min, IntKind.max, IntKind.signed, IntKind.bits] at h; omega
theorem wfu16 {n : Int} (h : (Lit.int .u16 n).wf = true) : 0 ≤ n ∧ n ≤ 65535 := by
  simp [Lit.wf, IntKind.min, IntKind.max, IntKind.signed, IntKind.bits] at h; omega
theorem walk (w : World) (A0 : Option Addr) (c0 : Nat) (l0 : List Int) (hC0 : Kd.C (Kd.int .u8) w A0 l0.length l0) (hc0 : l0.length ≤ c0) (o0 : l0.length * 1 ≤ 140737488351232 ∧ ∀ x ∈ l0, (Lit.int .u8 x).wf = true)
    (A1 : Option Addr) (c1 : Nat) (l1 : List Int) (hC1 : Kd.C (Kd.int .u16) w A1 l1.length l1) (hc1 : l1.length ≤ c1) (o1 : l1.length * 2 ≤ 140737488351232 ∧ ∀ x ∈ l1, (Lit.int .u16 x).wf = true)
    (A2 : Option Addr) (c2 : Nat) (l2 : List Int) (hC2 : Kd.C (Kd.int .u8) w A2 l2.length l2) (hc2 : l2.length ≤ c2) (o2 : l2.length * 1 ≤ 140737488351232 ∧ ∀ x ∈ l2, (Lit.int .u8 x).wf = true) :
    Calls Try.prog 7 #[.slice A0 l0.length c0, .slice A1 l1.length c1, .slice A2 l2.length c2] w fun e w' => e = .returned (.bool true) ∧ Below w.heap.size w w' :=
  core A0 c0 l0 A1 c1 l1 A2 c2 l2 w hC0 hc0 hC1 hc1 hC2 hc2 (bytesB_iff.2 fun x hx => wfu8 (o0.2 x hx)) (bytesB_iff.2 fun x hx => wfu8 (o2.2 x hx)) (fun x hx => wfu16 (o1.2 x hx)) (by omega)
end Go.Proofs.Ytahnncccdlblgaa.SectorOpens
