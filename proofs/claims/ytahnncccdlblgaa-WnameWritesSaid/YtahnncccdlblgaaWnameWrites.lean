/- Which bytes names, numbers and others are, one behind the other: the walk. Conditions: none. -/
import Derived.Test.YtahnncccdlblgaaV2
import Derived.Below
import Derived.Deep.Draws
import Derived.Deep.AppendLies
import Derived.Maps.AppendAt
import Derived.OwnWalk
import Derived.Laws.BytesArg
import Derived.Laws.MakeOwn
import Derived.Laws.OwnMore
import Derived.Deep.OwnRows
import Derived.Tactics
import Derived.Lib.ConvBytes
import Derived.Laws.Slices
import Derived.WalkKit
import Derived.KernelRfl
import Derived.RowKit3
import Derived.Deep.LoopGhost
import Derived.Deep.QuietTactic
import Derived.BigQuiet
import Derived.WideLaws
import Derived.Deep.DeepCutAuto
import Derived.Deep.CutBlock
import Derived.Deep.RegionHeld3
import Derived.Laws.Rows
import Derived.Lib.AppendStr
import Derived.ArgAppend
import Derived.Laws.IdiomCopy
import Derived.OrdersHeld
import Derived.Laws.BitsLemmas
import Derived.RowKit
namespace Go.Proofs.Ytahnncccdlblgaa.WnameWrites
open Go.Proofs.Ytahnncccdlblgaa.G
open Go.RowKit Go.Proofs.YtahnncccdlblgaaW.PrintWords Go.Proofs.YtahnncccdlblgaaW.PrintLast Go.Proofs.YtahnncccdlblgaaW.PrintMore Go.Proofs.Ytahnncccdlblgaa.Plain
attribute [local go_sem] max2_int min2_int max_two min_two max_three min_three max_four min_four
set_option linter.unusedVariables false
set_option linter.unusedSimpArgs false
theorem wf64 {n : Int} (h : (Lit.int .i64 n).wf = true) : -9223372036854775808 ≤ n ∧ n ≤ 9223372036854775807 := by
  simp [Lit.wf, IntKind.min, IntKind.max, IntKind.signed, IntKind.bits] at h; omega
theorem light_iff {name : List ByteArray} {raw : List Int} (h : lightB name raw = true) : name.length ≤ 200 ∧ raw.length ≤ 20000 := by
  unfold lightB at h
  rw [Bool.and_eq_true, Bool.and_eq_true, decide_eq_true_iff, decide_eq_true_iff] at h
  exact h.1
theorem nameR_len (short : Bool) (l : List ByteArray) : ∀ (ys : List Int) (m : PMap), (nameR short l ys m).1.length ≤ ys.length + (restL l).length + 2 := by
  induction l with
  | nil => intro ys m; simp [nameR]; omega
  | cons s l ih =>
    intro ys m
    rw [restL_cons, List.length_append, lab_length]
    have h1 := ih (ys ++ lab s) m
    have h2 := ih (ys ++ lab s) (if ys.length < 16384 then updM m (s :: l) ys.length else m)
    rw [List.length_append, lab_length] at h1 h2
    cases hmo : m (s :: l) with
    | some p =>
      cases short with
      | true => simp only [nameR, hmo, if_true, List.length_append, be_length]; omega
      | false => simp only [nameR, hmo, Bool.false_eq_true, if_false]; omega
    | none => simp only [nameR, hmo]; omega
theorem wn_Len_quiet {w : World} {base g : Nat} {F : Nat → Prop} {ys : List Int} {m : PMap} (h : WN w base F g ys m) (n : Nat) :
    Calls Try.prog 32 #[.pointer (some ⟨g, 0, none⟩)] (w.drewN n) fun e w'' => e = .returned (.int .i64 ys.length) ∧ ∃ k, w'' = w.drewN k :=
  Calls.quiet_of_same ((wn_Len base g F ys m (w.drewN n) (h.drewN n)).mono (fun e w' ⟨h1, h2⟩ => ⟨h1, h2.symm⟩))
set_option maxRecDepth 100000 in
set_option maxHeartbeats 4000000 in
theorem walk (w : World) (A0 : Option Addr) (c0 : Nat) (list : List Pc) (hC : Kd.C kPc w A0 list.length list) (hc : list.length ≤ c0) (hok : list.length * 80 ≤ 140737488351232 ∧ ∀ x ∈ list, okPc x) :
    Calls Try.prog 9 #[.slice A0 list.length c0] w fun e w' => e = .returned (.bool true) ∧ Below w.heap.size w w' := by
  have HC := Aside0.mk hC
  have HOK := Aside0.mk hok.2
  have hlm : list.length ≤ 140737488351232 := by omega
  clear hC hc hok
  go_enter Try.func9, Try.ntmps9
  go_upto_region 2 with ((go_at_call 23; (with_reducible refine (wname_New_WN w).mono ?_); rintro e w1 ⟨rfl, hb, F, hw, hF⟩; have HB1 := Aside0.mk hb; have HW1 := Aside0.mk hw; clear hw hF hb))
  go_cut [4] (fun v wc => ∃ (g2 : Nat) (F G : Nat → Prop), v = .pointer (some ⟨g2, 0, none⟩) ∧ Aside0 (V1 w (w.heap.size + 1) g2 [] (fun _ => none) [] (fun _ => none) F G wc))
  case first =>
    go_wp2
    go_meet
    case rel => exact ⟨_, F, _, rfl, ⟨new_rw w HB1.out HW1.out⟩⟩
  case rest =>
    clear HB1 HW1
    obtain ⟨g2, F, G, rfl, HV⟩ := hcut
    go_wp2_with (first | (go_at_call 17; (with_reducible refine (HWnameLoops.gazetteerlaw03_answers.calls 4 true _ Pure.answers4).mono ?_); rintro e w2 ⟨rfl, hb⟩; have n0_ := Aside0.mk (V1.below (by first | (with_reducible exact HV.out) | ((with_reducible repeat (first | apply V1.alloc | apply V1.drewN | apply V1.drew)); exact HV.out)) hb); clear HV hb; have HV := n0_; clear n0_))
    go_loopw [5] (fun v wr => ∃ (j : Nat) (ys : List Int) (m : PMap) (F G : Nat → Prop), v = .int .i64 (j : Int) ∧ j ≤ list.length ∧ j ≤ 60 ∧ Aside0 (V1 w (w.heap.size + 1) g2 ys m ys m F G wr) ∧ Aside0 (ys.length ≤ 90000)) (fun v _ => 60 - (intOf v).toNat)
    case atStart => exact ⟨0, [], _, F, G, rfl, Nat.zero_le _, by omega, ⟨(by first | (with_reducible exact HV.out) | ((with_reducible repeat (first | apply V1.alloc | apply V1.drewN | apply V1.drew)); exact HV.out))⟩, ⟨Nat.zero_le _⟩⟩
    case round =>
      clear HV
      obtain ⟨j, ys, m, F, G, rfl, hj, hj60, HV, HYL⟩ := hrel
      by_cases hlt : j < list.length
      · have k1 := decide_eq_true hlt
        have k2 : decide ((j : Int) < list.length) = true := decide_eq_true (by omega)
        by_cases hlt2 : j < 60
        · have k3 := decide_eq_true hlt2
          have k4 : decide ((j : Int) < 60) = true := decide_eq_true (by omega)
          obtain ⟨p, hpe⟩ : ∃ p, list.getD j default = p := ⟨_, rfl⟩
          have hokp : okPc p := by
            rw [← hpe, List.getD_eq_getElem?_getD, List.getElem?_eq_getElem hlt]
            exact HOK.out _ (List.getElem_mem hlt)
          obtain ⟨ad, An, cn, Ar, cr, rfl, hcn, hCN, hcr, hCR, hx0, hx1, hx2, hx3, hx4, hx5⟩ := at_piece HC.out j hlt hpe
          obtain ⟨name, sh, raw, n, s, k⟩ := p
          have hx0 := pw_cell_below (V1.b HV.out) hx0
          have hx1 := pw_cell_below (V1.b HV.out) hx1
          have hx2 := pw_cell_below (V1.b HV.out) hx2
          have hx3 := pw_cell_below (V1.b HV.out) hx3
          have hx4 := pw_cell_below (V1.b HV.out) hx4
          have hx5 := pw_cell_below (V1.b HV.out) hx5
          simp only at hcn hCN hcr hCR hx0 hx1 hx2 hx3 hx4 hx5
          obtain ⟨⟨hok1, hok2⟩, ⟨hok3, hok4⟩, hok5, hok6, hok7⟩ := hokp
          simp only at hok1 hok2 hok3 hok4 hok5 hok6 hok7
          have HCN := Aside0.mk hCN
          have HCR := Aside0.mk hCR
          have HNL := Aside0.mk hcn
          have HRC := Aside0.mk hcr
          have HRM := Aside0.mk (show raw.length ≤ 9223372036854775807 by omega)
          have HNZ := Aside0.mk hok2
          have HN := Aside0.mk (wf64 hok5).2
          clear hcn hCN hcr hCR hok1 hok2 hok3 hok4 hok5 hok6 hok7 hpe
          go_upto_region 8 with (fail)
          go_cut [6] (fun v wc => ∃ gp : Nat, v = .pointer (some ⟨gp, 0, none⟩) ∧ Aside0 (V1 w (w.heap.size + 1) g2 ys m ys m F G wc) ∧ Aside0 (Blk gp (.cells #[.slice An name.length cn, .bool sh, .slice Ar raw.length cr, .int .i64 n, .int .i64 s, .int .i64 k] 55 (0, 0)) F G wc))
          case first =>
            go_wp2
            go_meet
            case rel => exact ⟨wr.heap.size, rfl, ⟨(by first | (with_reducible exact HV.out) | ((with_reducible repeat (first | apply V1.alloc | apply V1.drewN | apply V1.drew)); exact HV.out))⟩, ⟨(MapKept.heap_alloc _ _).1, (V1.free HV.out (Nat.le_refl _)).1, (V1.free HV.out (Nat.le_refl _)).2⟩⟩
          case rest =>
            clear HV hx0 hx1 hx2 hx3 hx4 hx5
            obtain ⟨gp, rfl, HV, HK⟩ := hcut
            obtain ⟨hp0, hp1, hp2, hp3, hp4, hp5⟩ := cells6 HK.out; obtain ⟨Am, cm, hq0, hqc, hqC⟩ := RN.cell (V1.w2 HV.out); clear hqc hqC
            obtain ⟨lb, hlb⟩ : ∃ b, lightB name raw = b := ⟨_, rfl⟩
            have HLB := Aside0.mk hlb
            cases lb with
            | false =>
              clear hlb
              go_wp2_with (first | (go_at_call 24; (with_reducible refine (light_calls An cn name sh Ar cr raw n s _ _ ?l1 ?l2 ?l3).mono ?_); (case l1 => exact Kd.C_below HCN.out (V1.b (by first | (with_reducible exact HV.out) | ((with_reducible repeat (first | apply V1.alloc | apply V1.drewN | apply V1.drew)); exact HV.out)))); (case l2 => exact HRM.out); (case l3 => exact HNZ.out); rintro e wl ⟨rfl, hb⟩; rw [HLB.out]; have n0_ := Aside0.mk (V1.below HV.out hb); have n1_ := Aside0.mk (Blk.below HK.out hb); clear HV HK hb; have HV := n0_; have HK := n1_; clear n0_ n1_; obtain ⟨hp0, hp1, hp2, hp3, hp4, hp5⟩ := cells6 HK.out; obtain ⟨Am, cm, hq0, hqc, hqC⟩ := RN.cell (V1.w2 HV.out); clear hqc hqC))
              go_roundw
              case rel => exact ⟨j + 1, ys, m, F, G, by go_num, by omega, by omega, ⟨(by first | (with_reducible exact HV.out) | ((with_reducible repeat (first | apply V1.alloc | apply V1.drewN | apply V1.drew)); exact HV.out))⟩, ⟨HYL.out⟩⟩
              case measure => simp [intOf] <;> omega
            | true =>
              have hli := light_iff hlb
              have HNL2 := Aside0.mk hli.1
              have HRL := Aside0.mk hli.2
              clear hlb hli
              by_cases hy : ys.length ≤ 60000
              · have k5 : decide (60000 < ys.length) = false := decide_eq_false (by omega)
                have k6 : decide ((60000 : Int) < ys.length) = false := decide_eq_false (by omega)
                have HY6 := Aside0.mk hy
                clear hy
                by_cases hk1 : k = 1
                · subst hk1
                  go_upto_region 18 with (first | (go_at_call 24; (with_reducible refine (light_calls An cn name sh Ar cr raw n s _ _ ?l1 ?l2 ?l3).mono ?_); (case l1 => exact Kd.C_below HCN.out (V1.b (by first | (with_reducible exact HV.out) | ((with_reducible repeat (first | apply V1.alloc | apply V1.drewN | apply V1.drew)); exact HV.out)))); (case l2 => exact HRM.out); (case l3 => exact HNZ.out); rintro e wl ⟨rfl, hb⟩; rw [HLB.out]; have n0_ := Aside0.mk (V1.below HV.out hb); have n1_ := Aside0.mk (Blk.below HK.out hb); clear HV HK hb; have HV := n0_; have HK := n1_; clear n0_ n1_; obtain ⟨hp0, hp1, hp2, hp3, hp4, hp5⟩ := cells6 HK.out; obtain ⟨Am, cm, hq0, hqc, hqC⟩ := RN.cell (V1.w2 HV.out); clear hqc hqC) | ((with_reducible refine gate_dst (N := 77) rfl ?_); refine Kd.R_lit (w0 := w) (Kd.int .u8) w.heap.size 5 ?hg77 (N := 77) ?hd77 (xs := ([] : List Int)) (inner := []) (ok := fun k => (¬ F k ∧ ¬ G k) ∧ k ≠ gp) (okp := fun _ => False) ?hr77 ?hp77 (fun _ hk => hk.elim) ?hf77 ?hB77 ?hS77 (Nat.zero_le _) ?_; (case hd77 => rfl); (case hg77 => rfl); (case hr77 => exact lit_u8 rfl); (case hp77 => exact (Reps.none _ _)); (case hf77 => exact ⟨V1.free HV.out (Nat.le_refl _), Nat.ne_of_gt (Blk.lt HK.out)⟩); (case hB77 => exact V1.b HV.out); (case hS77 => exact V1.sz HV.out); intro v77 w77 ho hb hg3 hat; have HO := Aside0.mk ho; have n1_ := Aside0.mk (V1.grown HV.out hb hg3 (fun k hk => by cases hk)); have n2_ := Aside0.mk (Blk.grown HK.out hg3 (fun k hk => by cases hk)); clear HV HK; have HV := n1_; have HK := n2_; clear n1_ n2_ ho hb hg3 hat; obtain ⟨hp0, hp1, hp2, hp3, hp4, hp5⟩ := cells6 HK.out; obtain ⟨Am, cm, hq0, hqc, hqC⟩ := RN.cell (V1.w2 HV.out); clear hqc hqC) | ((with_reducible refine gate_builtin (b := .append) (xs := #[.tmp 77, .tmp 79]) rfl ?_); at_builtin; refine Kd.R_append_rows (Kd.int .u8) (w0 := w) w.heap.size rfl (.tmp 77) (.tmp 79) 24 5 (.int .u8 0) 1 rfl Try.underlying24 infoB rfl (by decide) (by omega) v77 [] raw _ _ _ (fun k => (¬ F k ∧ ¬ G k) ∧ k ≠ gp) (fun _ => False) rfl rfl ?aO77 ?aR77 (fun _ _ h => h) (fun _ h => h.elim) ?aF77 ?aB77 ?aS77 ?aL77 ?_; (case aR77 => exact Kd.C_below HCR.out (V1.b HV.out)); (case aF77 => exact (fun k hk => ⟨V1.free HV.out hk, Nat.ne_of_gt (Nat.lt_of_lt_of_le (Blk.lt HK.out) hk)⟩)); (case aB77 => exact V1.b HV.out); (case aO77 => exact HO.out); (case aS77 => exact V1.sz HV.out); (case aL77 => have := HRL.out; simp; omega); intro v80 w80 ho hb hg hat; rw [List.nil_append] at ho; have n1_ := Aside0.mk (V1.grown HV.out hb hg (fun k hk => (HO.out.1 k hk).1)); have n2_ := Aside0.mk (Blk.grown HK.out hg (fun k hk => (HO.out.1 k hk).2)); clear HO HV HK; have HV := n1_; have HK := n2_; have HO := Aside0.mk ho; clear n1_ n2_ ho hb hg hat; obtain ⟨hp0, hp1, hp2, hp3, hp4, hp5⟩ := cells6 HK.out; obtain ⟨Am, cm, hq0, hqc, hqC⟩ := RN.cell (V1.w2 HV.out); clear hqc hqC; obtain ⟨A80, c80, e80⟩ := Kd.R_slice HO.out; subst e80) | (go_at_call 25; (with_reducible refine (wn_Raw _ _ F ys m A80 c80 raw _ (V1.w1 HV.out) ?r1 ?r2).mono ?_); (case r1 => exact (Kd.R_reads' HO.out).2.2); (case r2 => have := HRL.out; have := HYL.out; omega); rintro e w81 ⟨rfl, F81, hw, hu, hF⟩; have n0_ := Aside0.mk (V1.one HV.out hw hu hF); have n2_ := Aside0.mk (Blk.one HK.out hu hF); clear HV HK HO hw hu hF; have HV := n0_; have HK := n2_; clear n0_ n2_; obtain ⟨hp0, hp1, hp2, hp3, hp4, hp5⟩ := cells6 HK.out; obtain ⟨Am, cm, hq0, hqc, hqC⟩ := RN.cell (V1.w2 HV.out); clear hqc hqC) | (go_at_call 26; (with_reducible refine (rn_Raw (V1.w2 HV.out) Ar cr raw ?r3 ?r4).mono ?_); (case r3 => exact Kd.C_below HCR.out (V1.b HV.out)); (case r4 => have := HRL.out; have := HYL.out; omega); rintro e w85 ⟨rfl, G85, hw, hu, hF⟩; have n0_ := Aside0.mk (V1.two HV.out hw hu hF); have n2_ := Aside0.mk (Blk.two HK.out hu hF); clear HV HK hw hu hF; have HV := n0_; have HK := n2_; clear n0_ n2_; obtain ⟨hp0, hp1, hp2, hp3, hp4, hp5⟩ := cells6 HK.out; obtain ⟨Am, cm, hq0, hqc, hqC⟩ := RN.cell (V1.w2 HV.out); clear hqc hqC))
                  go_upto_region 22 with (first | ((with_reducible refine gate_dst (N := 77) rfl ?_); refine Kd.R_lit (w0 := w) (Kd.int .u8) w.heap.size 5 ?hg77 (N := 77) ?hd77 (xs := ([] : List Int)) (inner := []) (ok := fun k => (¬ F k ∧ ¬ G k) ∧ k ≠ gp) (okp := fun _ => False) ?hr77 ?hp77 (fun _ hk => hk.elim) ?hf77 ?hB77 ?hS77 (Nat.zero_le _) ?_; (case hd77 => rfl); (case hg77 => rfl); (case hr77 => exact lit_u8 rfl); (case hp77 => exact (Reps.none _ _)); (case hf77 => exact ⟨V1.free HV.out (Nat.le_refl _), Nat.ne_of_gt (Blk.lt HK.out)⟩); (case hB77 => exact V1.b HV.out); (case hS77 => exact V1.sz HV.out); intro v77 w77 ho hb hg3 hat; have HO := Aside0.mk ho; have n1_ := Aside0.mk (V1.grown HV.out hb hg3 (fun k hk => by cases hk)); have n2_ := Aside0.mk (Blk.grown HK.out hg3 (fun k hk => by cases hk)); clear HV HK; have HV := n1_; have HK := n2_; clear n1_ n2_ ho hb hg3 hat; obtain ⟨hp0, hp1, hp2, hp3, hp4, hp5⟩ := cells6 HK.out; obtain ⟨Am, cm, hq0, hqc, hqC⟩ := RN.cell (V1.w2 HV.out); clear hqc hqC) | ((with_reducible refine gate_builtin (b := .append) (xs := #[.tmp 77, .tmp 79]) rfl ?_); at_builtin; refine Kd.R_append_rows (Kd.int .u8) (w0 := w) w.heap.size rfl (.tmp 77) (.tmp 79) 24 5 (.int .u8 0) 1 rfl Try.underlying24 infoB rfl (by decide) (by omega) v77 [] raw _ _ _ (fun k => (¬ F k ∧ ¬ G k) ∧ k ≠ gp) (fun _ => False) rfl rfl ?aO77 ?aR77 (fun _ _ h => h) (fun _ h => h.elim) ?aF77 ?aB77 ?aS77 ?aL77 ?_; (case aR77 => exact Kd.C_below HCR.out (V1.b HV.out)); (case aF77 => exact (fun k hk => ⟨V1.free HV.out hk, Nat.ne_of_gt (Nat.lt_of_lt_of_le (Blk.lt HK.out) hk)⟩)); (case aB77 => exact V1.b HV.out); (case aO77 => exact HO.out); (case aS77 => exact V1.sz HV.out); (case aL77 => have := HRL.out; simp; omega); intro v80 w80 ho hb hg hat; rw [List.nil_append] at ho; have n1_ := Aside0.mk (V1.grown HV.out hb hg (fun k hk => (HO.out.1 k hk).1)); have n2_ := Aside0.mk (Blk.grown HK.out hg (fun k hk => (HO.out.1 k hk).2)); clear HO HV HK; have HV := n1_; have HK := n2_; have HO := Aside0.mk ho; clear n1_ n2_ ho hb hg hat; obtain ⟨hp0, hp1, hp2, hp3, hp4, hp5⟩ := cells6 HK.out; obtain ⟨Am, cm, hq0, hqc, hqC⟩ := RN.cell (V1.w2 HV.out); clear hqc hqC; obtain ⟨A80, c80, e80⟩ := Kd.R_slice HO.out; subst e80) | (go_at_call 25; (with_reducible refine (wn_Raw _ _ F ys m A80 c80 raw _ (V1.w1 HV.out) ?r1 ?r2).mono ?_); (case r1 => exact (Kd.R_reads' HO.out).2.2); (case r2 => have := HRL.out; have := HYL.out; omega); rintro e w81 ⟨rfl, F81, hw, hu, hF⟩; have n0_ := Aside0.mk (V1.one HV.out hw hu hF); have n2_ := Aside0.mk (Blk.one HK.out hu hF); clear HV HK HO hw hu hF; have HV := n0_; have HK := n2_; clear n0_ n2_; obtain ⟨hp0, hp1, hp2, hp3, hp4, hp5⟩ := cells6 HK.out; obtain ⟨Am, cm, hq0, hqc, hqC⟩ := RN.cell (V1.w2 HV.out); clear hqc hqC) | (go_at_call 26; (with_reducible refine (rn_Raw (V1.w2 HV.out) Ar cr raw ?r3 ?r4).mono ?_); (case r3 => exact Kd.C_below HCR.out (V1.b HV.out)); (case r4 => have := HRL.out; have := HYL.out; omega); rintro e w85 ⟨rfl, G85, hw, hu, hF⟩; have n0_ := Aside0.mk (V1.two HV.out hw hu hF); have n2_ := Aside0.mk (Blk.two HK.out hu hF); clear HV HK hw hu hF; have HV := n0_; have HK := n2_; clear n0_ n2_; obtain ⟨hp0, hp1, hp2, hp3, hp4, hp5⟩ := cells6 HK.out; obtain ⟨Am, cm, hq0, hqc, hqC⟩ := RN.cell (V1.w2 HV.out); clear hqc hqC))
                  have hlq := Aside0.mk (fun n => wn_Len_quiet (V1.w1 HV.out) n)
                  go_quiet ((go_at_call 32; (with_reducible exact hlq.out _)))
                  go_wp2_with (fail)
                  go_roundw
                  case rel => exact ⟨j + 1, ys ++ raw, m, F81, G85, by go_num, by omega, by omega, ⟨(by first | (with_reducible exact HV.out) | ((with_reducible repeat (first | apply V1.alloc | apply V1.drewN | apply V1.drew)); exact HV.out))⟩, ⟨by have := HY6.out; have := HRL.out; rw [List.length_append]; omega⟩⟩
                  case measure => simp [intOf] <;> omega
                · by_cases hk2 : k = 2
                  · subst hk2
                    go_upto_region 21 with (first | (go_at_call 24; (with_reducible refine (light_calls An cn name sh Ar cr raw n s _ _ ?l1 ?l2 ?l3).mono ?_); (case l1 => exact Kd.C_below HCN.out (V1.b (by first | (with_reducible exact HV.out) | ((with_reducible repeat (first | apply V1.alloc | apply V1.drewN | apply V1.drew)); exact HV.out)))); (case l2 => exact HRM.out); (case l3 => exact HNZ.out); rintro e wl ⟨rfl, hb⟩; rw [HLB.out]; have n0_ := Aside0.mk (V1.below HV.out hb); have n1_ := Aside0.mk (Blk.below HK.out hb); clear HV HK hb; have HV := n0_; have HK := n1_; clear n0_ n1_; obtain ⟨hp0, hp1, hp2, hp3, hp4, hp5⟩ := cells6 HK.out; obtain ⟨Am, cm, hq0, hqc, hqC⟩ := RN.cell (V1.w2 HV.out); clear hqc hqC) | (go_at_call 27; (with_reducible refine (wn_Num _ _ F ys m n s _ (V1.w1 HV.out) (by have := HYL.out; omega)).mono ?_); rintro e w93 ⟨rfl, F93, hw, hu, hF⟩; have n0_ := Aside0.mk (V1.one HV.out hw hu hF); have n2_ := Aside0.mk (Blk.one HK.out hu hF); clear HV HK hw hu hF; have HV := n0_; have HK := n2_; clear n0_ n2_; obtain ⟨hp0, hp1, hp2, hp3, hp4, hp5⟩ := cells6 HK.out; obtain ⟨Am, cm, hq0, hqc, hqC⟩ := RN.cell (V1.w2 HV.out); clear hqc hqC) | (go_at_call 28; (with_reducible refine (rn_Num (V1.w2 HV.out) n s HN.out (by have := HYL.out; omega)).mono ?_); rintro e w99 ⟨rfl, G99, hw, hu, hF⟩; have n0_ := Aside0.mk (V1.two HV.out hw hu hF); have n2_ := Aside0.mk (Blk.two HK.out hu hF); clear HV HK hw hu hF; have HV := n0_; have HK := n2_; clear n0_ n2_; obtain ⟨hp0, hp1, hp2, hp3, hp4, hp5⟩ := cells6 HK.out; obtain ⟨Am, cm, hq0, hqc, hqC⟩ := RN.cell (V1.w2 HV.out); clear hqc hqC))
                    go_upto_region 22 with (first | (go_at_call 27; (with_reducible refine (wn_Num _ _ F ys m n s _ (V1.w1 HV.out) (by have := HYL.out; omega)).mono ?_); rintro e w93 ⟨rfl, F93, hw, hu, hF⟩; have n0_ := Aside0.mk (V1.one HV.out hw hu hF); have n2_ := Aside0.mk (Blk.one HK.out hu hF); clear HV HK hw hu hF; have HV := n0_; have HK := n2_; clear n0_ n2_; obtain ⟨hp0, hp1, hp2, hp3, hp4, hp5⟩ := cells6 HK.out; obtain ⟨Am, cm, hq0, hqc, hqC⟩ := RN.cell (V1.w2 HV.out); clear hqc hqC) | (go_at_call 28; (with_reducible refine (rn_Num (V1.w2 HV.out) n s HN.out (by have := HYL.out; omega)).mono ?_); rintro e w99 ⟨rfl, G99, hw, hu, hF⟩; have n0_ := Aside0.mk (V1.two HV.out hw hu hF); have n2_ := Aside0.mk (Blk.two HK.out hu hF); clear HV HK hw hu hF; have HV := n0_; have HK := n2_; clear n0_ n2_; obtain ⟨hp0, hp1, hp2, hp3, hp4, hp5⟩ := cells6 HK.out; obtain ⟨Am, cm, hq0, hqc, hqC⟩ := RN.cell (V1.w2 HV.out); clear hqc hqC))
                    have hlq := Aside0.mk (fun n => wn_Len_quiet (V1.w1 HV.out) n)
                    go_quiet ((go_at_call 32; (with_reducible exact hlq.out _)))
                    go_wp2_with (fail)
                    go_roundw
                    case rel => exact ⟨j + 1, ys ++ numB n s, m, F93, G99, by go_num, by omega, by omega, ⟨(by first | (with_reducible exact HV.out) | ((with_reducible repeat (first | apply V1.alloc | apply V1.drewN | apply V1.drew)); exact HV.out))⟩, ⟨by have := HY6.out; have := numB_len n s; rw [List.length_append]; omega⟩⟩
                    case measure => simp [intOf] <;> omega
                  · have k7 : (k == 1) = false := beq_eq_false_iff_ne.2 hk1
                    have k8 : (k == 2) = false := beq_eq_false_iff_ne.2 hk2
                    go_upto_region 11 with ((go_at_call 24; (with_reducible refine (light_calls An cn name sh Ar cr raw n s _ _ ?l1 ?l2 ?l3).mono ?_); (case l1 => exact Kd.C_below HCN.out (V1.b (by first | (with_reducible exact HV.out) | ((with_reducible repeat (first | apply V1.alloc | apply V1.drewN | apply V1.drew)); exact HV.out)))); (case l2 => exact HRM.out); (case l3 => exact HNZ.out); rintro e wl ⟨rfl, hb⟩; rw [HLB.out]; have n0_ := Aside0.mk (V1.below HV.out hb); have n1_ := Aside0.mk (Blk.below HK.out hb); clear HV HK hb; have HV := n0_; have HK := n1_; clear n0_ n1_; obtain ⟨hp0, hp1, hp2, hp3, hp4, hp5⟩ := cells6 HK.out; obtain ⟨Am, cm, hq0, hqc, hqC⟩ := RN.cell (V1.w2 HV.out); clear hqc hqC))
                    cases hso : soundB name with
                    | true =>
                      have HSO := Aside0.mk hso
                      have HLY := Aside0.mk (show (nameR sh name ys m).1.length ≤ 90000 by have := nameR_len sh name ys m; have := (sound_iff.1 hso).2.2; have := HY6.out; omega)
                      clear hso
                      have n0_ := Aside0.mk (V1.drew HV.out)
                      have n2_ := Aside0.mk (Blk.below HK.out (below_drew (Below.refl _ _)))
                      refine start_ (n := 9) (S := fun w' => w'.cell? ⟨gp, 0, none⟩ = some (.slice An name.length cn) ∧ w'.cell? ⟨gp, 1, none⟩ = some (.bool sh)) (ds := [7]) #[false, false, false, false, false, false, false, false, false] (by kernel_rfl) rfl rfl ⟨hp0, hp1⟩ (fun hHeld => ?_)
                      clear HV HK hp0 hp1 hp2 hp3 hp4 hp5 hq0
                      have HV := n0_
                      have HK := n2_
                      clear n0_ n2_
                      generalize wl.drew = wd at HV HK hHeld ⊢
                      refine pure_ (i := 0) (N := some 44) (v := ?_) (a' := ?_) #[true, false, false, false, false, false, false, false, false] rfl rfl (by kernel_rfl) (fun _ _ _ h => h) (Or.inl ⟨by rfl, ?hy1⟩) ?ha1 ?_; (case hy1 => (intro w'; go_simp; with_reducible rfl)); (case ha1 => (simp only [Act.put, List.setIfInBounds_toArray, List.set_cons_zero, List.set_cons_succ, i64_w, i32_w]; rfl))
                      refine pure_ (i := 2) (N := some 46) (v := ?_) (a' := ?_) #[true, false, true, false, false, false, false, false, false] rfl rfl (by kernel_rfl) (fun _ _ _ h => h) (Or.inl ⟨by rfl, ?hy2⟩) ?ha2 ?_; (case hy2 => (intro w'; go_simp; with_reducible rfl)); (case ha2 => (simp only [Act.put, List.setIfInBounds_toArray, List.set_cons_zero, List.set_cons_succ, i64_w, i32_w]; rfl))
                      refine take_ (i := 3) (N := some 47) (v := ?_) (a' := ?_) #[true, false, true, true, false, false, false, false, false] rfl rfl (by kernel_rfl) (fun _ _ _ h => h) (Or.inl ⟨by rfl, ?hy3⟩) hHeld ?ha3 ?_; (case hy3 => (rintro w' ⟨s0,_s1⟩; go_simp; with_reducible rfl)); (case ha3 => (simp only [Act.put, List.setIfInBounds_toArray, List.set_cons_zero, List.set_cons_succ, i64_w, i32_w]; rfl))
                      refine pure_ (i := 5) (N := some 49) (v := ?_) (a' := ?_) #[true, false, true, true, false, true, false, false, false] rfl rfl (by kernel_rfl) (fun _ _ _ h => h) (Or.inl ⟨by rfl, ?hy4⟩) ?ha4 ?_; (case hy4 => (intro w'; go_simp; with_reducible rfl)); (case ha4 => (simp only [Act.put, List.setIfInBounds_toArray, List.set_cons_zero, List.set_cons_succ, i64_w, i32_w]; rfl))
                      refine take_ (i := 6) (N := some 50) (v := ?_) (a' := ?_) #[true, false, true, true, false, true, true, false, false] rfl rfl (by kernel_rfl) (fun _ _ _ h => h) (Or.inl ⟨by rfl, ?hy5⟩) hHeld ?ha5 ?_; (case hy5 => (rintro w' ⟨_s0,s1⟩; go_simp; with_reducible rfl)); (case ha5 => (simp only [Act.put, List.setIfInBounds_toArray, List.set_cons_zero, List.set_cons_succ, i64_w, i32_w]; rfl))
                      refine one_ (i := 1) (N := some 45) #[true, true, true, true, false, true, true, false, false] rfl rfl (by kernel_rfl) (by decide) (fun K hK => ?_)
                      refine Kd.R_lit_step (w0 := w) Kd.string w.heap.size 9 (by rfl) (N := 45) rfl (xs := ([] : List ByteArray)) (inner := []) (ok := fun k => (¬ F k ∧ ¬ G k) ∧ k ≠ gp) (okp := fun _ => False) (lit_str rfl) (Reps.none _ _) (fun _ hk => hk.elim) ⟨V1.free HV.out (Nat.le_refl _), Nat.ne_of_gt (Blk.lt HK.out)⟩ (V1.b HV.out) (V1.sz HV.out) (Nat.zero_le _) ?_
                      intro v45 w45 ho hb hg hat
                      have n0_ := Aside0.mk (V1.grown HV.out hb hg (fun k hk => by cases hk))
                      have n2_ := Aside0.mk (Blk.grown HK.out hg (fun k hk => by cases hk))
                      clear HV HK hg hat hb
                      have HV := n0_
                      have HK := n2_
                      have HO := Aside0.mk ho
                      clear n0_ n2_ ho
                      refine hK.out _ _ ⟨(cells6 HK.out).1, (cells6 HK.out).2.1⟩ (fun hHeld => ?_)
                      clear hK K
                      refine norm_ (a' := ?_) ?hn7 ?_; (case hn7 => (show Act.put _ (some 45) _ = _; simp only [Act.put, List.setIfInBounds_toArray, List.set_cons_zero, List.set_cons_succ, i64_w, i32_w]; rfl))
                      refine one_ (i := 4) (N := some 48) #[true, true, true, true, true, true, true, false, false] rfl rfl (by kernel_rfl) (by decide) (fun K hK => ?_)
                      refine Kd.R_append_rows_step Kd.string (w0 := w) w.heap.size (by rfl) (.tmp 45) (.tmp 47) 34 9 (.string ByteArray.empty) 16 rfl Try.underlying34 infoS rfl (by decide) (by omega) v45 [] name _ _ _ (fun k => (¬ F k ∧ ¬ G k) ∧ k ≠ gp) (fun _ => False) rfl rfl HO.out (Kd.C_below HCN.out (V1.b HV.out)) (fun _ _ h => h) (fun _ h => h.elim) (fun k hk => ⟨V1.free HV.out hk, Nat.ne_of_gt (Nat.lt_of_lt_of_le (Blk.lt HK.out) hk)⟩) (V1.b HV.out) (V1.sz HV.out) (by have := HNL2.out; simp; omega) ?_
                      intro v48 w48 ho hb hg hat
                      rw [List.nil_append] at ho
                      have n0_ := Aside0.mk (V1.grown HV.out hb hg (fun k hk => (HO.out.1 k hk).1))
                      have n2_ := Aside0.mk (Blk.grown HK.out hg (fun k hk => (HO.out.1 k hk).2))
                      clear HO HV HK hg hat hb
                      have HV := n0_
                      have HK := n2_
                      have HO := Aside0.mk ho
                      clear n0_ n2_ ho
                      obtain ⟨A48, c48, e48⟩ := Kd.R_slice HO.out
                      subst e48
                      refine hK.out _ _ ⟨(cells6 HK.out).1, (cells6 HK.out).2.1⟩ (fun hHeld => ?_)
                      clear hK K
                      refine norm_ (a' := ?_) ?hn9 ?_; (case hn9 => (show Act.put _ (some 48) _ = _; simp only [Act.put, List.setIfInBounds_toArray, List.set_cons_zero, List.set_cons_succ, i64_w, i32_w]; rfl))
                      refine last_ (i := 7) (N := some 51) #[true, true, true, true, true, true, true, true, false] rfl rfl (by kernel_rfl) (by decide) (fun K hK => ?_)
                      refine goes_ Try.func29 (by kernel_rfl) rfl #[.pointer (some ⟨w.heap.size + 1, 0, none⟩), .slice A48 name.length c48, .bool sh] (by rfl) rfl rfl (by simp [Act.eval]) ?_
                      refine (wname_Name w.heap.size (w.heap.size + 1) F ys m sh A48 c48 name _ (V1.w1 HV.out) (fun w' hu => (Kd.R_reads' (R_upd HO.out hu (fun k h => h.1.1))).2.2) (Kd.R_reads' HO.out).2.1 HSO.out (by have := HYL.out; omega)).mono ?_
                      rintro e w51 ⟨rfl, F51, hw, hu, hF⟩
                      have n0_ := Aside0.mk (V1.one HV.out hw hu hF)
                      have n2_ := Aside0.mk (Blk.one HK.out hu hF)
                      clear HV HK HO hw hu hF
                      have HV := n0_
                      have HK := n2_
                      clear n0_ n2_
                      refine ⟨_, rfl, ?_⟩
                      refine hK.out _ _ ?_
                      clear hK K
                      refine norm_ (a' := ?_) ?hn11 ?_; (case hn11 => (show Act.put _ (some 51) _ = _; simp only [Act.put, List.setIfInBounds_toArray, List.set_cons_zero, List.set_cons_succ, i64_w, i32_w]; rfl))
                      refine pure_ (i := 8) (N := some 7) (v := ?_) (a' := ?_) #[true, true, true, true, true, true, true, true, true] rfl rfl (by kernel_rfl) (fun _ _ _ h => h) (Or.inl ⟨by rfl, ?hy12⟩) ?ha12 ?_; (case hy12 => (intro w'; go_simp; with_reducible rfl)); (case ha12 => (simp only [Act.put, List.setIfInBounds_toArray, List.set_cons_zero, List.set_cons_succ, i64_w, i32_w]; rfl))
                      refine done_ (by kernel_rfl) ?_
                      obtain ⟨hp0, hp1, hp2, hp3, hp4, hp5⟩ := cells6 HK.out; obtain ⟨Am, cm, hq0, hqc, hqC⟩ := RN.cell (V1.w2 HV.out); clear hqc hqC
                      go_upto_region 15 with ((go_at_call 30; (with_reducible refine (ref_Sound An cn name _ ?x1 HNL.out).mono ?_); (case x1 => exact Kd.C_below HCN.out (V1.b (by first | (with_reducible exact HV.out) | ((with_reducible repeat (first | apply V1.alloc | apply V1.drewN | apply V1.drew)); exact HV.out)))); rintro e w' ⟨rfl, ⟨nd, rfl⟩⟩; rw [HSO.out]))
                      go_upto_region 22 with ((go_at_call 31; (with_reducible refine (ref_Name w.heap.size g2 G ys m _ _ _ name _ (V1.w2 (by first | (with_reducible exact HV.out) | ((with_reducible repeat (first | apply V1.alloc | apply V1.drewN | apply V1.drew)); exact HV.out))) ?y1 HNL.out HSO.out (by have := HYL.out; omega)).mono ?_); (case y1 => exact (fun w' hu => Kd.C_below HCN.out ((V1.b (by first | (with_reducible exact HV.out) | ((with_reducible repeat (first | apply V1.alloc | apply V1.drewN | apply V1.drew)); exact HV.out))).trans (hu.below (fun k hk => RN.ge (V1.w2 (by first | (with_reducible exact HV.out) | ((with_reducible repeat (first | apply V1.alloc | apply V1.drewN | apply V1.drew)); exact HV.out))) hk) (V1.sz (by first | (with_reducible exact HV.out) | ((with_reducible repeat (first | apply V1.alloc | apply V1.drewN | apply V1.drew)); exact HV.out))))))); rintro e w73 ⟨rfl, G73, hw, hu, hF⟩; have n0_ := Aside0.mk (V1.two (by first | (with_reducible exact HV.out) | ((with_reducible repeat (first | apply V1.alloc | apply V1.drewN | apply V1.drew)); exact HV.out)) hw hu hF); clear HV hw hu hF; have HV := n0_; clear n0_; obtain ⟨Am, cm, hq0, hqc, hqC⟩ := RN.cell (V1.w2 HV.out); clear hqc hqC))
                      have hlq := Aside0.mk (fun n => wn_Len_quiet (V1.w1 HV.out) n)
                      go_quiet ((go_at_call 32; (with_reducible exact hlq.out _)))
                      go_wp2_with (fail)
                      go_roundw
                      case rel => exact ⟨j + 1, (nameR sh name ys m).1, (nameR sh name ys m).2, F51, G73, by go_num, by omega, by omega, ⟨(by first | (with_reducible exact HV.out) | ((with_reducible repeat (first | apply V1.alloc | apply V1.drewN | apply V1.drew)); exact HV.out))⟩, ⟨HLY.out⟩⟩
                      case measure => simp [intOf] <;> omega
                    | false =>
                      have HSO := Aside0.mk hso
                      clear hso
                      have n0_ := Aside0.mk (V1.drew HV.out)
                      have n2_ := Aside0.mk (Blk.below HK.out (below_drew (Below.refl _ _)))
                      refine start_ (n := 9) (S := fun w' => w'.cell? ⟨gp, 0, none⟩ = some (.slice An name.length cn) ∧ w'.cell? ⟨gp, 1, none⟩ = some (.bool sh)) (ds := [7]) #[false, false, false, false, false, false, false, false, false] (by kernel_rfl) rfl rfl ⟨hp0, hp1⟩ (fun hHeld => ?_)
                      clear HV HK hp0 hp1 hp2 hp3 hp4 hp5 hq0
                      have HV := n0_
                      have HK := n2_
                      clear n0_ n2_
                      generalize wl.drew = wd at HV HK hHeld ⊢
                      refine pure_ (i := 0) (N := some 44) (v := ?_) (a' := ?_) #[true, false, false, false, false, false, false, false, false] rfl rfl (by kernel_rfl) (fun _ _ _ h => h) (Or.inl ⟨by rfl, ?hy13⟩) ?ha13 ?_; (case hy13 => (intro w'; go_simp; with_reducible rfl)); (case ha13 => (simp only [Act.put, List.setIfInBounds_toArray, List.set_cons_zero, List.set_cons_succ, i64_w, i32_w]; rfl))
                      refine pure_ (i := 2) (N := some 46) (v := ?_) (a' := ?_) #[true, false, true, false, false, false, false, false, false] rfl rfl (by kernel_rfl) (fun _ _ _ h => h) (Or.inl ⟨by rfl, ?hy14⟩) ?ha14 ?_; (case hy14 => (intro w'; go_simp; with_reducible rfl)); (case ha14 => (simp only [Act.put, List.setIfInBounds_toArray, List.set_cons_zero, List.set_cons_succ, i64_w, i32_w]; rfl))
                      refine take_ (i := 3) (N := some 47) (v := ?_) (a' := ?_) #[true, false, true, true, false, false, false, false, false] rfl rfl (by kernel_rfl) (fun _ _ _ h => h) (Or.inl ⟨by rfl, ?hy15⟩) hHeld ?ha15 ?_; (case hy15 => (rintro w' ⟨s0,_s1⟩; go_simp; with_reducible rfl)); (case ha15 => (simp only [Act.put, List.setIfInBounds_toArray, List.set_cons_zero, List.set_cons_succ, i64_w, i32_w]; rfl))
                      refine pure_ (i := 5) (N := some 49) (v := ?_) (a' := ?_) #[true, false, true, true, false, true, false, false, false] rfl rfl (by kernel_rfl) (fun _ _ _ h => h) (Or.inl ⟨by rfl, ?hy16⟩) ?ha16 ?_; (case hy16 => (intro w'; go_simp; with_reducible rfl)); (case ha16 => (simp only [Act.put, List.setIfInBounds_toArray, List.set_cons_zero, List.set_cons_succ, i64_w, i32_w]; rfl))
                      refine take_ (i := 6) (N := some 50) (v := ?_) (a' := ?_) #[true, false, true, true, false, true, true, false, false] rfl rfl (by kernel_rfl) (fun _ _ _ h => h) (Or.inl ⟨by rfl, ?hy17⟩) hHeld ?ha17 ?_; (case hy17 => (rintro w' ⟨_s0,s1⟩; go_simp; with_reducible rfl)); (case ha17 => (simp only [Act.put, List.setIfInBounds_toArray, List.set_cons_zero, List.set_cons_succ, i64_w, i32_w]; rfl))
                      refine one_ (i := 1) (N := some 45) #[true, true, true, true, false, true, true, false, false] rfl rfl (by kernel_rfl) (by decide) (fun K hK => ?_)
                      refine Kd.R_lit_step (w0 := w) Kd.string w.heap.size 9 (by rfl) (N := 45) rfl (xs := ([] : List ByteArray)) (inner := []) (ok := fun k => (¬ F k ∧ ¬ G k) ∧ k ≠ gp) (okp := fun _ => False) (lit_str rfl) (Reps.none _ _) (fun _ hk => hk.elim) ⟨V1.free HV.out (Nat.le_refl _), Nat.ne_of_gt (Blk.lt HK.out)⟩ (V1.b HV.out) (V1.sz HV.out) (Nat.zero_le _) ?_
                      intro v45 w45 ho hb hg hat
                      have n0_ := Aside0.mk (V1.grown HV.out hb hg (fun k hk => by cases hk))
                      have n2_ := Aside0.mk (Blk.grown HK.out hg (fun k hk => by cases hk))
                      clear HV HK hg hat hb
                      have HV := n0_
                      have HK := n2_
                      have HO := Aside0.mk ho
                      clear n0_ n2_ ho
                      refine hK.out _ _ ⟨(cells6 HK.out).1, (cells6 HK.out).2.1⟩ (fun hHeld => ?_)
                      clear hK K
                      refine norm_ (a' := ?_) ?hn19 ?_; (case hn19 => (show Act.put _ (some 45) _ = _; simp only [Act.put, List.setIfInBounds_toArray, List.set_cons_zero, List.set_cons_succ, i64_w, i32_w]; rfl))
                      refine one_ (i := 4) (N := some 48) #[true, true, true, true, true, true, true, false, false] rfl rfl (by kernel_rfl) (by decide) (fun K hK => ?_)
                      refine Kd.R_append_rows_step Kd.string (w0 := w) w.heap.size (by rfl) (.tmp 45) (.tmp 47) 34 9 (.string ByteArray.empty) 16 rfl Try.underlying34 infoS rfl (by decide) (by omega) v45 [] name _ _ _ (fun k => (¬ F k ∧ ¬ G k) ∧ k ≠ gp) (fun _ => False) rfl rfl HO.out (Kd.C_below HCN.out (V1.b HV.out)) (fun _ _ h => h) (fun _ h => h.elim) (fun k hk => ⟨V1.free HV.out hk, Nat.ne_of_gt (Nat.lt_of_lt_of_le (Blk.lt HK.out) hk)⟩) (V1.b HV.out) (V1.sz HV.out) (by have := HNL2.out; simp; omega) ?_
                      intro v48 w48 ho hb hg hat
                      rw [List.nil_append] at ho
                      have n0_ := Aside0.mk (V1.grown HV.out hb hg (fun k hk => (HO.out.1 k hk).1))
                      have n2_ := Aside0.mk (Blk.grown HK.out hg (fun k hk => (HO.out.1 k hk).2))
                      clear HO HV HK hg hat hb
                      have HV := n0_
                      have HK := n2_
                      have HO := Aside0.mk ho
                      clear n0_ n2_ ho
                      obtain ⟨A48, c48, e48⟩ := Kd.R_slice HO.out
                      subst e48
                      refine hK.out _ _ ⟨(cells6 HK.out).1, (cells6 HK.out).2.1⟩ (fun hHeld => ?_)
                      clear hK K
                      refine norm_ (a' := ?_) ?hn21 ?_; (case hn21 => (show Act.put _ (some 48) _ = _; simp only [Act.put, List.setIfInBounds_toArray, List.set_cons_zero, List.set_cons_succ, i64_w, i32_w]; rfl))
                      refine last_ (i := 7) (N := some 51) #[true, true, true, true, true, true, true, true, false] rfl rfl (by kernel_rfl) (by decide) (fun K hK => ?_)
                      refine goes_ Try.func29 (by kernel_rfl) rfl #[.pointer (some ⟨w.heap.size + 1, 0, none⟩), .slice A48 name.length c48, .bool sh] (by rfl) rfl rfl (by simp [Act.eval]) ?_
                      refine (wname_Name_bad (w.heap.size + 1) sh A48 c48 name _ (Kd.R_reads' HO.out).2.2 (fun s hs => Nat.le_trans (HNZ.out s hs) (by omega)) HSO.out).mono ?_
                      rintro e w51 ⟨rfl, rfl⟩
                      clear HO
                      refine ⟨_, rfl, ?_⟩
                      refine hK.out _ _ ?_
                      clear hK K
                      refine norm_ (a' := ?_) ?hn23 ?_; (case hn23 => (show Act.put _ (some 51) _ = _; simp only [Act.put, List.setIfInBounds_toArray, List.set_cons_zero, List.set_cons_succ, i64_w, i32_w]; rfl))
                      refine pure_ (i := 8) (N := some 7) (v := ?_) (a' := ?_) #[true, true, true, true, true, true, true, true, true] rfl rfl (by kernel_rfl) (fun _ _ _ h => h) (Or.inl ⟨by rfl, ?hy24⟩) ?ha24 ?_; (case hy24 => (intro w'; go_simp; with_reducible rfl)); (case ha24 => (simp only [Act.put, List.setIfInBounds_toArray, List.set_cons_zero, List.set_cons_succ, i64_w, i32_w]; rfl))
                      refine done_ (by kernel_rfl) ?_
                      obtain ⟨hp0, hp1, hp2, hp3, hp4, hp5⟩ := cells6 HK.out; obtain ⟨Am, cm, hq0, hqc, hqC⟩ := RN.cell (V1.w2 HV.out); clear hqc hqC
                      go_upto_region 22 with ((go_at_call 30; (with_reducible refine (ref_Sound An cn name _ ?x1 HNL.out).mono ?_); (case x1 => exact Kd.C_below HCN.out (V1.b (by first | (with_reducible exact HV.out) | ((with_reducible repeat (first | apply V1.alloc | apply V1.drewN | apply V1.drew)); exact HV.out)))); rintro e w' ⟨rfl, ⟨nd, rfl⟩⟩; rw [HSO.out]))
                      have n0_ := Aside0.mk (V1.drewN HV.out nd)
                      clear HV HK hp0 hp1 hp2 hp3 hp4 hp5 hq0
                      generalize w48.drewN nd = wz at n0_ ⊢
                      have HV := n0_
                      clear n0_
                      obtain ⟨Am, cm, hq0, hqc, hqC⟩ := RN.cell (V1.w2 HV.out)
                      clear hqc hqC
                      have hlq := Aside0.mk (fun n => wn_Len_quiet (V1.w1 HV.out) n)
                      go_quiet ((go_at_call 32; (with_reducible exact hlq.out _)))
                      go_wp2_with (fail)
                      go_roundw
                      case rel => exact ⟨j + 1, ys, m, F, G, by go_num, by omega, by omega, ⟨(by first | (with_reducible exact HV.out) | ((with_reducible repeat (first | apply V1.alloc | apply V1.drewN | apply V1.drew)); exact HV.out))⟩, ⟨HYL.out⟩⟩
                      case measure => simp [intOf] <;> omega
              · have k5 : decide (60000 < ys.length) = true := decide_eq_true (by omega)
                have k6 : decide ((60000 : Int) < ys.length) = true := decide_eq_true (by omega)
                clear hy
                go_wp2_with (first | (go_at_call 24; (with_reducible refine (light_calls An cn name sh Ar cr raw n s _ _ ?l1 ?l2 ?l3).mono ?_); (case l1 => exact Kd.C_below HCN.out (V1.b (by first | (with_reducible exact HV.out) | ((with_reducible repeat (first | apply V1.alloc | apply V1.drewN | apply V1.drew)); exact HV.out)))); (case l2 => exact HRM.out); (case l3 => exact HNZ.out); rintro e wl ⟨rfl, hb⟩; rw [HLB.out]; have n0_ := Aside0.mk (V1.below HV.out hb); have n1_ := Aside0.mk (Blk.below HK.out hb); clear HV HK hb; have HV := n0_; have HK := n1_; clear n0_ n1_; obtain ⟨hp0, hp1, hp2, hp3, hp4, hp5⟩ := cells6 HK.out; obtain ⟨Am, cm, hq0, hqc, hqC⟩ := RN.cell (V1.w2 HV.out); clear hqc hqC))
                go_roundw
                case rel => exact ⟨j + 1, ys, m, F, G, by go_num, by omega, by omega, ⟨(by first | (with_reducible exact HV.out) | ((with_reducible repeat (first | apply V1.alloc | apply V1.drewN | apply V1.drew)); exact HV.out))⟩, ⟨HYL.out⟩⟩
                case measure => simp [intOf] <;> omega
        · have k3 := decide_eq_false hlt2
          have k4 : decide ((j : Int) < 60) = false := decide_eq_false (by omega)
          obtain ⟨Am, cm, hq0, hqc, hqC⟩ := RN.cell (V1.w2 HV.out)
          have HQC := Aside0.mk hqc
          have HQ := Aside0.mk hqC
          clear hqc hqC
          go_upto_region 24 with (fail)
          have n0_ := Aside0.mk (V1.drew HV.out)
          have n1_ := Aside0.mk (Kd.C_drew HQ.out)
          refine start_ (n := 8) (S := fun w' => w'.cell? ⟨g2, 0, none⟩ = some (.slice Am ys.length cm)) (ds := [6]) #[false, false, false, false, false, false, false, false] (by kernel_rfl) rfl rfl hq0 (fun hHeld => ?_)
          clear HV HQ hq0
          have HV := n0_
          have HQ := n1_
          clear n0_ n1_
          generalize wr.drew = wd at HV HQ hHeld ⊢
          refine pure_ (i := 0) (N := some 108) (v := ?_) (a' := ?_) #[true, false, false, false, false, false, false, false] rfl rfl (by kernel_rfl) (fun _ _ _ h => h) (Or.inl ⟨by rfl, ?hy25⟩) ?ha25 ?_; (case hy25 => (intro w'; go_simp; with_reducible rfl)); (case ha25 => (simp only [Act.put, List.setIfInBounds_toArray, List.set_cons_zero, List.set_cons_succ, i64_w, i32_w]; rfl))
          refine pure_ (i := 2) (N := some 110) (v := ?_) (a' := ?_) #[true, false, true, false, false, false, false, false] rfl rfl (by kernel_rfl) (fun _ _ _ h => h) (Or.inl ⟨by rfl, ?hy26⟩) ?ha26 ?_; (case hy26 => (intro w'; go_simp; with_reducible rfl)); (case ha26 => (simp only [Act.put, List.setIfInBounds_toArray, List.set_cons_zero, List.set_cons_succ, i64_w, i32_w]; rfl))
          refine pure_ (i := 3) (N := some 111) (v := ?_) (a' := ?_) #[true, false, true, true, false, false, false, false] rfl rfl (by kernel_rfl) (fun _ _ _ h => h) (Or.inl ⟨by rfl, ?hy27⟩) ?ha27 ?_; (case hy27 => (intro w'; go_simp; with_reducible rfl)); (case ha27 => (simp only [Act.put, List.setIfInBounds_toArray, List.set_cons_zero, List.set_cons_succ, i64_w, i32_w]; rfl))
          refine pure_ (i := 4) (N := some 112) (v := ?_) (a' := ?_) #[true, false, true, true, true, false, false, false] rfl rfl (by kernel_rfl) (fun _ _ _ h => h) (Or.inl ⟨by rfl, ?hy28⟩) ?ha28 ?_; (case hy28 => (intro w'; go_simp; with_reducible rfl)); (case ha28 => (simp only [Act.put, List.setIfInBounds_toArray, List.set_cons_zero, List.set_cons_succ, i64_w, i32_w]; rfl))
          refine take_ (i := 5) (N := some 113) (v := ?_) (a' := ?_) #[true, false, true, true, true, true, false, false] rfl rfl (by kernel_rfl) (fun _ _ _ h => h) (Or.inl ⟨by rfl, ?hy29⟩) hHeld ?ha29 ?_; (case hy29 => (rintro w' s0; go_simp; with_reducible rfl)); (case ha29 => (simp only [Act.put, List.setIfInBounds_toArray, List.set_cons_zero, List.set_cons_succ, i64_w, i32_w]; rfl))
          refine one_ (i := 1) (N := some 109) #[true, true, true, true, true, true, false, false] rfl rfl (by kernel_rfl) (by decide) (fun K hK => ?_)
          refine goes_ Try.func33 (by kernel_rfl) rfl #[.pointer (some ⟨w.heap.size + 1, 0, none⟩)] (by rfl) rfl rfl (by simp [Act.eval]) ?_
          refine (wn_Bytes _ _ F ys m _ (V1.w1 HV.out) (by have := HYL.out; omega)).mono ?_
          rintro e w109 ⟨v109, rfl, ho, hb⟩
          have HO := Aside0.mk ho
          have n0_ := Aside0.mk (V1.below HV.out hb)
          have n1_ := Aside0.mk (Kd.C_below HQ.out hb)
          have hh := pw_cell_below hb hHeld
          clear HV HQ ho hb
          have HV := n0_
          have HQ := n1_
          clear n0_ n1_ hHeld
          obtain ⟨A109, c109, e109⟩ := Kd.R_slice HO.out
          subst e109
          refine ⟨_, rfl, ?_⟩
          refine hK.out _ _ hh (fun hHeld => ?_)
          clear hK K hh
          refine norm_ (a' := ?_) ?hn31 ?_; (case hn31 => (show Act.put _ (some 109) _ = _; simp only [Act.put, List.setIfInBounds_toArray, List.set_cons_zero, List.set_cons_succ, i64_w, i32_w]; rfl))
          refine last_ (i := 6) (N := some 114) #[true, true, true, true, true, true, true, false] rfl rfl (by kernel_rfl) (by decide) (fun K hK => ?_)
          refine goes_ Try.func16 (by kernel_rfl) rfl #[.slice A109 ys.length c109, .slice Am ys.length cm] (by rfl) rfl rfl (by simp [Act.eval]) ?_
          refine (gazetteerref01_Same.calls A109 c109 ys Am cm ys true _ (Kd.R_reads' HO.out).2.2 (Kd.R_reads' HO.out).2.1 HQ.out HQC.out (by unfold gazetteerref01_Same.f; simp)).mono ?_
          rintro e w114 ⟨rfl, ⟨nd, rfl⟩⟩
          refine ⟨_, rfl, ?_⟩
          refine hK.out _ _ ?_
          clear hK K
          refine norm_ (a' := ?_) ?hn33 ?_; (case hn33 => (show Act.put _ (some 114) _ = _; simp only [Act.put, List.setIfInBounds_toArray, List.set_cons_zero, List.set_cons_succ, i64_w, i32_w]; rfl))
          refine pure_ (i := 7) (N := some 2) (v := ?_) (a' := ?_) #[true, true, true, true, true, true, true, true] rfl rfl (by kernel_rfl) (fun _ _ _ h => h) (Or.inl ⟨by rfl, ?hy34⟩) ?ha34 ?_; (case hy34 => (intro w'; go_simp; with_reducible rfl)); (case ha34 => (simp only [Act.put, List.setIfInBounds_toArray, List.set_cons_zero, List.set_cons_succ, i64_w, i32_w]; rfl))
          refine done_ (by kernel_rfl) ?_
          go_wp2
          go_ret
          exact ⟨rfl, V1.b (by first | (with_reducible exact HV.out) | ((with_reducible repeat (first | apply V1.alloc | apply V1.drewN | apply V1.drew)); exact HV.out))⟩
      · have k1 := decide_eq_false hlt
        have k2 : decide ((j : Int) < list.length) = false := decide_eq_false (by omega)
        obtain ⟨Am, cm, hq0, hqc, hqC⟩ := RN.cell (V1.w2 HV.out)
        have HQC := Aside0.mk hqc
        have HQ := Aside0.mk hqC
        clear hqc hqC
        go_upto_region 24 with (fail)
        have n0_ := Aside0.mk (V1.drew HV.out)
        have n1_ := Aside0.mk (Kd.C_drew HQ.out)
        refine start_ (n := 8) (S := fun w' => w'.cell? ⟨g2, 0, none⟩ = some (.slice Am ys.length cm)) (ds := [6]) #[false, false, false, false, false, false, false, false] (by kernel_rfl) rfl rfl hq0 (fun hHeld => ?_)
        clear HV HQ hq0
        have HV := n0_
        have HQ := n1_
        clear n0_ n1_
        generalize wr.drew = wd at HV HQ hHeld ⊢
        refine pure_ (i := 0) (N := some 108) (v := ?_) (a' := ?_) #[true, false, false, false, false, false, false, false] rfl rfl (by kernel_rfl) (fun _ _ _ h => h) (Or.inl ⟨by rfl, ?hy35⟩) ?ha35 ?_; (case hy35 => (intro w'; go_simp; with_reducible rfl)); (case ha35 => (simp only [Act.put, List.setIfInBounds_toArray, List.set_cons_zero, List.set_cons_succ, i64_w, i32_w]; rfl))
        refine pure_ (i := 2) (N := some 110) (v := ?_) (a' := ?_) #[true, false, true, false, false, false, false, false] rfl rfl (by kernel_rfl) (fun _ _ _ h => h) (Or.inl ⟨by rfl, ?hy36⟩) ?ha36 ?_; (case hy36 => (intro w'; go_simp; with_reducible rfl)); (case ha36 => (simp only [Act.put, List.setIfInBounds_toArray, List.set_cons_zero, List.set_cons_succ, i64_w, i32_w]; rfl))
        refine pure_ (i := 3) (N := some 111) (v := ?_) (a' := ?_) #[true, false, true, true, false, false, false, false] rfl rfl (by kernel_rfl) (fun _ _ _ h => h) (Or.inl ⟨by rfl, ?hy37⟩) ?ha37 ?_; (case hy37 => (intro w'; go_simp; with_reducible rfl)); (case ha37 => (simp only [Act.put, List.setIfInBounds_toArray, List.set_cons_zero, List.set_cons_succ, i64_w, i32_w]; rfl))
        refine pure_ (i := 4) (N := some 112) (v := ?_) (a' := ?_) #[true, false, true, true, true, false, false, false] rfl rfl (by kernel_rfl) (fun _ _ _ h => h) (Or.inl ⟨by rfl, ?hy38⟩) ?ha38 ?_; (case hy38 => (intro w'; go_simp; with_reducible rfl)); (case ha38 => (simp only [Act.put, List.setIfInBounds_toArray, List.set_cons_zero, List.set_cons_succ, i64_w, i32_w]; rfl))
        refine take_ (i := 5) (N := some 113) (v := ?_) (a' := ?_) #[true, false, true, true, true, true, false, false] rfl rfl (by kernel_rfl) (fun _ _ _ h => h) (Or.inl ⟨by rfl, ?hy39⟩) hHeld ?ha39 ?_; (case hy39 => (rintro w' s0; go_simp; with_reducible rfl)); (case ha39 => (simp only [Act.put, List.setIfInBounds_toArray, List.set_cons_zero, List.set_cons_succ, i64_w, i32_w]; rfl))
        refine one_ (i := 1) (N := some 109) #[true, true, true, true, true, true, false, false] rfl rfl (by kernel_rfl) (by decide) (fun K hK => ?_)
        refine goes_ Try.func33 (by kernel_rfl) rfl #[.pointer (some ⟨w.heap.size + 1, 0, none⟩)] (by rfl) rfl rfl (by simp [Act.eval]) ?_
        refine (wn_Bytes _ _ F ys m _ (V1.w1 HV.out) (by have := HYL.out; omega)).mono ?_
        rintro e w109 ⟨v109, rfl, ho, hb⟩
        have HO := Aside0.mk ho
        have n0_ := Aside0.mk (V1.below HV.out hb)
        have n1_ := Aside0.mk (Kd.C_below HQ.out hb)
        have hh := pw_cell_below hb hHeld
        clear HV HQ ho hb
        have HV := n0_
        have HQ := n1_
        clear n0_ n1_ hHeld
        obtain ⟨A109, c109, e109⟩ := Kd.R_slice HO.out
        subst e109
        refine ⟨_, rfl, ?_⟩
        refine hK.out _ _ hh (fun hHeld => ?_)
        clear hK K hh
        refine norm_ (a' := ?_) ?hn41 ?_; (case hn41 => (show Act.put _ (some 109) _ = _; simp only [Act.put, List.setIfInBounds_toArray, List.set_cons_zero, List.set_cons_succ, i64_w, i32_w]; rfl))
        refine last_ (i := 6) (N := some 114) #[true, true, true, true, true, true, true, false] rfl rfl (by kernel_rfl) (by decide) (fun K hK => ?_)
        refine goes_ Try.func16 (by kernel_rfl) rfl #[.slice A109 ys.length c109, .slice Am ys.length cm] (by rfl) rfl rfl (by simp [Act.eval]) ?_
        refine (gazetteerref01_Same.calls A109 c109 ys Am cm ys true _ (Kd.R_reads' HO.out).2.2 (Kd.R_reads' HO.out).2.1 HQ.out HQC.out (by unfold gazetteerref01_Same.f; simp)).mono ?_
        rintro e w114 ⟨rfl, ⟨nd, rfl⟩⟩
        refine ⟨_, rfl, ?_⟩
        refine hK.out _ _ ?_
        clear hK K
        refine norm_ (a' := ?_) ?hn43 ?_; (case hn43 => (show Act.put _ (some 114) _ = _; simp only [Act.put, List.setIfInBounds_toArray, List.set_cons_zero, List.set_cons_succ, i64_w, i32_w]; rfl))
        refine pure_ (i := 7) (N := some 2) (v := ?_) (a' := ?_) #[true, true, true, true, true, true, true, true] rfl rfl (by kernel_rfl) (fun _ _ _ h => h) (Or.inl ⟨by rfl, ?hy44⟩) ?ha44 ?_; (case hy44 => (intro w'; go_simp; with_reducible rfl)); (case ha44 => (simp only [Act.put, List.setIfInBounds_toArray, List.set_cons_zero, List.set_cons_succ, i64_w, i32_w]; rfl))
        refine done_ (by kernel_rfl) ?_
        go_wp2
        go_ret
        exact ⟨rfl, V1.b (by first | (with_reducible exact HV.out) | ((with_reducible repeat (first | apply V1.alloc | apply V1.drewN | apply V1.drew)); exact HV.out))⟩
end Go.Proofs.Ytahnncccdlblgaa.WnameWrites
