/- What is handed in to num.Put is not changed, spare room too, and not shared: the walk of the statement's own text. Conditions: none. -/
import Derived.Test.YtaappkompmdjnaaHNumPutsx1
import Derived.Below
import Derived.Deep.Draws
import Derived.Deep.AppendLies
import Derived.Maps.AppendAt
import Derived.OwnWalk
import Derived.Laws.BytesArg
import Derived.Laws.MakeOwn
import Derived.Laws.OwnMore
import Derived.Deep.OwnRows
import Derived.Tactics
import Derived.Lib.ConvBytes
import Derived.Laws.Slices
import Derived.WalkKit
import Derived.KernelRfl
import Derived.RowKit3
import Derived.Deep.LoopGhost
import Derived.Deep.QuietTactic
import Derived.BigQuiet
import Derived.WideLaws
import Derived.Deep.DeepCutAuto
import Derived.Deep.CutBlock
import Derived.Deep.RegionHeld3
import Derived.Laws.Rows
import Derived.Lib.AppendStr
import Derived.ArgAppend
import Derived.Laws.IdiomCopy
import Derived.OrdersHeld
import Derived.Laws.BitsLemmas
import Derived.RowKit
namespace Go.Proofs.Ytaappkompmdjnaa.NumKeeps
open Go.Proofs.Ytaappkompmdjnaa.G
open Go.RowKit Go.Proofs.YtaappkompmdjnaaW.PrintWords Go.Proofs.YtaappkompmdjnaaW.PrintLast Go.Proofs.YtaappkompmdjnaaW.PrintMore Go.Proofs.Ytaappkompmdjnaa.Plain
attribute [local go_sem] max2_int min2_int max_two min_two max_three min_three max_four min_four
set_option linter.unusedVariables false
set_option linter.unusedSimpArgs false
theorem answers_yes : HNumPuts.gazetteerlaw01_answers.f = some true := by decide +kernel
theorem put_some (l : List Int) (n s : Int) (h : l.length ≤ 70368744177664) (hs : s ≤ 7) : ∃ r, num_Put.f l n s = some r ∧ r.length ≤ l.length + 7 := by
  refine ⟨_, by unfold num_Put.f; rw [if_pos h], ?_⟩
  split
  · rw [List.length_append, be_length]; omega
  · omega

set_option maxHeartbeats 1000000 in
theorem large (A0 : Option Addr) (c0 : Nat) (l0 : List Int) (a1 : Int) (w : World) (hm : l0.length ≤ 9223372036854775807) (hl : 5000 < (l0.length : Int)) :
    Calls Try.prog 6 #[.slice A0 l0.length c0, .int .i64 a1] w fun e w' => e = .returned (.bool true) ∧ Below w.heap.size w w' := by
  have HB := Aside0.mk (Below.refl w.heap.size w)
  have hb := decide_eq_true hl
  clear hl
  go_enter Try.func6, Try.ntmps6
  go_wp2_with (go_at_call 18; (with_reducible refine (HNumPuts.gazetteerlaw01_answers.calls true _ answers_yes).mono ?_); rintro e w1 ⟨rfl, hb⟩; have n0_ := Aside0.mk (below_step (by repeat (first | (with_reducible first | exact HB.out | apply below_alloc | apply pw_below_drewN | apply below_drew1) | exact HB.out)) hb); clear HB; have HB := n0_; clear n0_; clear hb)
  go_ret
  exact ⟨rfl, (by repeat (first | (with_reducible first | exact HB.out | apply below_alloc | apply pw_below_drewN | apply below_drew1) | exact HB.out))⟩

/-- Bytes of the program's own, and what may be known of them: the long list's row, apart from the answer's. -/
def Held (w0 w : World) (v5 v6 : Value) (y5 : List Int) (n6 : Nat) : Prop :=
  Kd.R (Kd.int .u8) 5 w w0.heap.size (fun k => some k ≠ v6.ownBlock) v5 y5 ∧ ∃ x6, x6.length = n6 ∧ Kd.R (Kd.int .u8) 5 w w0.heap.size (fun k => some k ≠ v5.ownBlock) v6 x6

set_option maxHeartbeats 2000000 in
theorem small (A0 : Option Addr) (c0 : Nat) (l0 : List Int) (a1 : Int) (w : World) (hr0 : Kd.C (Kd.int .u8) w A0 l0.length l0) (hc0 : l0.length ≤ c0) (hl : (l0.length : Int) ≤ 5000) :
    Calls Try.prog 6 #[.slice A0 l0.length c0, .int .i64 a1] w fun e w' => e = .returned (.bool true) ∧ Below w.heap.size w w' := by
  have HB := Aside0.mk (Below.refl w.heap.size w)
  have HR0 := Aside0.mk hr0
  have HC0 := Aside0.mk hc0
  have hb : decide (5000 < (l0.length : Int)) = false := decide_eq_false (by omega)
  have hl2 : l0.length ≤ 5000 := by omega
  clear hr0 hc0
  obtain ⟨r6, hput, hr6⟩ := put_some l0 a1 2 (by omega) (by decide)
  have Hput := Aside0.mk hput
  clear hput
  obtain ⟨y3, hy3⟩ : ∃ y, y = l0 ++ [7, 8, 9] := ⟨_, rfl⟩
  have HY := Aside0.mk hy3
  have hylen : y3.length = l0.length + 3 := by rw [hy3]; simp
  have HYL := Aside0.mk hylen
  clear hy3
  have HT := Aside0.mk (show y3.take l0.length = l0 by rw [HY.out, List.take_left])
  have HL := Aside0.mk hl2
  obtain ⟨n6, hn6⟩ : ∃ n, n = r6.length := ⟨_, rfl⟩
  have HN6 := Aside0.mk hn6
  have hn62 : n6 ≤ 5007 := by omega
  clear hn6 hr6
  obtain ⟨i0, hi0, _, hsz0, _⟩ := info_parts infoB
  have HI := Aside0.mk hi0
  clear hi0 hsz0
  go_enter Try.func6, Try.ntmps6
  go_wp2_with (first | (go_at_call 18; (with_reducible refine (HNumPuts.gazetteerlaw01_answers.calls true _ answers_yes).mono ?_); rintro e w1 ⟨rfl, hb⟩; have n0_ := Aside0.mk (below_step (by repeat (first | (with_reducible first | exact HB.out | apply below_alloc | apply pw_below_drewN | apply below_drew1) | exact HB.out)) hb); clear HB; have HB := n0_; clear n0_; clear hb) | ((with_reducible refine gate_dst (N := 16) rfl ?_); refine Kd.R_lit (Kd.int .u8) _ 5 ?hg (N := 16) ?hd (xs := ([] : List Int)) (inner := []) (ok := fun _ => True) (okp := fun _ => True) ?hr ?hp (fun _ hk => hk) trivial (Below.refl _ _) (Nat.le_refl _) (by simp) ?_; (case hd => rfl); (case hg => rfl); (case hr => first | (go_simp; done) | (go_simp; rfl)); (case hp => exact (Reps.none _ _)); intro v1 w1 ho hb _ _; have HO1 := Aside0.mk (Kd.R_lower ho (below_size (by repeat (first | (with_reducible first | exact HB.out | apply below_alloc | apply pw_below_drewN | apply below_drew1) | exact HB.out)))); have n0_ := Aside0.mk (below_step (by repeat (first | (with_reducible first | exact HB.out | apply below_alloc | apply pw_below_drewN | apply below_drew1) | exact HB.out)) hb); clear HB; have HB := n0_; clear n0_; clear hb ho) | ((with_reducible refine gate_builtin (b := .append) (xs := #[.tmp 16, .tmp 17]) rfl ?_); at_builtin; refine Kd.R_append_rows (Kd.int .u8) (w0 := w) w.heap.size rfl (.tmp 16) (.tmp 17) 28 5 (.int .u8 0) 1 rfl Try.underlying28 infoB rfl (by decide) (by omega) v1 [] l0 _ _ _ (fun _ => True) (fun _ => False) rfl rfl ?aO ?aR (fun _ _ h => h) (fun _ h => h.elim) (fun _ _ => trivial) ?aB ?aS ?aL ?_; (case aR => exact (by repeat (first | exact (Kd.C_below HR0.out HB.out) | (with_reducible refine Kd.C_alloc ?_ _) | (with_reducible refine Kd.C_drewN ?_ _) | (with_reducible refine Kd.C_drew ?_)))); (case aB => exact (by repeat (first | (with_reducible first | exact HB.out | apply below_alloc | apply pw_below_drewN | apply below_drew1) | exact HB.out))); (case aO => exact (by (with_reducible repeat (first | apply Kd.R_alloc | apply Kd.R_drewN | apply Kd.R_drew)); exact HO1.out)); (case aS => exact (below_size (by repeat (first | (with_reducible first | exact HB.out | apply below_alloc | apply pw_below_drewN | apply below_drew1) | exact HB.out)))); (case aL => have := HL.out; simp; omega); intro v2 w2 ho hb hg hat; clear HB HO1; have HB := Aside0.mk hb; have HO2 := Aside0.mk ho; clear ho hb hg hat) | ((with_reducible refine gate_dst (N := 19) rfl ?_); refine Kd.R_lit (Kd.int .u8) _ 5 ?hg (N := 19) ?hd (xs := ([7, 8, 9] : List Int)) (inner := [.int .u8 7, .int .u8 8, .int .u8 9]) (ok := fun _ => True) (okp := fun _ => True) ?hr ?hp (fun _ hk => hk) trivial (Below.refl _ _) (Nat.le_refl _) (by simp) ?_; (case hd => rfl); (case hg => rfl); (case hr => first | (go_simp; done) | (go_simp; rfl)); (case hp => exact (Reps.one (show Kd.M (Kd.int .u8) _ _ _ 7 [.int .u8 7] from rfl) (Reps.one (show Kd.M (Kd.int .u8) _ _ _ 8 [.int .u8 8] from rfl) (Reps.one (show Kd.M (Kd.int .u8) _ _ _ 9 [.int .u8 9] from rfl) (Reps.none _ _))))); intro v3 w3 ho hb hg _; have n2_ := Aside0.mk (Kd.R_elder' (by (with_reducible repeat (first | apply Kd.R_alloc | apply Kd.R_drewN | apply Kd.R_drew)); exact HO2.out) (Kd.R_base ho) hb); have n3_ := Aside0.mk (Kd.R_lower ho (below_size (by repeat (first | (with_reducible first | exact HB.out | apply below_alloc | apply pw_below_drewN | apply below_drew1) | exact HB.out)))); have n0_ := Aside0.mk (below_step (by repeat (first | (with_reducible first | exact HB.out | apply below_alloc | apply pw_below_drewN | apply below_drew1) | exact HB.out)) hb); clear HB; have HB := n0_; clear n0_; clear HO2 hb ho; have HO2 := n2_; have HO3 := n3_; clear n2_ n3_; obtain ⟨A3, c3, e3⟩ := Kd.R_slice HO3.out; subst e3) | ((with_reducible refine gate_builtin (b := .append) (xs := #[.tmp 18, .tmp 19]) rfl ?_); at_builtin; refine Kd.R_append_rows (Kd.int .u8) (w0 := w) w.heap.size rfl (.tmp 18) (.tmp 19) 28 5 (.int .u8 0) 1 rfl Try.underlying28 infoB rfl (by decide) (by omega) v2 ([] ++ l0) [7, 8, 9] _ _ _ (fun _ => True) (fun _ => False) rfl rfl ?aO ?aR (fun _ _ h => h) (fun _ h => h.elim) (fun _ _ => trivial) ?aB ?aS ?aL ?_; (case aR => exact (by repeat (first | exact (Kd.R_reads' HO3.out).2.2 | (with_reducible refine Kd.C_alloc ?_ _) | (with_reducible refine Kd.C_drewN ?_ _) | (with_reducible refine Kd.C_drew ?_)))); (case aB => exact (by repeat (first | (with_reducible first | exact HB.out | apply below_alloc | apply pw_below_drewN | apply below_drew1) | exact HB.out))); (case aO => exact (by (with_reducible repeat (first | apply Kd.R_alloc | apply Kd.R_drewN | apply Kd.R_drew)); exact (Kd.R_mono HO2.out (fun _ _ => trivial)))); (case aS => exact (below_size (by repeat (first | (with_reducible first | exact HB.out | apply below_alloc | apply pw_below_drewN | apply below_drew1) | exact HB.out)))); (case aL => have := HL.out; simp; omega); intro v4 w4 ho hb hg hat; clear HB HO2 HO3; have HB := Aside0.mk hb; rw [List.nil_append, ← HY.out] at ho; have HO4 := Aside0.mk ho; clear ho hb hg hat; obtain ⟨A4, c4, e4⟩ := Kd.R_slice HO4.out; rw [hylen] at e4; subst e4; have hroom := (Kd.R_reads' HO4.out).2.1; have hcut := cut_to (P := Try.prog) 28 5 .i64 Try.underlying28 HI.out A4 (l0.length + 3) c4 (l0.length : Int) (by omega) (by omega) hroom; simp only [Int.toNat_natCast] at hcut; have HRM := Aside0.mk hroom; clear hroom) | (go_at_call 22; (with_reducible refine (num_Put.calls A4 c4 l0 a1 2 r6 _ ?s1 ?s2 Hput.out).mono ?_); (case s1 => have h := Kd.C_take (m := l0.length) (Kd.R_reads' HO4.out).2.2 (by omega); rw [HT.out] at h; exact h); (case s2 => have := HRM.out; omega); rintro e w5 ⟨v5, rfl, ho, hb⟩; have n4_ := Aside0.mk (Kd.R_elder' (by (with_reducible repeat (first | apply Kd.R_alloc | apply Kd.R_drewN | apply Kd.R_drew)); exact HO4.out) (Kd.R_base ho) hb); have n5_ := Aside0.mk (Kd.R_lower (Kd.R_new' ho (Kd.R_lt (by (with_reducible repeat (first | apply Kd.R_alloc | apply Kd.R_drewN | apply Kd.R_drew)); exact HO4.out))) (below_size (by repeat (first | (with_reducible first | exact HB.out | apply below_alloc | apply pw_below_drewN | apply below_drew1) | exact HB.out)))); have n0_ := Aside0.mk (below_step (by repeat (first | (with_reducible first | exact HB.out | apply below_alloc | apply pw_below_drewN | apply below_drew1) | exact HB.out)) hb); clear HB; have HB := n0_; clear n0_; clear HO4 hb ho; have HO4 := n4_; have HO5 := n5_; clear n4_ n5_; obtain ⟨A5, c5, e5⟩ := Kd.R_slice HO5.out; rw [← HN6.out] at e5; subst e5))
  go_loopw [7] (fun i wr => ∃ j : Nat, j ≤ n6 ∧ i = .int .i64 j ∧ Aside0 (Held w wr (.slice A4 (l0.length + 3) c4) (.slice A5 n6 c5) y3 n6) ∧ Aside0 (Below w.heap.size w wr)) (fun i _ => n6 - (intOf i).toNat)
  case atStart => exact ⟨0, Nat.zero_le _, rfl, ⟨Kd.R_mono HO4.out (fun _ h => h.2), r6, HN6.out.symm, Kd.R_mono HO5.out (fun _ h => h.2)⟩, ⟨HB.out⟩⟩
  case round =>
    clear HB HO4 HO5
    obtain ⟨j, hj, rfl, HH, HB⟩ := hrel
    obtain ⟨h5, x6, hx6, h6⟩ := HH.out
    clear HH
    by_cases hlt : j < n6
    · obtain ⟨g6, cap6, e6, gb6, _, _⟩ := Kd.R_form h6 (by omega)
      injection e6 with ea en ec
      subst ea ec
      clear en
      obtain ⟨hx, hf⟩ := Kd.R_celln 0 h6 (j : Int) (by omega) (by omega)
      obtain ⟨q, hq⟩ : ∃ q, rdOf 0 x6 (j : Int) = q := ⟨_, rfl⟩
      rw [hq] at hx
      clear hq
      simp only [Int.toNat_natCast] at hx hf
      have hp := Kd.R_putg h6 (j : Int) ((q + 1) % 256)
      simp only [Int.toNat_natCast] at hp
      have h5g := Kd.R_after (ok := fun _ => True) (Kd.R_mono h5 (fun _ hk => ⟨trivial, hk⟩)) hp.2 (.inl rfl)
      have HP := Aside0.mk hp
      have H5 := Aside0.mk h5g
      have GB := Aside0.mk gb6
      clear hp h5 h6 h5g gb6
      go_wp2
      go_roundw
      case rel =>
        refine ⟨j + 1, by omega, by go_num, ⟨Kd.R_mono H5.out (fun _ h => h.2), _, ?_, HP.out.1⟩, ⟨below_set HB.out GB.out⟩⟩
        rw [List.length_set]; exact hx6
      case measure => simp [intOf]; omega
    · obtain rfl : j = n6 := by omega
      clear hlt hj h6
      have h5c := (Kd.R_reads' h5).2.2
      have hroom := (Kd.R_reads' h5).2.1
      obtain ⟨ad, rfl, hx7⟩ := Kd.at_int h5c (l0.length : Int) (by omega) (by omega)
      obtain ⟨ad2, e2, hx8⟩ := Kd.at_int h5c ((l0.length : Int) + 1) (by omega) (by omega)
      cases e2
      have r7 : rd y3 (l0.length : Int) = 7 := by rw [HY.out]; simp [rd, List.getD_eq_getElem?_getD]
      have r8 : rd y3 ((l0.length : Int) + 1) = 8 := by rw [HY.out]; simp [rd, List.getD_eq_getElem?_getD, show ((l0.length : Int) + 1).toNat = l0.length + 1 by omega]
      rw [r7] at hx7
      rw [r8] at hx8
      simp only [Int.toNat_natCast, show ((l0.length : Int) + 1).toNat = l0.length + 1 by omega] at hx7 hx8
      unfold Addr.add at hx8
      rw [if_neg (by omega)] at hx8
      have h5t := Kd.C_take (m := l0.length) h5c (by omega)
      rw [HT.out] at h5t
      have H5T := Aside0.mk h5t
      clear h5 h5c h5t r7 r8
      go_wp2_with (go_at_call 21; (with_reducible refine (gazetteerref01_Same.calls _ _ l0 _ _ l0 true _ ?s1 ?s2 ?s3 ?s4 ?s5).mono ?_); (case s1 => exact H5T.out); (case s2 => omega); (case s3 => exact Kd.C_below HR0.out HB.out); (case s4 => exact HC0.out); (case s5 => unfold gazetteerref01_Same.f; simp); rintro e w' ⟨rfl, ⟨nd, rfl⟩⟩)
      go_ret
      exact ⟨rfl, (by repeat (first | (with_reducible first | exact HB.out | apply below_alloc | apply pw_below_drewN | apply below_drew1) | exact HB.out))⟩

theorem walk (a0 : Option Addr) (len0 cap0 : Nat) (z0 : List Int) (a1 : Int) (w : World) (w0 : (a0 = none ∧ len0 = 0 ∧ cap0 = 0 ∧ z0 = []) ∨ ∃ x, a0 = some x ∧ len0 ≤ cap0 ∧ cap0 ≤ maxLen ∧ z0.length = cap0 ∧ (∀ i, i < z0.length → w.cell? (x.add i) = some (.int .u8 (z0.getD i 0))) ∧ ∀ n ∈ z0, (Lit.int .u8 n).wf = true) (y0 : len0 * 1 ≤ 140737488351232) (w1 : (Lit.int .i64 a1).wf = true) :
    Calls Try.prog 6 #[.slice a0 len0 cap0, .int .i64 a1] w fun e w' => e = .returned (.bool true) ∧ Below w.heap.size w w' := by
  obtain ⟨l0, rfl, hr0, hm0, hw0, hc0⟩ := ReadsInt.ofRowC w0
  by_cases hl : 5000 < (l0.length : Int)
  · exact large a0 cap0 l0 a1 w (by omega) hl
  · exact small a0 cap0 l0 a1 w (Kd.C_of_reads (d := (0 : Int)) (h1 := fun _ => rfl) hr0) hc0 (by omega)

end Go.Proofs.Ytaappkompmdjnaa.NumKeeps
