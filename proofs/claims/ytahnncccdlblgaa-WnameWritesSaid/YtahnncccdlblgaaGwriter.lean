/- What slices.Clone and the Writer's Len and Bytes do. Conditions: fewer bytes than may be appended to. -/
import Derived.Test.YtahnncccdlblgaaGbytes
import Derived.Maps.OwnSet
import Derived.Carry
import Derived.Below
import Derived.Deep.Draws
import Derived.Deep.AppendLies
import Derived.Maps.AppendAt
import Derived.OwnWalk
import Derived.Laws.BytesArg
import Derived.Laws.MakeOwn
import Derived.Laws.OwnMore
import Derived.Deep.OwnRows
import Derived.Tactics
import Derived.Lib.ConvBytes
import Derived.Laws.Slices
import Derived.WalkKit
import Derived.KernelRfl
import Derived.RowKit3
import Derived.Deep.LoopGhost
import Derived.Deep.QuietTactic
import Derived.BigQuiet
import Derived.WideLaws
import Derived.Deep.DeepCutAuto
import Derived.Deep.CutBlock
import Derived.Deep.RegionHeld3
import Derived.Laws.Rows
import Derived.Lib.AppendStr
import Derived.ArgAppend
import Derived.Laws.IdiomCopy
import Derived.OrdersHeld
import Derived.Laws.BitsLemmas
import Derived.RowKit
namespace Go.Proofs.Ytahnncccdlblgaa.G
open Go.RowKit Go.Proofs.YtahnncccdlblgaaW.PrintWords Go.Proofs.YtahnncccdlblgaaW.PrintLast Go.Proofs.YtahnncccdlblgaaW.PrintMore Go.Proofs.Ytahnncccdlblgaa.Plain
attribute [local go_sem] max2_int min2_int max_two min_two max_three min_three max_four min_four
set_option linter.unusedVariables false
set_option linter.unusedSimpArgs false
/-! ### slices.Clone -/
def slices_Clone.f (l : List Int) : Option (List Int) := if l.length < 140737488355328 then some l else none
theorem slices_Clone.calls (A0 : Option Addr) (c0 : Nat) (l0 : List Int) (r : List Int) (w : World) (hr0 : Kd.C (Kd.int .u8) w A0 l0.length l0) (hc0 : l0.length ≤ c0) (h : slices_Clone.f l0 = some r) :
    Calls Try.prog 48 #[.slice A0 l0.length c0] w fun e w' => ∃ v0_ : Value, e = .returned (v0_) ∧ Kd.R (Kd.int .u8) 5 w' w.heap.size (fun _ => True) v0_ r ∧ Below w.heap.size w w' := by
  have HR0 := Aside0.mk hr0
  have HC0 := Aside0.mk hc0
  clear hc0
  have HB := Aside0.mk (Below.refl w.heap.size w)
  unfold slices_Clone.f at h
  have hl : l0.length < 140737488355328 := by
    by_cases hl : l0.length < 140737488355328
    · exact hl
    · rw [if_neg hl] at h; cases h
  rw [if_pos hl] at h
  obtain rfl := Option.some.inj h
  clear h
  cases A0 with
  | none =>
    have h0 : l0 = [] := by
      cases l0 with
      | nil => rfl
      | cons x l => obtain ⟨ad, e, _⟩ := hr0.2.2 (by simp); cases e
    subst h0
    clear hr0
    have hn := fun (w : World) (a : Option Addr) (n c : Nat) => Lib.run_eql_slice_nil (P := Try.prog) w 24 5 a n c 0 0 Try.underlying24
    go_enter Try.func48, Try.ntmps48
    go_wp2
    go_ret
    exact ⟨_, rfl, Kd.R_nil _ _ _ _ _, (by repeat (first | (with_reducible first | exact HB.out | apply below_alloc | apply pw_below_drewN | apply below_drew1) | exact HB.out))⟩
  | some ad =>
    clear hr0
    have hn := fun (w : World) (a : Option Addr) (n c : Nat) => Lib.run_eql_slice_nil (P := Try.prog) w 24 5 a n c 0 0 Try.underlying24
    go_enter Try.func48, Try.ntmps48
    go_wp2_with (first | ((with_reducible refine gate_dst (N := 5) rfl ?_); refine Kd.R_lit (Kd.int .u8) _ 5 ?hg (N := 5) ?hd (xs := ([] : List Int)) (inner := []) (ok := fun _ => True) (okp := fun _ => True) ?hr ?hp (fun _ hk => hk) trivial (Below.refl _ _) (Nat.le_refl _) (by simp) ?_; (case hd => rfl); (case hg => rfl); (case hr => first | (go_simp; done) | (go_simp; rfl)); (case hp => exact (Reps.none _ _)); intro v1 w1 ho hb _ _; have HO1 := Aside0.mk (Kd.R_lower ho (below_size (by repeat (first | (with_reducible first | exact HB.out | apply below_alloc | apply pw_below_drewN | apply below_drew1) | exact HB.out)))); have n0_ := Aside0.mk (below_step (by repeat (first | (with_reducible first | exact HB.out | apply below_alloc | apply pw_below_drewN | apply below_drew1) | exact HB.out)) hb); clear HB; have HB := n0_; clear n0_; clear hb ho) | ((with_reducible refine gate_builtin (b := .append) (xs := #[.tmp 5, .tmp 6]) rfl ?_); at_builtin; refine Kd.R_append_rows (Kd.int .u8) (w0 := w) w.heap.size rfl (.tmp 5) (.tmp 6) 24 5 (.int .u8 0) 1 rfl Try.underlying24 infoB rfl (by decide) (by omega) v1 [] l0 _ _ _ (fun _ => True) (fun _ => False) rfl rfl ?aO ?aR (fun _ _ h => h) (fun _ h => h.elim) (fun _ _ => trivial) ?aB ?aS ?aL ?_; (case aR => exact (by repeat (first | exact (Kd.C_below HR0.out HB.out) | (with_reducible refine Kd.C_alloc ?_ _) | (with_reducible refine Kd.C_drewN ?_ _) | (with_reducible refine Kd.C_drew ?_)))); (case aB => exact (by repeat (first | (with_reducible first | exact HB.out | apply below_alloc | apply pw_below_drewN | apply below_drew1) | exact HB.out))); (case aO => exact (by (with_reducible repeat (first | apply Kd.R_alloc | apply Kd.R_drewN | apply Kd.R_drew)); exact HO1.out)); (case aS => exact (below_size (by repeat (first | (with_reducible first | exact HB.out | apply below_alloc | apply pw_below_drewN | apply below_drew1) | exact HB.out)))); (case aL => simp; omega); intro v2 w2 ho hb hg hat; clear HB HO1; have HB := Aside0.mk hb; have HO2 := Aside0.mk ho; clear ho hb hg hat))
    go_ret
    exact ⟨_, rfl, (by (with_reducible repeat (first | apply Kd.R_alloc | apply Kd.R_drewN | apply Kd.R_drew)); exact HO2.out), (by repeat (first | (with_reducible first | exact HB.out | apply below_alloc | apply pw_below_drewN | apply below_drew1) | exact HB.out))⟩

/-! ### the Writer: Len -/
theorem wname_Len_nil (w : World) : Calls Try.prog 32 #[.pointer none] w fun e w' => e = .returned (.int .i64 0) ∧ w = w' := by
  go_enter Try.func32, Try.ntmps32
  go_wp2
  go_ret
  exact ⟨rfl, rfl⟩
theorem wname_Len_some (g : Nat) (A : Option Addr) (n c : Nat) (w : World) (h : w.cell? ⟨g, 0, none⟩ = some (.slice A n c)) : Calls Try.prog 32 #[.pointer (some ⟨g, 0, none⟩)] w fun e w' => e = .returned (.int .i64 n) ∧ w = w' := by
  go_enter Try.func32, Try.ntmps32
  go_wp2
  go_ret
  exact ⟨rfl, rfl⟩
/-! ### the Writer: Bytes -/
theorem wname_Bytes_nil (w : World) : Calls Try.prog 33 #[.pointer none] w fun e w' => e = .returned (.slice none 0 0) ∧ w = w' := by
  go_enter Try.func33, Try.ntmps33
  go_wp2
  go_ret
  exact ⟨rfl, rfl⟩
theorem wname_Bytes_some (g : Nat) (A : Option Addr) (c : Nat) (ys : List Int) (w : World) (h : w.cell? ⟨g, 0, none⟩ = some (.slice A ys.length c)) (hr : Kd.C (Kd.int .u8) w A ys.length ys) (hc : ys.length ≤ c) (hl : ys.length < 140737488355328) :
    Calls Try.prog 33 #[.pointer (some ⟨g, 0, none⟩)] w fun e w' => ∃ v0_ : Value, e = .returned v0_ ∧ Kd.R (Kd.int .u8) 5 w' w.heap.size (fun _ => True) v0_ ys ∧ Below w.heap.size w w' := by
  have HR := Aside0.mk hr
  have HC := Aside0.mk hc
  have HB := Aside0.mk (Below.refl w.heap.size w)
  have HF := Aside0.mk (show slices_Clone.f ys = some ys by unfold slices_Clone.f; rw [if_pos hl])
  clear hr hc hl
  go_enter Try.func33, Try.ntmps33
  go_wp2_with (go_at_call 48; (with_reducible refine (slices_Clone.calls A c ys ys _ ?s1 ?s2 HF.out).mono ?_); (case s1 => exact (by repeat (first | exact (Kd.C_below HR.out HB.out) | (with_reducible refine Kd.C_alloc ?_ _) | (with_reducible refine Kd.C_drewN ?_ _) | (with_reducible refine Kd.C_drew ?_)))); (case s2 => exact HC.out); rintro e w2 ⟨v2, rfl, ho, hb⟩; have n1_ := Aside0.mk (Kd.R_lower ho (below_size (by repeat (first | (with_reducible first | exact HB.out | apply below_alloc | apply pw_below_drewN | apply below_drew1) | exact HB.out)))); have n0_ := Aside0.mk (below_step (by repeat (first | (with_reducible first | exact HB.out | apply below_alloc | apply pw_below_drewN | apply below_drew1) | exact HB.out)) hb); clear HB; have HB := n0_; clear n0_; clear ho hb; have HO := n1_; clear n1_)
  go_ret
  exact ⟨_, rfl, (by (with_reducible repeat (first | apply Kd.R_alloc | apply Kd.R_drewN | apply Kd.R_drew)); exact HO.out), (by repeat (first | (with_reducible first | exact HB.out | apply below_alloc | apply pw_below_drewN | apply below_drew1) | exact HB.out))⟩
/-! ### the Writer: New -/
theorem wname_New_walk (w : World) : Calls Try.prog 23 #[] w fun e w' => e = .returned (.pointer (some ⟨w.heap.size + 1, 0, none⟩)) ∧ w' = (w.alloc (.map #[] 0)).alloc (.cells #[.slice none 0 0, .map (some w.heap.size)] 82) := by
  have hm := fun (w : World) => run_makeMap (P := Try.prog) 80 w
  go_enter Try.func23, Try.ntmps23
  go_wp2
  go_ret
  exact ⟨rfl, rfl⟩
/-! ### the Writer: Raw -/
theorem wname_Raw_nil (A : Option Addr) (n c : Nat) (w : World) : Calls Try.prog 25 #[.pointer none, .slice A n c] w fun e w' => e = .returned (.tuple #[]) ∧ w = w' := by
  go_enter Try.func25, Try.ntmps25
  go_wp2
  go_end0
  exact ⟨rfl, rfl⟩
theorem wname_Raw_some (base g : Nat) (A : Option Addr) (c : Nat) (ys : List Int) (m : Value) (B : Option Addr) (cb : Nat) (zs : List Int) (w0 w : World) (hg : w.heap[g]? = some (.cells #[.slice A ys.length c, m] 82 (0, 0))) (hge : base ≤ g)
    (hr : Kd.R (Kd.int .u8) 5 w base (fun _ => True) (.slice A ys.length c) ys) (hb0 : Below base w0 w) (hbase : base ≤ w.heap.size) (hz : Kd.C (Kd.int .u8) w B zs.length zs) (hl : ys.length + zs.length < 140737488355328) :
    Calls Try.prog 25 #[.pointer (some ⟨g, 0, none⟩), .slice B zs.length cb] w fun e w' => e = .returned (.tuple #[]) ∧ ∃ A' c', w'.heap[g]? = some (.cells #[.slice A' (ys ++ zs).length c', m] 82 (0, 0)) ∧ Kd.R (Kd.int .u8) 5 w' base (fun _ => True) (.slice A' (ys ++ zs).length c') (ys ++ zs) ∧ Below base w0 w' ∧
      ∀ k, k < w.heap.size → k ≠ g → some k ≠ (Value.slice A ys.length c).ownBlock → w'.heap[k]? = w.heap[k]? := by
  have HG := Aside0.mk hg
  have HR := Aside0.mk hr
  have HZ := Aside0.mk hz
  have HB := Aside0.mk hb0
  have h0 := (blk_cell hg 0).trans (show _ = some (Value.slice A ys.length c) from rfl)
  have hk : ∀ k, k < w.heap.size → k ≠ g → some k ≠ (Value.slice A ys.length c).ownBlock → w.heap[k]? = w.heap[k]? := fun _ _ _ _ => rfl
  clear hg hr hz hb0 hk
  go_enter Try.func25, Try.ntmps25
  go_wp2_with ((with_reducible refine gate_builtin (b := .append) (xs := #[.tmp 10, .tmp 11]) rfl ?_); at_builtin; refine Kd.R_append_rows (Kd.int .u8) (w0 := w0) base rfl (.tmp 10) (.tmp 11) 24 5 (.int .u8 0) 1 rfl Try.underlying24 infoB rfl (by decide) (by omega) (.slice A ys.length c) ys zs _ _ _ (fun _ => True) (fun _ => False) rfl rfl HR.out HZ.out (fun _ _ h => h) (fun _ h => h.elim) (fun _ _ => trivial) HB.out hbase (by omega) ?_; intro v2 w2 ho hb hg hat; have HO := Aside0.mk ho; have HB2 := Aside0.mk hb; have HG2 := Aside0.mk (blk_grown HG.out hg (Kd.R_ne HR.out HG.out (by decide))); have HGR := Aside0.mk hg; clear ho hb hg hat; obtain ⟨A2, c2, e2⟩ := Kd.R_slice HO.out; subst e2; have hy0 := (blk_cell HG2.out 0).trans (show _ = some (Value.slice A ys.length c) from rfl); have hy1 := blk_frozen HG2.out 0)
  go_end0
  exact ⟨rfl, A2, c2, blk_put HG2.out 0 _ (by rw [List.length_append]; rfl), Kd.R_set HO.out HG2.out (by decide) 0 _, HB2.out.setCell hge _, fun k h1 h2 h3 => (Go.Deep.blk_setCell_other _ _ _ _ h2).trans (HGR.out.block k h1 h3)⟩
/-! ### the Writer: Num -/
def numB (n s : Int) : List Int := if fits n s = true then be n s.toNat else []
theorem wname_Num_some (base g : Nat) (A : Option Addr) (c : Nat) (ys : List Int) (m : Value) (n s : Int) (w0 w : World) (hg : w.heap[g]? = some (.cells #[.slice A ys.length c, m] 82 (0, 0))) (hge : base ≤ g)
    (hr : Kd.R (Kd.int .u8) 5 w base (fun _ => True) (.slice A ys.length c) ys) (hb0 : Below base w0 w) (hbase : base ≤ w.heap.size) (hl : ys.length < 140737488355000) :
    Calls Try.prog 27 #[.pointer (some ⟨g, 0, none⟩), .int .i64 n, .int .i64 s] w fun e w' => e = .returned (.tuple #[]) ∧ ∃ A' c', w'.heap[g]? = some (.cells #[.slice A' (ys ++ numB n s).length c', m] 82 (0, 0)) ∧ Kd.R (Kd.int .u8) 5 w' base (fun _ => True) (.slice A' (ys ++ numB n s).length c') (ys ++ numB n s) ∧ Below base w0 w' ∧
      ∀ k, k < w.heap.size → k ≠ g → some k ≠ (Value.slice A ys.length c).ownBlock → w'.heap[k]? = w.heap[k]? := by
  have HG := Aside0.mk hg
  have HR := Aside0.mk hr
  have HB := Aside0.mk hb0
  have HP := Aside0.mk (show num_Put.f [] n s = some (numB n s) by unfold num_Put.f numB; rw [if_pos (by simp)]; simp)
  have hn : (numB n s).length ≤ 7 := by
    unfold numB
    split
    · rename_i h; rw [be_length]; have := (fits_iff.1 h).2.1; omega
    · simp
  clear hg hr hb0
  go_enter Try.func27, Try.ntmps27
  go_wp2_with (first | (go_at_call 40; (refine (num_Put.calls none 0 [] n s _ _ (Kd.C_nil _ _) (Nat.le_refl _) HP.out).mono ?_); rintro e w2 ⟨v2, rfl, ho, hb⟩; have HO := Aside0.mk ho; have HBB := Aside0.mk hb; clear ho hb; obtain ⟨A2, c2, e2⟩ := Kd.R_slice HO.out; subst e2) | (go_at_call 25; (with_reducible refine (wname_Raw_some base g A c ys m A2 c2 (numB n s) w0 _ (blk_below HG.out HBB.out) hge (Kd.R_below HR.out HBB.out) (below_then HB.out hbase HBB.out) (Nat.le_trans hbase HBB.out.size) (Kd.R_reads' HO.out).2.2 (by omega)).mono ?_); rintro e w3 ⟨rfl, A3, c3, q1, q2, q3, q4⟩))
  go_end0
  exact ⟨rfl, A3, c3, q1, q2, q3, fun k h1 h2 h3 => (q4 k (Nat.lt_of_lt_of_le h1 HBB.out.size) h2 h3).trans (HBB.out.block k h1)⟩
/-! ### the Writer: Set -/
theorem wname_Set_nil (p n s : Int) (w : World) : Calls Try.prog 35 #[.pointer none, .int .i64 p, .int .i64 n, .int .i64 s] w fun e w' => e = .returned (.int .i64 1) ∧ Drawn0 w w' := by
  go_enter Try.func35, Try.ntmps35
  go_wp2
  go_ret
  exact ⟨rfl, (by repeat (first | exact Drawn0.refl _ | apply Drawn0.step))⟩
/-- What Set refuses. -/
theorem wname_Set_bad (g : Nat) (A : Option Addr) (c : Nat) (m : Nat) (p n s : Int) (w : World) (h : w.cell? ⟨g, 0, none⟩ = some (.slice A m c)) (hm : m ≤ 9223372036854775807) (hs : s ≤ 9223372036854775807) (hbad : fits n s = false ∨ p < 0 ∨ (m : Int) < p ∨ (m : Int) - p < s) :
    Calls Try.prog 35 #[.pointer (some ⟨g, 0, none⟩), .int .i64 p, .int .i64 n, .int .i64 s] w fun e w' => e = .returned (.int .i64 1) ∧ Drawn0 w w' := by
  obtain ⟨b, hb⟩ : ∃ b, fits n s = b := ⟨_, rfl⟩
  have HP := Aside0.mk (show num_Fits.f n s = some b by unfold num_Fits.f; rw [hb])
  rw [hb] at hbad
  clear hb
  cases b with
  | false =>
    clear hbad
    go_enter Try.func35, Try.ntmps35
    go_wp2_with (go_at_call 38; (with_reducible refine (num_Fits.calls n s false _ HP.out).mono ?_); rintro e w' ⟨rfl, ⟨nd, rfl⟩⟩)
    go_ret
    exact ⟨rfl, (by repeat (first | exact Drawn0.refl _ | apply Drawn0.step))⟩
  | true =>
    by_cases h1 : p < 0
    · have k1 := decide_eq_true h1
      clear hbad h1
      go_enter Try.func35, Try.ntmps35
      go_wp2_with (go_at_call 38; (with_reducible refine (num_Fits.calls n s true _ HP.out).mono ?_); rintro e w' ⟨rfl, ⟨nd, rfl⟩⟩)
      go_ret
      exact ⟨rfl, (by repeat (first | exact Drawn0.refl _ | apply Drawn0.step))⟩
    · have k1 := decide_eq_false h1
      by_cases h2 : (m : Int) < p
      · have k2 := decide_eq_true h2
        clear hbad h1 h2
        go_enter Try.func35, Try.ntmps35
        go_wp2_with (go_at_call 38; (with_reducible refine (num_Fits.calls n s true _ HP.out).mono ?_); rintro e w' ⟨rfl, ⟨nd, rfl⟩⟩)
        go_ret
        exact ⟨rfl, (by repeat (first | exact Drawn0.refl _ | apply Drawn0.step))⟩
      · have k2 := decide_eq_false h2
        have h3 : (m : Int) - p < s := by
          rcases hbad with h | h | h | h
          · cases h
          · omega
          · omega
          · exact h
        have k3 := decide_eq_true h3
        have hw : wrap64 ((m : Int) - p) = (m : Int) - p := wrap_id (by omega) (by omega)
        clear hbad
        go_enter Try.func35, Try.ntmps35
        go_wp2_with (go_at_call 38; (with_reducible refine (num_Fits.calls n s true _ HP.out).mono ?_); rintro e w' ⟨rfl, ⟨nd, rfl⟩⟩)
        go_ret
        exact ⟨rfl, (by repeat (first | exact Drawn0.refl _ | apply Drawn0.step))⟩
end Go.Proofs.Ytahnncccdlblgaa.G
