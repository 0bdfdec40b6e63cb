/- What bytes.Clone, bytes.Equal, slices.IndexFunc at pick's test, and pick.Note do: their walks, in closed form. Conditions: fewer bytes and servers than may be appended to; cells that are bytes. -/
import Derived.Test.YtaappkompmdjnaaGnext
import Derived.WalkSpells
import Derived.Below
import Derived.Deep.Draws
import Derived.Deep.AppendLies
import Derived.Maps.AppendAt
import Derived.OwnWalk
import Derived.Laws.BytesArg
import Derived.Laws.MakeOwn
import Derived.Laws.OwnMore
import Derived.Deep.OwnRows
import Derived.Tactics
import Derived.Lib.ConvBytes
import Derived.Laws.Slices
import Derived.WalkKit
import Derived.KernelRfl
import Derived.RowKit3
import Derived.Deep.LoopGhost
import Derived.Deep.QuietTactic
import Derived.BigQuiet
import Derived.WideLaws
import Derived.Deep.DeepCutAuto
import Derived.Deep.CutBlock
import Derived.Deep.RegionHeld3
import Derived.Laws.Rows
import Derived.Lib.AppendStr
import Derived.ArgAppend
import Derived.Laws.IdiomCopy
import Derived.OrdersHeld
import Derived.Laws.BitsLemmas
import Derived.RowKit
namespace Go.Proofs.Ytaappkompmdjnaa.G
open Go.Proofs.Ytaappkompmdjnaa.BPick
open Go.RowKit Go.Proofs.YtaappkompmdjnaaW.PrintWords Go.Proofs.YtaappkompmdjnaaW.PrintLast Go.Proofs.YtaappkompmdjnaaW.PrintMore Go.Proofs.Ytaappkompmdjnaa.Plain
attribute [local go_sem] max2_int min2_int max_two min_two max_three min_three max_four min_four
set_option linter.unusedVariables false
set_option linter.unusedSimpArgs false
/-! ### bytes.Clone -/
def bytes_Clone.f (l : List Int) : Option (List Int) := if l.length < 140737488355328 then some l else none
theorem bytes_Clone.calls (A0 : Option Addr) (c0 : Nat) (l0 : List Int) (r : List Int) (w : World) (hr0 : Kd.C (Kd.int .u8) w A0 l0.length l0) (hc0 : l0.length ≤ c0) (h : bytes_Clone.f l0 = some r) :
    Calls Try.prog 39 #[.slice A0 l0.length c0] w fun e w' => ∃ v0_ : Value, e = .returned (v0_) ∧ Kd.R (Kd.int .u8) 5 w' w.heap.size (fun _ => True) v0_ r ∧ Below w.heap.size w w' := by
  have HR0 := Aside0.mk hr0
  have HC0 := Aside0.mk hc0
  clear hc0
  have HB := Aside0.mk (Below.refl w.heap.size w)
  unfold bytes_Clone.f at h
  have hl : l0.length < 140737488355328 := by
    by_cases hl : l0.length < 140737488355328
    · exact hl
    · rw [if_neg hl] at h; cases h
  rw [if_pos hl] at h
  obtain rfl := Option.some.inj h
  clear h
  cases A0 with
  | none =>
    have h0 : l0 = [] := by
      cases l0 with
      | nil => rfl
      | cons x l => obtain ⟨ad, e, _⟩ := hr0.2.2 (by simp); cases e
    subst h0
    clear hr0
    have hn := fun (w : World) (a : Option Addr) (n c : Nat) => Lib.run_eql_slice_nil (P := Try.prog) w 28 5 a n c 0 0 Try.underlying28
    go_enter Try.func39, Try.ntmps39
    go_wp2
    go_ret
    exact ⟨_, rfl, Kd.R_nil _ _ _ _ _, (by repeat (first | (with_reducible first | exact HB.out | apply below_alloc | apply pw_below_drewN | apply below_drew1) | exact HB.out))⟩
  | some ad =>
    clear hr0
    have hn := fun (w : World) (a : Option Addr) (n c : Nat) => Lib.run_eql_slice_nil (P := Try.prog) w 28 5 a n c 0 0 Try.underlying28
    go_enter Try.func39, Try.ntmps39
    go_wp2_with (first | ((with_reducible refine gate_dst (N := 5) rfl ?_); refine Kd.R_lit (Kd.int .u8) _ 5 ?hg (N := 5) ?hd (xs := ([] : List Int)) (inner := []) (ok := fun _ => True) (okp := fun _ => True) ?hr ?hp (fun _ hk => hk) trivial (Below.refl _ _) (Nat.le_refl _) (by simp) ?_; (case hd => rfl); (case hg => rfl); (case hr => first | (go_simp; done) | (go_simp; rfl)); (case hp => exact (Reps.none _ _)); intro v1 w1 ho hb _ _; have HO1 := Aside0.mk (Kd.R_lower ho (below_size (by repeat (first | (with_reducible first | exact HB.out | apply below_alloc | apply pw_below_drewN | apply below_drew1) | exact HB.out)))); have n0_ := Aside0.mk (below_step (by repeat (first | (with_reducible first | exact HB.out | apply below_alloc | apply pw_below_drewN | apply below_drew1) | exact HB.out)) hb); clear HB; have HB := n0_; clear n0_; clear hb ho) | ((with_reducible refine gate_builtin (b := .append) (xs := #[.tmp 5, .tmp 6]) rfl ?_); at_builtin; refine Kd.R_append_rows (Kd.int .u8) (w0 := w) w.heap.size rfl (.tmp 5) (.tmp 6) 28 5 (.int .u8 0) 1 rfl Try.underlying28 infoB rfl (by decide) (by omega) v1 [] l0 _ _ _ (fun _ => True) (fun _ => False) rfl rfl ?aO ?aR (fun _ _ h => h) (fun _ h => h.elim) (fun _ _ => trivial) ?aB ?aS ?aL ?_; (case aR => exact (by repeat (first | exact (Kd.C_below HR0.out HB.out) | (with_reducible refine Kd.C_alloc ?_ _) | (with_reducible refine Kd.C_drewN ?_ _) | (with_reducible refine Kd.C_drew ?_)))); (case aB => exact (by repeat (first | (with_reducible first | exact HB.out | apply below_alloc | apply pw_below_drewN | apply below_drew1) | exact HB.out))); (case aO => exact (by (with_reducible repeat (first | apply Kd.R_alloc | apply Kd.R_drewN | apply Kd.R_drew)); exact HO1.out)); (case aS => exact (below_size (by repeat (first | (with_reducible first | exact HB.out | apply below_alloc | apply pw_below_drewN | apply below_drew1) | exact HB.out)))); (case aL => simp; omega); intro v2 w2 ho hb hg hat; clear HB HO1; have HB := Aside0.mk hb; have HO2 := Aside0.mk ho; clear ho hb hg hat))
    go_ret
    exact ⟨_, rfl, (by (with_reducible repeat (first | apply Kd.R_alloc | apply Kd.R_drewN | apply Kd.R_drew)); exact HO2.out), (by repeat (first | (with_reducible first | exact HB.out | apply below_alloc | apply pw_below_drewN | apply below_drew1) | exact HB.out))⟩

/-! ### bytes.Equal -/
theorem str_eq {l m : List Int} (hl : bytesB l = true) (hm : bytesB m = true) : ((strOfNums l).toList == (strOfNums m).toList) = decide (l = m) := by
  rw [ByteArray.toList_eq, ByteArray.toList_eq, Bool.eq_iff_iff, beq_iff_eq, decide_eq_true_iff]
  show (l.map fun n => UInt8.ofNat n.toNat) = (m.map fun n => UInt8.ofNat n.toNat) ↔ l = m
  rw [bytesB_iff] at hl hm
  induction l generalizing m with
  | nil => cases m <;> simp
  | cons x l ih =>
    cases m with
    | nil => simp
    | cons y m =>
      have hx := hl x (by simp)
      have hy := hm y (by simp)
      rw [List.map_cons, List.map_cons, List.cons.injEq, List.cons.injEq, ih (fun z hz => hl z (by simp [hz])) (fun z hz => hm z (by simp [hz])), ← UInt8.toNat_inj]
      simp
      omega
def bytes_Equal.f (l m : List Int) : Option Bool := if bytesB l = true then (if bytesB m = true then some (decide (l = m)) else none) else none
theorem bytes_Equal.calls (A0 : Option Addr) (c0 : Nat) (l0 : List Int) (A1 : Option Addr) (c1 : Nat) (l1 : List Int) (r : Bool) (w : World) (hr0 : Kd.C (Kd.int .u8) w A0 l0.length l0) (hc0 : l0.length ≤ c0) (hr1 : Kd.C (Kd.int .u8) w A1 l1.length l1) (hc1 : l1.length ≤ c1) (h : bytes_Equal.f l0 l1 = some r) :
    Calls Try.prog 42 #[.slice A0 l0.length c0, .slice A1 l1.length c1] w fun e w' => e = .returned (.bool r) ∧ Drawn0 w w' := by
  unfold bytes_Equal.f at h
  cases hb0 : bytesB l0 with
  | false => rw [hb0] at h; cases h
  | true =>
    cases hb1 : bytesB l1 with
    | false => rw [hb0, hb1] at h; cases h
    | true =>
      rw [hb0, hb1, if_pos rfl, if_pos rfl] at h
      obtain rfl := Option.some.inj h
      have he := str_eq hb0 hb1
      have HE := Aside0.mk he
      have k0 := Kd.C_string (P := Try.prog) (c := c0) (src := 28) (dst := 9) Try.underlying28 Try.underlying5 Try.underlying9 hr0
      have k1 := Kd.C_string (P := Try.prog) (c := c1) (src := 28) (dst := 9) Try.underlying28 Try.underlying5 Try.underlying9 hr1
      clear he h hb0 hb1 hr0 hr1
      go_enter Try.func42, Try.ntmps42
      go_wp2
      go_ret
      exact ⟨by rw [← HE.out]; rfl, (by repeat (first | exact Drawn0.refl _ | apply Drawn0.step))⟩

/-! ### the test that pick.Note hands to slices.IndexFunc -/
theorem test_calls (A0 : Option Addr) (c0 : Nat) (l0 : List Int) (cnt : Int) (bad : Bool) (pb : Nat) (A1 : Option Addr) (c1 : Nat) (l1 : List Int) (w : World) (hr0 : Kd.C (Kd.int .u8) w A0 l0.length l0) (hc0 : l0.length ≤ c0)
    (hp : w.cell? ⟨pb, 0, none⟩ = some (.slice A1 l1.length c1)) (hr1 : Kd.C (Kd.int .u8) w A1 l1.length l1) (hc1 : l1.length ≤ c1) (hb0 : bytesB l0 = true) (hb1 : bytesB l1 = true) :
    Calls Try.prog 41 #[.agg #[.slice A0 l0.length c0, .int .i64 cnt, .bool bad], .pointer (some ⟨pb, 0, none⟩)] w fun e w' => e = .returned (.bool (decide (l0 = l1))) ∧ Below w.heap.size w w' := by
  have HR0 := Aside0.mk hr0
  have HR1 := Aside0.mk hr1
  have HE := Aside0.mk (show bytes_Equal.f l0 l1 = some (decide (l0 = l1)) by unfold bytes_Equal.f; rw [if_pos hb0, if_pos hb1])
  have HB := Aside0.mk (Below.refl w.heap.size w)
  have hpa : ∀ o : Obj, (w.alloc o).cell? ⟨pb, 0, none⟩ = some (.slice A1 l1.length c1) := fun o => pw_cell_below (below_alloc (Below.refl _ _) o) hp
  clear hr0 hr1 hb0 hb1
  go_enter Try.func41, Try.ntmps41
  go_wp2_with (go_at_call 42; (with_reducible refine (bytes_Equal.calls A0 c0 l0 A1 c1 l1 _ _ ?s1 ?s2 ?s3 ?s4 HE.out).mono ?_); (case s1 => exact (by repeat (first | exact (Kd.C_below HR0.out HB.out) | (with_reducible refine Kd.C_alloc ?_ _) | (with_reducible refine Kd.C_drewN ?_ _) | (with_reducible refine Kd.C_drew ?_)))); (case s2 => exact hc0); (case s3 => exact (by repeat (first | exact (Kd.C_below HR1.out HB.out) | (with_reducible refine Kd.C_alloc ?_ _) | (with_reducible refine Kd.C_drewN ?_ _) | (with_reducible refine Kd.C_drew ?_)))); (case s4 => exact hc1); rintro e w' ⟨rfl, ⟨nd, rfl⟩⟩)
  go_ret
  exact ⟨rfl, (by repeat (first | (with_reducible first | exact HB.out | apply below_alloc | apply pw_below_drewN | apply below_drew1) | exact HB.out))⟩

/-! ### slices.IndexFunc -/
/-- The place of the first one of an address, from place j on; the length, if there is none. -/
def firstAt (a : List Int) : List S42 → Nat
  | [] => 0
  | x :: l => if x.f0 = a then 0 else firstAt a l + 1
theorem first_step (a : List Int) (l : List S42) (j : Nat) (hj : j < l.length) (h : j ≤ firstAt a l) : ((rd_T42 l (j : Int)).f0 = a → firstAt a l = j) ∧ ((rd_T42 l (j : Int)).f0 ≠ a → j + 1 ≤ firstAt a l) := by
  induction l generalizing j with
  | nil => simp at hj
  | cons x l ih =>
    cases j with
    | zero =>
      have e : rd_T42 (x :: l) ((0 : Nat) : Int) = x := rfl
      rw [e]
      unfold firstAt
      refine ⟨fun h => by rw [if_pos h], fun h => by rw [if_neg h]; omega⟩
    | succ j =>
      have e : rd_T42 (x :: l) ((j + 1 : Nat) : Int) = rd_T42 l (j : Int) := by simp [rd_T42]
      rw [e]
      unfold firstAt at h ⊢
      split at h
      · omega
      · rename_i hx
        rw [if_neg hx]
        have := ih j (by simpa using hj) (by omega)
        refine ⟨fun h => by rw [this.1 h], fun h => by have := this.2 h; omega⟩
theorem first_le (a : List Int) (l : List S42) : firstAt a l ≤ l.length := by
  induction l with
  | nil => simp [firstAt]
  | cons x l ih => unfold firstAt; split <;> simp; exact ih
set_option maxHeartbeats 1000000 in
theorem index_calls (A0 : Option Addr) (c0 : Nat) (l0 : List S42) (pb : Nat) (A1 : Option Addr) (c1 : Nat) (l1 : List Int) (w : World) (hr0 : Kd.C k42 w A0 l0.length l0) (hc0 : l0.length ≤ c0)
    (hp : w.cell? ⟨pb, 0, none⟩ = some (.slice A1 l1.length c1)) (hr1 : Kd.C (Kd.int .u8) w A1 l1.length l1) (hc1 : l1.length ≤ c1) (hb0 : ∀ x ∈ l0, bytesB x.f0 = true) (hb1 : bytesB l1 = true) :
    Calls Try.prog 40 #[.slice A0 l0.length c0, .func (Fn.func 41) #[] #[.pointer (some ⟨pb, 0, none⟩)]] w fun e w' => e = .returned (.int .i64 (if firstAt l1 l0 < l0.length then (firstAt l1 l0 : Int) else -1)) ∧ Below w.heap.size w w' := by
  have HR0 := Aside0.mk hr0
  have HR1 := Aside0.mk hr1
  have HB0 := Aside0.mk hb0
  have HB1 := Aside0.mk hb1
  have HP := Aside0.mk hp
  have hm := Kd.C_max hr0
  have HB := Aside0.mk (Below.refl w.heap.size w)
  clear hr0 hr1 hb0 hb1 hp
  obtain ⟨fx, hfx⟩ : ∃ fx, firstAt l1 l0 = fx := ⟨_, rfl⟩
  rw [hfx]
  have HF := Aside0.mk hfx
  have hfl : fx ≤ l0.length := by rw [← hfx]; exact first_le _ _
  clear hfx
  go_enter Try.func40, Try.ntmps40
  go_wp2
  go_loopw [8] (fun i wr => ∃ j : Nat, j ≤ l0.length ∧ i = .int .i64 j ∧ Aside0 (j ≤ fx) ∧ Aside0 (Below w.heap.size w wr)) (fun i _ => l0.length - (intOf i).toNat)
  case atStart => exact ⟨0, Nat.zero_le _, rfl, ⟨Nat.zero_le _⟩, ⟨HB.out⟩⟩
  case round =>
    clear HB
    obtain ⟨j, hj, rfl, HJ, HB⟩ := hrel
    by_cases hlt : j < l0.length
    · obtain ⟨ad, A2, c2, rfl, hx0, hx1, hx2, hl2, hr2⟩ := at_T42 (by repeat (first | exact (Kd.C_below HR0.out HB.out) | (with_reducible refine Kd.C_alloc ?_ _) | (with_reducible refine Kd.C_drewN ?_ _) | (with_reducible refine Kd.C_drew ?_))) (j : Int) (by omega) (by omega)
      have hst := first_step l1 l0 j hlt (by rw [HF.out]; exact HJ.out)
      rw [HF.out] at hst
      have HS := Aside0.mk hst
      have hb2 : bytesB (rd_T42 l0 (j : Int)).f0 = true := HB0.out _ (by unfold rd_T42; rw [Int.toNat_natCast, List.getD_eq_getElem?_getD, List.getElem?_eq_getElem hlt]; exact List.getElem_mem hlt)
      simp only [Int.toNat_natCast] at hx0 hx1 hx2
      obtain ⟨l2, hl2e⟩ : ∃ l, (rd_T42 l0 (j : Int)).f0 = l := ⟨_, rfl⟩
      rw [hl2e] at hx0 hl2 hr2 hb2 hst
      have HL2 := Aside0.mk hl2e
      have HR2 := Aside0.mk hr2
      have HB2 := Aside0.mk hb2
      clear hl2e hr2 hb2 hst
      by_cases heq : l2 = l1
      · have hd := decide_eq_true heq
        have hfj : fx = j := HS.out.1 (by rw [HL2.out]; exact heq)
        clear heq
        go_wp2_with (go_at_call 41; (with_reducible refine (test_calls A2 c2 l2 _ _ pb A1 c1 l1 _ ?s1 ?s2 ?s3 ?s4 ?s5 ?s6 ?s7).mono ?_); (case s1 => exact HR2.out); (case s2 => exact hl2); (case s3 => exact pw_cell_below HB.out HP.out); (case s4 => exact (by repeat (first | exact (Kd.C_below HR1.out HB.out) | (with_reducible refine Kd.C_alloc ?_ _) | (with_reducible refine Kd.C_drewN ?_ _) | (with_reducible refine Kd.C_drew ?_)))); (case s5 => exact hc1); (case s6 => exact HB2.out); (case s7 => exact HB1.out); rintro e w2 ⟨rfl, hb⟩; rw [hd]; have n0_ := Aside0.mk (below_step (by repeat (first | (with_reducible first | exact HB.out | apply below_alloc | apply pw_below_drewN | apply below_drew1) | exact HB.out)) hb); clear HB; have HB := n0_; clear n0_; clear hb)
        go_ret
        exact ⟨rfl, (by repeat (first | (with_reducible first | exact HB.out | apply below_alloc | apply pw_below_drewN | apply below_drew1) | exact HB.out))⟩
      · have hd := decide_eq_false heq
        have hfj : j + 1 ≤ fx := HS.out.2 (by rw [HL2.out]; exact heq)
        have HFJ := Aside0.mk hfj
        clear heq hfj
        go_wp2_with (go_at_call 41; (with_reducible refine (test_calls A2 c2 l2 _ _ pb A1 c1 l1 _ ?s1 ?s2 ?s3 ?s4 ?s5 ?s6 ?s7).mono ?_); (case s1 => exact HR2.out); (case s2 => exact hl2); (case s3 => exact pw_cell_below HB.out HP.out); (case s4 => exact (by repeat (first | exact (Kd.C_below HR1.out HB.out) | (with_reducible refine Kd.C_alloc ?_ _) | (with_reducible refine Kd.C_drewN ?_ _) | (with_reducible refine Kd.C_drew ?_)))); (case s5 => exact hc1); (case s6 => exact HB2.out); (case s7 => exact HB1.out); rintro e w2 ⟨rfl, hb⟩; rw [hd]; have n0_ := Aside0.mk (below_step (by repeat (first | (with_reducible first | exact HB.out | apply below_alloc | apply pw_below_drewN | apply below_drew1) | exact HB.out)) hb); clear HB; have HB := n0_; clear n0_; clear hb)
        go_roundw
        case rel => exact ⟨j + 1, by omega, by go_num, ⟨HFJ.out⟩, ⟨(by repeat (first | (with_reducible first | exact HB.out | apply below_alloc | apply pw_below_drewN | apply below_drew1) | exact HB.out))⟩⟩
        case measure => simp [intOf]; omega
    · obtain rfl : j = l0.length := by omega
      have hfj : ¬ fx < l0.length := by have := HJ.out; omega
      clear hlt hj
      go_wp2
      go_ret
      exact ⟨rfl, (by repeat (first | (with_reducible first | exact HB.out | apply below_alloc | apply pw_below_drewN | apply below_drew1) | exact HB.out))⟩

/-! ### pick.Note -/
theorem infoT : (Try.prog.info? 42).map (fun i => (i.zero, i.size, i.bytes)) = some (some (.agg #[(.slice none 0 0), (.int .i64 0), (.bool false)]), 3, 40) := by kernel_rfl
/-- The list in which a server was asked once more, and may be bad. -/
def noteF (l : List S42) (a : List Int) (b : Bool) : List S42 :=
  if firstAt a l < l.length then l.set (firstAt a l) ⟨(rd_T42 l (firstAt a l : Int)).f0, if (rd_T42 l (firstAt a l : Int)).f1 < 9223372036854775807 then (rd_T42 l (firstAt a l : Int)).f1 + 1 else (rd_T42 l (firstAt a l : Int)).f1, (rd_T42 l (firstAt a l : Int)).f2 || b⟩
  else l ++ [⟨a, 1, b⟩]
/-- May they be handed to pick.Note? -/
def noteOk (l : List S42) (a : List Int) : Bool := decide (l.length ≤ 1000000) && decide (a.length < 140737488355328) && bytesB a && l.all fun x => decide (x.f0.length < 140737488355328) && bytesB x.f0 && decide (-9223372036854775808 ≤ x.f1)
def pick_Note.f (l : List S42) (a : List Int) (b : Bool) : Option (List S42) := if noteOk l a = true then some (noteF l a b) else none

/-- The count and the mark of a server in a row of one's own: read, and written. -/
theorem elem_put {W : World} {base g n cap : Nat} {xs : List S42} (i : Nat) (hi : i < n) (hS : Kd.S k42 42 W base (fun _ => True) (.slice (some ⟨g, 0, none⟩) n cap) xs) {f0 : List Int} {f1 : Int} {f2 : Bool} (hx : rd_T42 xs (i : Int) = ⟨f0, f1, f2⟩) :
    W.cell? ⟨g, i * 3 + 1, none⟩ = some (.int .i64 f1) ∧ W.cell? ⟨g, i * 3 + 2, none⟩ = some (.bool f2) ∧ W.frozen? ⟨g, i * 3 + 1, none⟩ = false ∧ W.frozen? ⟨g, i * 3 + 2, none⟩ = false ∧
    (∀ c, Kd.S k42 42 (W.setCell ⟨g, i * 3 + 1, none⟩ (.int .i64 c)) base (fun _ => True) (.slice (some ⟨g, 0, none⟩) n cap) (xs.set i ⟨f0, c, f2⟩)) ∧
    (∀ b, Kd.S k42 42 (W.setCell ⟨g, i * 3 + 2, none⟩ (.bool b)) base (fun _ => True) (.slice (some ⟨g, 0, none⟩) n cap) (xs.set i ⟨f0, f1, b⟩)) := by
  obtain ⟨oki, cs, hcl, hM, hcc, hfr, hoki, hH⟩ := Kd.S_elem hS z42 (i : Int) (by omega) (by omega)
  have hM' : k42.M W base oki ⟨f0, f1, f2⟩ cs := by rw [← hx]; exact hM
  obtain ⟨v0, rfl, hR0⟩ := k42_openM hM'
  have e1 := hcc 1 _ rfl
  have e2 := hcc 2 _ rfl
  have q1 := hfr 1
  have q2 := hfr 2
  simp only [Int.toNat_natCast] at e1 e2 q1 q2
  refine ⟨e1, e2, q1, q2, fun c => ?_, fun b => ?_⟩
  · have h := (Kd.S_seg0 hH (by omega) (by omega) (seg := [.int .i64 c]) (j := 1) (Nat.le_of_ble_eq_true rfl) (x' := (⟨f0, c, f2⟩ : S42)) (k42_mkM _ _ _ (⟨f0, c, f2⟩ : S42) hR0) (fun _ h => h)).1
    simp only [Int.toNat_natCast] at h
    exact h
  · have h := (Kd.S_seg0 hH (by omega) (by omega) (seg := [.bool b]) (j := 2) (Nat.le_of_ble_eq_true rfl) (x' := (⟨f0, f1, b⟩ : S42)) (k42_mkM _ _ _ (⟨f0, f1, b⟩ : S42) hR0) (fun _ h => h)).1
    simp only [Int.toNat_natCast] at h
    exact h

set_option maxHeartbeats 4000000 in
theorem pick_Note.calls (A0 : Option Addr) (c0 : Nat) (l0 : List S42) (A1 : Option Addr) (c1 : Nat) (l1 : List Int) (a2 : Bool) (r : List S42) (w : World) (hr0 : Kd.C k42 w A0 l0.length l0) (hc0 : l0.length ≤ c0) (hr1 : Kd.C (Kd.int .u8) w A1 l1.length l1) (hc1 : l1.length ≤ c1) (h : pick_Note.f l0 l1 a2 = some r) :
    Calls Try.prog 36 #[.slice A0 l0.length c0, .slice A1 l1.length c1, .bool a2] w fun e w' => ∃ v0_ : Value, e = .returned (v0_) ∧ Kd.S k42 42 w' w.heap.size (fun _ => True) v0_ r ∧ Below w.heap.size w w' := by
  unfold pick_Note.f at h
  have hok : noteOk l0 l1 = true := by
    cases hok : noteOk l0 l1 with
    | true => rfl
    | false => rw [hok] at h; cases h
  rw [if_pos hok] at h
  have HRES := Aside0.mk (Option.some.inj h)
  clear h
  unfold noteOk at hok
  simp only [Bool.and_eq_true, decide_eq_true_eq, List.all_eq_true] at hok
  obtain ⟨⟨⟨hl, hla⟩, hba⟩, hall⟩ := hok
  have HALL := Aside0.mk hall
  have HBA := Aside0.mk hba
  have HLA := Aside0.mk hla
  have HR0 := Aside0.mk hr0
  have HR1 := Aside0.mk hr1
  have HB := Aside0.mk (Below.refl w.heap.size w)
  have hu := Try.underlying42
  clear hall hba hla hr0 hr1
  go_enter Try.func36, Try.ntmps36
  go_wp2_with (((with_reducible refine gate_dst (N := 4) rfl ?_); refine box_event ?hg (N := 4) ?hd (cs := #[.slice A1 l1.length c1]) (t := 28) ?hr ?_; (case hd => rfl); (case hg => rfl); (case hr => first | (go_simp; done) | (go_simp; rfl)); intro gb hgb w1 hbk hb; have n1_ := Aside0.mk (Kd.C_below HR0.out hb); have n2_ := Aside0.mk (Kd.C_below HR1.out hb); clear HR0 HR1 HB hgb; have HR0 := n1_; have HR1 := n2_; have HW := Aside0.mk hb; have HB := Aside0.mk (Below.refl w1.heap.size w1); have HP := Aside0.mk (show w1.cell? ⟨gb, 0, none⟩ = some (.slice A1 l1.length c1) from (blk_cell hbk 0).trans rfl); clear n1_ n2_ hb hbk))
  go_loopw [7, 13] (fun v i wr => ∃ j : Nat, j ≤ l0.length ∧ i = .int .i64 j ∧ Aside0 (Kd.S k42 42 wr w1.heap.size (fun _ => True) v (l0.take j)) ∧ Aside0 (Below w1.heap.size w1 wr)) (fun _ i _ => l0.length - (intOf i).toNat)
  case atStart => exact ⟨0, Nat.zero_le _, rfl, ⟨Kd.S_nil _ _ _ _ _⟩, ⟨HB.out⟩⟩
  case round =>
    clear HB
    obtain ⟨j, hj, rfl, HO, HB⟩ := hrel
    by_cases hlt : j < l0.length
    · obtain ⟨ad, A2, c2, rfl, hx0, hx1, hx2, hl2, hr2⟩ := at_T42 (by repeat (first | exact (Kd.C_below HR0.out HB.out) | (with_reducible refine Kd.C_alloc ?_ _) | (with_reducible refine Kd.C_drewN ?_ _) | (with_reducible refine Kd.C_drew ?_))) (j : Int) (by omega) (by omega)
      have hmem : rd_T42 l0 (j : Int) ∈ l0 := by unfold rd_T42; rw [Int.toNat_natCast, List.getD_eq_getElem?_getD, List.getElem?_eq_getElem hlt]; exact List.getElem_mem hlt
      have hn2 := (HALL.out _ hmem).1.1
      have HTS := Aside0.mk (show l0.take (j + 1) = l0.take j ++ [rd_T42 l0 (j : Int)] from take_snoc l0 z42 j hlt)
      simp only [Int.toNat_natCast] at hx0 hx1 hx2
      obtain ⟨x, hx⟩ : ∃ x, rd_T42 l0 (j : Int) = x := ⟨_, rfl⟩
      rw [hx] at hx0 hx1 hx2 hl2 hr2 hn2 HTS
      obtain ⟨l2, cnt, bad⟩ := x
      dsimp only at hx0 hx1 hx2 hl2 hr2 hn2
      have HR2 := Aside0.mk hr2
      have HC2 := Aside0.mk (show bytes_Clone.f l2 = some l2 by unfold bytes_Clone.f; rw [if_pos hn2])
      have HOE := Aside0.mk (Kd.S_elderB HO.out wr.heap.size (Nat.le_refl _))
      have hlt2 : (l0.take j).length ≤ 1000000 := by rw [List.length_take]; omega
      have HGE := Aside0.mk (below_size (by repeat (first | (with_reducible first | exact HB.out | apply below_alloc | apply pw_below_drewN | apply below_drew1) | exact HB.out)))
      clear hx hmem hr2 HO
      go_wp2_with (first | (go_at_call 39; (with_reducible refine (bytes_Clone.calls A2 c2 l2 l2 _ ?s1 ?s2 HC2.out).mono ?_); (case s1 => exact (by repeat (first | exact HR2.out | (with_reducible refine Kd.C_alloc ?_ _) | (with_reducible refine Kd.C_drewN ?_ _) | (with_reducible refine Kd.C_drew ?_)))); (case s2 => exact hl2); rintro e w2 ⟨v3, rfl, ho, hb⟩; have BK := Aside0.mk (blk_below (blk_new wr (.cells #[.slice A2 l2.length c2, .int .i64 cnt, .bool bad] 42)) hb); have n1_ := Aside0.mk (Kd.S_elder' (by (with_reducible repeat (first | apply Kd.S_alloc | apply Kd.S_drewN | apply Kd.S_drew)); exact HOE.out) (Kd.R_base ho) hb); have hv3 := Kd.R_base ho; have n2_ := Aside0.mk (Kd.R_lower ho (below_size (by repeat (first | (with_reducible first | exact HB.out | apply below_alloc | apply pw_below_drewN | apply below_drew1) | exact HB.out)))); have n0_ := Aside0.mk (below_step (by repeat (first | (with_reducible first | exact HB.out | apply below_alloc | apply pw_below_drewN | apply below_drew1) | exact HB.out)) hb); clear HB; have HB := n0_; clear n0_; clear HOE hb ho; have HOE := n1_; have HR3 := n2_; clear n1_ n2_ hv3; obtain ⟨A3, c3, e3⟩ := Kd.R_slice HR3.out; subst e3; have hcz := (blk_cell BK.out 0).trans rfl; have hfz := blk_frozen BK.out 0) | ((with_reducible refine gate_store (t := 28) (p := 20) rfl ?_); refine store_event (t := 28) (p := 20) (v := ?vo) (w1 := (w2.setCell ⟨wr.heap.size, 0, none⟩ (.slice A3 l2.length c3))) ?hg ?ho ?hn ?hr ?_; (case ho => rfl); (case hg => rfl); (case hn => rfl); (case hr => first | (go_simp; done) | (go_simp; rfl)); intro w3 hw; have n1_ := Aside0.mk (show w3.heap[wr.heap.size]? = some (.cells #[.slice A3 l2.length c3, .int .i64 cnt, .bool bad] 42 (0, 0)) from by rw [hw]; exact blk_put BK.out 0 _ rfl); have n2_ := Aside0.mk (show Kd.S k42 42 w3 w1.heap.size (fun k => (True ∧ k ≠ wr.heap.size) ∧ some k ≠ (.slice A3 l2.length c3 : Value).ownBlock) _ _ from by rw [hw]; exact Kd.S_far HOE.out (fun k hk => hk.1.2) _); have n3_ := Aside0.mk (show Kd.R (Kd.int .u8) 5 w3 w1.heap.size (fun _ => True) (.slice A3 l2.length c3) l2 from by rw [hw]; exact Kd.R_set HR3.out BK.out (by decide) 0 _); have n4_ := Aside0.mk (show Below w1.heap.size w1 w3 from by rw [hw]; exact below_set HB.out HGE.out); clear BK HOE HR3 HB hw hcz hfz; have BK := n1_; have HOE := n2_; have HR3 := n3_; have HB := n4_; clear n1_ n2_ n3_ n4_; have hy0 := (blk_cell BK.out 0).trans rfl; have hy1 := (blk_cell BK.out 1).trans rfl; have hy2 := (blk_cell BK.out 2).trans rfl) | ((with_reducible refine gate_builtin (b := .append) (xs := #[.tmp 21, .tmp 23]) rfl ?_); at_builtin; refine Kd.S_append k42 (w0 := w1) w1.heap.size rfl (.tmp 21) (.tmp 23) 37 42 (.agg #[(.slice none 0 0), (.int .i64 0), (.bool false)]) 40 rfl Try.underlying37 infoT rfl (by decide) (by omega) u7 (l0.take j) (⟨l2, cnt, bad⟩ : S42) [.slice A3 l2.length c3, .int .i64 cnt, .bool bad] (fun _ => True) (fun k => some k = (.slice A3 l2.length c3 : Value).ownBlock) rfl rfl ?aP ?aK (fun _ _ => trivial) ?aO ?aB ?aS ?aL ?_; (case aP => exact k42_mkM _ _ _ (⟨l2, cnt, bad⟩ : S42) (Kd.R_tight rfl HR3.out)); (case aK => exact (fun k hk => ⟨trivial, ((Kd.R_apart' HR3.out (Kd.S_typed HOE.out) (by decide)).1 k hk.symm).2⟩)); (case aO => exact (Kd.S_mono HOE.out (fun k hk => ⟨trivial, hk.2⟩))); (case aB => exact (by repeat (first | (with_reducible first | exact HB.out | apply below_alloc | apply pw_below_drewN | apply below_drew1) | exact HB.out))); (case aS => exact (below_size (by repeat (first | (with_reducible first | exact HB.out | apply below_alloc | apply pw_below_drewN | apply below_drew1) | exact HB.out)))); (case aL => omega); intro v4 w4 ho hb hg _; rw [← HTS.out] at ho; clear HB HOE HR3 BK hg; have HB := Aside0.mk hb; have HO := Aside0.mk ho; clear ho hb))
      go_roundw
      case rel => exact ⟨j + 1, by omega, by go_num, ⟨(by (with_reducible repeat (first | apply Kd.S_alloc | apply Kd.S_drewN | apply Kd.S_drew)); exact HO.out)⟩, ⟨(by repeat (first | (with_reducible first | exact HB.out | apply below_alloc | apply pw_below_drewN | apply below_drew1) | exact HB.out))⟩⟩
      case measure => simp [intOf]; omega
    · obtain rfl : j = l0.length := by omega
      have ho := HO.out
      rw [List.take_length] at ho
      clear HO hlt hj
      have hmaxl : l0.length ≤ 1000000 := hl
      by_cases hlt : firstAt l1 l0 < l0.length
      · obtain ⟨g7, cap7, e7, gb7, _, _⟩ := Kd.S_form ho (by omega)
        subst e7
        obtain ⟨fx, hfx⟩ : ∃ fx, firstAt l1 l0 = fx := ⟨_, rfl⟩
        rw [hfx] at hlt
        have HFX := Aside0.mk (show (if firstAt l1 l0 < l0.length then (firstAt l1 l0 : Int) else -1) = (fx : Int) by rw [hfx, if_pos hlt])
        obtain ⟨x, hx⟩ : ∃ x, rd_T42 l0 (fx : Int) = x := ⟨_, rfl⟩
        obtain ⟨f0, f1, f2⟩ := x
        have hr := HRES.out
        unfold noteF at hr
        rw [hfx, if_pos hlt, hx] at hr
        have HR := Aside0.mk hr
        have HX := Aside0.mk hx
        have HO := Aside0.mk ho
        have GE7 := Aside0.mk gb7
        clear hr hx ho hfx gb7
        have hlo : -9223372036854775808 ≤ f1 := by
          have := (HALL.out (rd_T42 l0 (fx : Int)) (by unfold rd_T42; rw [Int.toNat_natCast, List.getD_eq_getElem?_getD, List.getElem?_eq_getElem hlt]; exact List.getElem_mem hlt)).2
          rw [HX.out] at this
          exact this
        have hneg : decide ((fx : Int) < 0) = false := decide_eq_false (by omega)
        by_cases hmx : f1 < 9223372036854775807
        · have hmb := decide_eq_true hmx
          have hr1 : r = l0.set fx ⟨f0, f1 + 1, f2 || a2⟩ := by rw [← HR.out]; simp [hmx]
          have HR1' := Aside0.mk hr1
          have hset : rd_T42 (l0.set fx ⟨f0, f1 + 1, f2⟩) (fx : Int) = ⟨f0, f1 + 1, f2⟩ := by unfold rd_T42; rw [Int.toNat_natCast, List.getD_eq_getElem?_getD, List.getElem?_set_self hlt]; rfl
          have HSET := Aside0.mk hset
          clear hr1 hset
          cases f2 with
          | true =>
            go_wp2_with (go_at_call 40; (with_reducible refine (index_calls _ _ l0 gb A1 c1 l1 _ ?s1 ?s2 ?s3 ?s4 ?s5 ?s6 ?s7).mono ?_); (case s1 => exact (Kd.S_reads' HO.out).2.2); (case s2 => exact (Kd.S_reads' HO.out).2.1); (case s3 => exact pw_cell_below HB.out HP.out); (case s4 => exact (by repeat (first | exact (Kd.C_below HR1.out HB.out) | (with_reducible refine Kd.C_alloc ?_ _) | (with_reducible refine Kd.C_drewN ?_ _) | (with_reducible refine Kd.C_drew ?_)))); (case s5 => exact hc1); (case s6 => exact fun x hx => (HALL.out x hx).1.2); (case s7 => exact HBA.out); rintro e w5 ⟨rfl, hb⟩; rw [HFX.out]; have n1_ := Aside0.mk (Kd.S_below HO.out hb); have n0_ := Aside0.mk (below_step (by repeat (first | (with_reducible first | exact HB.out | apply below_alloc | apply pw_below_drewN | apply below_drew1) | exact HB.out)) hb); clear HB; have HB := n0_; clear n0_; clear HO hb; have HO := n1_; clear n1_ ; obtain ⟨hy1, hy2, hz1, hz2, hs1, hs2⟩ := elem_put fx hlt HO.out HX.out; have HS1 := Aside0.mk hs1; clear hs1 hs2)
            go_ret
            refine ⟨_, rfl, Kd.S_lower ?_ HW.out.size, below_step HW.out (below_set (below_set HB.out GE7.out) GE7.out)⟩
            have hs := (elem_put fx hlt (HS1.out (f1 + 1)) HSET.out).2.2.2.2.2 true
            rw [HR1'.out]
            simpa using hs
          | false =>
            go_wp2_with (go_at_call 40; (with_reducible refine (index_calls _ _ l0 gb A1 c1 l1 _ ?s1 ?s2 ?s3 ?s4 ?s5 ?s6 ?s7).mono ?_); (case s1 => exact (Kd.S_reads' HO.out).2.2); (case s2 => exact (Kd.S_reads' HO.out).2.1); (case s3 => exact pw_cell_below HB.out HP.out); (case s4 => exact (by repeat (first | exact (Kd.C_below HR1.out HB.out) | (with_reducible refine Kd.C_alloc ?_ _) | (with_reducible refine Kd.C_drewN ?_ _) | (with_reducible refine Kd.C_drew ?_)))); (case s5 => exact hc1); (case s6 => exact fun x hx => (HALL.out x hx).1.2); (case s7 => exact HBA.out); rintro e w5 ⟨rfl, hb⟩; rw [HFX.out]; have n1_ := Aside0.mk (Kd.S_below HO.out hb); have n0_ := Aside0.mk (below_step (by repeat (first | (with_reducible first | exact HB.out | apply below_alloc | apply pw_below_drewN | apply below_drew1) | exact HB.out)) hb); clear HB; have HB := n0_; clear n0_; clear HO hb; have HO := n1_; clear n1_ ; obtain ⟨hy1, hy2, hz1, hz2, hs1, hs2⟩ := elem_put fx hlt HO.out HX.out; have HS1 := Aside0.mk hs1; clear hs1 hs2)
            go_ret
            refine ⟨_, rfl, Kd.S_lower ?_ HW.out.size, below_step HW.out (below_set (below_set HB.out GE7.out) GE7.out)⟩
            have hs := (elem_put fx hlt (HS1.out (f1 + 1)) HSET.out).2.2.2.2.2 a2
            rw [HR1'.out]
            simpa using hs
        · have hmb := decide_eq_false hmx
          have hr1 : r = l0.set fx ⟨f0, f1, f2 || a2⟩ := by rw [← HR.out]; simp [hmx]
          have HR1' := Aside0.mk hr1
          clear hr1 hmx
          cases f2 with
          | true =>
            go_wp2_with (go_at_call 40; (with_reducible refine (index_calls _ _ l0 gb A1 c1 l1 _ ?s1 ?s2 ?s3 ?s4 ?s5 ?s6 ?s7).mono ?_); (case s1 => exact (Kd.S_reads' HO.out).2.2); (case s2 => exact (Kd.S_reads' HO.out).2.1); (case s3 => exact pw_cell_below HB.out HP.out); (case s4 => exact (by repeat (first | exact (Kd.C_below HR1.out HB.out) | (with_reducible refine Kd.C_alloc ?_ _) | (with_reducible refine Kd.C_drewN ?_ _) | (with_reducible refine Kd.C_drew ?_)))); (case s5 => exact hc1); (case s6 => exact fun x hx => (HALL.out x hx).1.2); (case s7 => exact HBA.out); rintro e w5 ⟨rfl, hb⟩; rw [HFX.out]; have n1_ := Aside0.mk (Kd.S_below HO.out hb); have n0_ := Aside0.mk (below_step (by repeat (first | (with_reducible first | exact HB.out | apply below_alloc | apply pw_below_drewN | apply below_drew1) | exact HB.out)) hb); clear HB; have HB := n0_; clear n0_; clear HO hb; have HO := n1_; clear n1_ ; obtain ⟨hy1, hy2, hz1, hz2, hs1, hs2⟩ := elem_put fx hlt HO.out HX.out; have HS2 := Aside0.mk hs2; clear hs1 hs2)
            go_ret
            refine ⟨_, rfl, Kd.S_lower ?_ HW.out.size, below_step HW.out (below_set HB.out GE7.out)⟩
            rw [HR1'.out]
            exact HS2.out true
          | false =>
            go_wp2_with (go_at_call 40; (with_reducible refine (index_calls _ _ l0 gb A1 c1 l1 _ ?s1 ?s2 ?s3 ?s4 ?s5 ?s6 ?s7).mono ?_); (case s1 => exact (Kd.S_reads' HO.out).2.2); (case s2 => exact (Kd.S_reads' HO.out).2.1); (case s3 => exact pw_cell_below HB.out HP.out); (case s4 => exact (by repeat (first | exact (Kd.C_below HR1.out HB.out) | (with_reducible refine Kd.C_alloc ?_ _) | (with_reducible refine Kd.C_drewN ?_ _) | (with_reducible refine Kd.C_drew ?_)))); (case s5 => exact hc1); (case s6 => exact fun x hx => (HALL.out x hx).1.2); (case s7 => exact HBA.out); rintro e w5 ⟨rfl, hb⟩; rw [HFX.out]; have n1_ := Aside0.mk (Kd.S_below HO.out hb); have n0_ := Aside0.mk (below_step (by repeat (first | (with_reducible first | exact HB.out | apply below_alloc | apply pw_below_drewN | apply below_drew1) | exact HB.out)) hb); clear HB; have HB := n0_; clear n0_; clear HO hb; have HO := n1_; clear n1_ ; obtain ⟨hy1, hy2, hz1, hz2, hs1, hs2⟩ := elem_put fx hlt HO.out HX.out; have HS2 := Aside0.mk hs2; clear hs1 hs2)
            go_ret
            refine ⟨_, rfl, Kd.S_lower ?_ HW.out.size, below_step HW.out (below_set HB.out GE7.out)⟩
            rw [HR1'.out]
            exact HS2.out a2
      · have HFX := Aside0.mk (show (if firstAt l1 l0 < l0.length then (firstAt l1 l0 : Int) else -1) = -1 by rw [if_neg hlt])
        have hr := HRES.out
        unfold noteF at hr
        rw [if_neg hlt] at hr
        have HR := Aside0.mk hr
        have HO := Aside0.mk ho
        obtain ⟨A7, c7, e7⟩ := Kd.S_slice ho
        subst e7
        clear hr ho
        have HC2 := Aside0.mk (show bytes_Clone.f l1 = some l1 by unfold bytes_Clone.f; rw [if_pos HLA.out])
        go_wp2_with (first | (go_at_call 40; (with_reducible refine (index_calls _ _ l0 gb A1 c1 l1 _ ?s1 ?s2 ?s3 ?s4 ?s5 ?s6 ?s7).mono ?_); (case s1 => exact (Kd.S_reads' HO.out).2.2); (case s2 => exact (Kd.S_reads' HO.out).2.1); (case s3 => exact pw_cell_below HB.out HP.out); (case s4 => exact (by repeat (first | exact (Kd.C_below HR1.out HB.out) | (with_reducible refine Kd.C_alloc ?_ _) | (with_reducible refine Kd.C_drewN ?_ _) | (with_reducible refine Kd.C_drew ?_)))); (case s5 => exact hc1); (case s6 => exact fun x hx => (HALL.out x hx).1.2); (case s7 => exact HBA.out); rintro e w5 ⟨rfl, hb⟩; rw [HFX.out]; have n1_ := Aside0.mk (Kd.S_below HO.out hb); have n0_ := Aside0.mk (below_step (by repeat (first | (with_reducible first | exact HB.out | apply below_alloc | apply pw_below_drewN | apply below_drew1) | exact HB.out)) hb); clear HB; have HB := n0_; clear n0_; clear HO hb; have HO := n1_; clear n1_ ; have hpx := pw_cell_below HB.out HP.out) | (go_at_call 39; (with_reducible refine (bytes_Clone.calls A1 c1 l1 l1 _ ?s1 ?s2 HC2.out).mono ?_); (case s1 => exact (by repeat (first | exact (Kd.C_below HR1.out HB.out) | (with_reducible refine Kd.C_alloc ?_ _) | (with_reducible refine Kd.C_drewN ?_ _) | (with_reducible refine Kd.C_drew ?_)))); (case s2 => exact hc1); rintro e w6 ⟨v6, rfl, ho, hb⟩; have n1_ := Aside0.mk (Kd.S_elder' (by (with_reducible repeat (first | apply Kd.S_alloc | apply Kd.S_drewN | apply Kd.S_drew)); exact HO.out) (Kd.R_base ho) hb); have n2_ := Aside0.mk (Kd.R_lower ho (below_size (by repeat (first | (with_reducible first | exact HB.out | apply below_alloc | apply pw_below_drewN | apply below_drew1) | exact HB.out)))); have n0_ := Aside0.mk (below_step (by repeat (first | (with_reducible first | exact HB.out | apply below_alloc | apply pw_below_drewN | apply below_drew1) | exact HB.out)) hb); clear HB; have HB := n0_; clear n0_; clear HO hb ho hpx; have HO := n1_; have HR3 := n2_; clear n1_ n2_; obtain ⟨A3, c3, e3⟩ := Kd.R_slice HR3.out; subst e3) | ((with_reducible refine gate_builtin (b := .append) (xs := #[.tmp 31, .tmp 36]) rfl ?_); at_builtin; refine Kd.S_append k42 (w0 := w1) w1.heap.size rfl (.tmp 31) (.tmp 36) 37 42 (.agg #[(.slice none 0 0), (.int .i64 0), (.bool false)]) 40 rfl Try.underlying37 infoT rfl (by decide) (by omega) _ l0 (⟨l1, 1, a2⟩ : S42) [.slice A3 l1.length c3, .int .i64 1, .bool a2] (fun _ => True) (fun k => some k = (.slice A3 l1.length c3 : Value).ownBlock) rfl rfl ?aP ?aK (fun _ _ => trivial) ?aO ?aB ?aS ?aL ?_; (case aP => exact k42_mkM _ _ _ (⟨l1, 1, a2⟩ : S42) (Kd.R_tight rfl HR3.out)); (case aK => exact (fun k hk => ⟨trivial, ((Kd.R_apart' HR3.out (Kd.S_typed HO.out) (by decide)).1 k hk.symm).2⟩)); (case aO => exact (Kd.S_mono HO.out (fun k hk => ⟨trivial, hk.2⟩))); (case aB => exact (by repeat (first | (with_reducible first | exact HB.out | apply below_alloc | apply pw_below_drewN | apply below_drew1) | exact HB.out))); (case aS => exact (below_size (by repeat (first | (with_reducible first | exact HB.out | apply below_alloc | apply pw_below_drewN | apply below_drew1) | exact HB.out)))); (case aL => omega); intro v4 w7 ho hb hg _; rw [HR.out] at ho; clear HB HO HR3 hg; have HB := Aside0.mk hb; have HO := Aside0.mk ho; clear ho hb))
        go_ret
        exact ⟨_, rfl, Kd.S_lower (by (with_reducible repeat (first | apply Kd.S_alloc | apply Kd.S_drewN | apply Kd.S_drew)); exact HO.out) HW.out.size, below_step HW.out (by repeat (first | (with_reducible first | exact HB.out | apply below_alloc | apply pw_below_drewN | apply below_drew1) | exact HB.out))⟩

end Go.Proofs.Ytaappkompmdjnaa.G
