/- What the statements' own copy of a list of servers is: the same list. Conditions: fewer bytes and servers than may be appended to. -/
import Derived.Test.YtaappkompmdjnaaGnote
namespace Go.Proofs.Ytaappkompmdjnaa.G
open Go.RowKit Go.Proofs.YtaappkompmdjnaaW.PrintWords Go.Proofs.YtaappkompmdjnaaW.PrintLast Go.Proofs.YtaappkompmdjnaaW.PrintMore Go.Proofs.Ytaappkompmdjnaa.Plain
attribute [local go_sem] max2_int min2_int max_two min_two max_three min_three max_four min_four
set_option linter.unusedVariables false
set_option linter.unusedSimpArgs false
open Go.Proofs.Ytaappkompmdjnaa.BPick (S42 k42 rd_T42 z42)
def ownOk (l : List S42) : Bool := decide (l.length ≤ 1000000) && l.all fun x => decide (x.f0.length < 140737488355328)
theorem rd_at (l : List S42) (j : Nat) (h : j < l.length) : rd_T42 l (j : Int) = l[j] := by
  unfold rd_T42; rw [Int.toNat_natCast, List.getD_eq_getElem?_getD, List.getElem?_eq_getElem h]; rfl
theorem own_loop (l : List S42) (h : ownOk l = true) (d : Nat) : ∀ (k j : Nat), j + d = l.length → d < k →
    BPick.gazetteerlaw19_own.l0 k l (l.take j) (j : Int) = some l := by
  unfold ownOk at h
  simp only [Bool.and_eq_true, decide_eq_true_eq, List.all_eq_true] at h
  induction d with
  | zero =>
    intro k j hj hk
    obtain ⟨k, rfl⟩ : ∃ m, k = m + 1 := ⟨k - 1, by omega⟩
    simp only [BPick.gazetteerlaw19_own.l0]
    rw [if_neg (by omega), List.take_of_length_le (by omega)]
  | succ d ih =>
    intro k j hj hk
    obtain ⟨k, rfl⟩ : ∃ m, k = m + 1 := ⟨k - 1, by omega⟩
    have hjl : j < l.length := by omega
    have hx := h.2 l[j] (List.getElem_mem hjl)
    simp only [BPick.gazetteerlaw19_own.l0, Option.bind_some, List.nil_append, List.length_nil]
    rw [rd_at l j hjl, if_pos (by omega), if_pos (by omega), if_pos (by omega), if_pos (by rw [List.length_take]; omega), wrap_id (by omega) (by omega)]
    rw [show ((j : Int) + 1) = ((j + 1 : Nat) : Int) by omega, show (⟨l[j].f0, l[j].f1, l[j].f2⟩ : S42) = l[j] from rfl, ← List.take_succ_eq_append_getElem hjl]
    exact ih k (j + 1) (by omega) (by omega)
def gazetteerlaw19_own.f (l : List S42) : Option (List S42) := if ownOk l = true then some l else none
theorem gazetteerlaw19_own.calls (A0 : Option Addr) (c0 : Nat) (l0 : List (S42)) (r : List (S42)) (w : World) (hr0 : Kd.C k42 w A0 l0.length l0) (hc0 : l0.length ≤ c0) (h : gazetteerlaw19_own.f l0 = some r) :
    Calls Try.prog 28 #[.slice A0 l0.length c0] w fun e w' => ∃ v0_ : Value, e = .returned (v0_) ∧ Kd.S k42 42 w' w.heap.size (fun _ => True) v0_ r ∧ Below w.heap.size w w' := by
  unfold gazetteerlaw19_own.f at h
  cases hk : ownOk l0 with
  | false => rw [hk] at h; cases h
  | true =>
    rw [if_pos hk] at h
    obtain rfl := Option.some.inj h
    refine BPick.gazetteerlaw19_own.calls (l0.length + 1) A0 c0 l0 l0 w hr0 hc0 ?_
    have := own_loop l0 hk l0.length (l0.length + 1) 0 (by omega) (by omega)
    exact this

end Go.Proofs.Ytaappkompmdjnaa.G
