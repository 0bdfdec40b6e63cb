/- What the references' Exact, Size and Sound do, in closed form. Conditions: none for Exact and Sound; sound labels for Size. -/
import Derived.Test.YtahnncccdlblgaaBRefx2
import Derived.Test.YtahnncccdlblgaaNames
namespace Go.Proofs.Ytahnncccdlblgaa.G
open Go.RowKit Go.Proofs.YtahnncccdlblgaaW.PrintWords Go.Proofs.YtahnncccdlblgaaW.PrintLast Go.Proofs.YtahnncccdlblgaaW.PrintMore Go.Proofs.Ytahnncccdlblgaa.Plain
set_option linter.unusedVariables false
set_option linter.unusedSimpArgs false
theorem toList_inj {s t : ByteArray} : s.toList = t.toList ↔ s = t := by
  rw [ByteArray.toList_eq, ByteArray.toList_eq]
  constructor
  · intro h
    obtain ⟨⟨a⟩⟩ := s
    obtain ⟨⟨b⟩⟩ := t
    congr
  · rintro rfl; rfl
theorem rd_get {l : List ByteArray} {i : Nat} (h : i < l.length) : rdOf ByteArray.empty l (i : Int) = l[i] := by
  simp [rdOf, List.getD_eq_getElem?_getD, h]
theorem rexact_loop (l0 l1 : List ByteArray) (hl : l0.length = l1.length) (hm : l0.length ≤ 9223372036854775807) (d : Nat) : ∀ (k : Nat) (i : Nat), i + d = l0.length → d < k →
    BRef.gazetteerref01_Exact.l0 k l0 l1 (i : Int) = some (decide (l0.drop i = l1.drop i)) := by
  induction d with
  | zero =>
    intro k i hi hk
    obtain ⟨k, rfl⟩ : ∃ m, k = m + 1 := ⟨k - 1, by omega⟩
    simp only [BRef.gazetteerref01_Exact.l0]
    rw [if_neg (by omega), List.drop_eq_nil_of_le (by omega), List.drop_eq_nil_of_le (by omega)]; simp
  | succ d ih =>
    intro k i hi hk
    obtain ⟨k, rfl⟩ : ∃ m, k = m + 1 := ⟨k - 1, by omega⟩
    simp only [BRef.gazetteerref01_Exact.l0]
    have h0 : i < l0.length := by omega
    have h1 : i < l1.length := by omega
    rw [if_pos (by omega), if_pos (by omega), if_pos (by omega), wrap_id (by omega) (by omega), rd_get h0, rd_get h1]
    by_cases he : l0[i] = l1[i]
    · rw [if_pos (toList_inj.2 he), show ((i : Int) + 1) = ((i + 1 : Nat) : Int) by omega, ih k (i + 1) (by omega) (by omega)]
      congr 1
      rw [decide_eq_decide, List.drop_eq_getElem_cons h0, List.drop_eq_getElem_cons h1, he]
      exact ⟨fun h => by rw [h], fun h => (List.cons.inj h).2⟩
    · rw [if_neg (fun h => he (toList_inj.1 h)), decide_eq_false]
      rw [List.drop_eq_getElem_cons h0, List.drop_eq_getElem_cons h1]
      exact fun h => he (List.cons.inj h).1
theorem ref_Exact (A0 : Option Addr) (c0 : Nat) (l0 : List ByteArray) (A1 : Option Addr) (c1 : Nat) (l1 : List ByteArray) (w : World) (hr0 : Kd.C Kd.string w A0 l0.length l0) (hc0 : l0.length ≤ c0) (hr1 : Kd.C Kd.string w A1 l1.length l1) (hc1 : l1.length ≤ c1) :
    Calls Try.prog 20 #[.slice A0 l0.length c0, .slice A1 l1.length c1] w fun e w' => e = .returned (.bool (decide (l0 = l1))) ∧ Drawn0 w w' := by
  refine BRef.gazetteerref01_Exact.calls (l0.length + 1) A0 c0 l0 A1 c1 l1 _ w hr0 hc0 hr1 hc1 ?_
  unfold BRef.gazetteerref01_Exact.f
  by_cases hl : (l0.length : Int) = (l1.length : Int)
  · rw [if_pos hl]
    have := rexact_loop l0 l1 (by omega) (Kd.C_max hr0) l0.length (l0.length + 1) 0 (by omega) (by omega)
    simpa using this
  · rw [if_neg hl]
    have : l0 ≠ l1 := fun e => hl (by rw [e])
    simp [this]
theorem rsize_loop (l : List ByteArray) (hs : ∀ s ∈ l, s.size ≤ 63) (hl : l.length ≤ 255) (d : Nat) : ∀ (k i : Nat), i + d = l.length → d < k → BRef.gazetteerref01_Size.l0 k l (sizeL (l.take i)) (i : Int) = some (sizeL l) := by
  induction d with
  | zero =>
    intro k i hi hk
    obtain ⟨k, rfl⟩ : ∃ m, k = m + 1 := ⟨k - 1, by omega⟩
    simp only [BRef.gazetteerref01_Size.l0]
    rw [if_neg (by omega), List.take_of_length_le (by omega)]
  | succ d ih =>
    intro k i hi hk
    obtain ⟨k, rfl⟩ : ∃ m, k = m + 1 := ⟨k - 1, by omega⟩
    simp only [BRef.gazetteerref01_Size.l0]
    have h0 : i < l.length := by omega
    have hbd := sizeL_bd (l.take i) (fun s hs' => hs s (List.mem_of_mem_take hs'))
    have htl : (l.take i).length ≤ l.length := List.length_take_le' _ _
    have hsz := hs _ (List.getElem_mem h0)
    rw [if_pos (by omega), if_pos (by omega), rd_get h0, wrap_id (n := sizeL (l.take i) + (l[i].size : Int)) (by omega) (by omega), wrap_id (by omega) (by omega), wrap_id (by omega) (by omega)]
    have e : sizeL (l.take i) + (l[i].size : Int) + 1 = sizeL (l.take (i + 1)) := by
      rw [take_snoc l ByteArray.empty i h0, sizeL_snoc]
      simp [List.getD_eq_getElem?_getD, h0]
      omega
    rw [e, show ((i : Int) + 1) = ((i + 1 : Nat) : Int) by omega, ih k (i + 1) (by omega) (by omega)]
theorem rsize (l : List ByteArray) (hs : ∀ s ∈ l, s.size ≤ 63) (hl : l.length ≤ 255) (k : Nat) (hk : l.length < k) : BRef.gazetteerref01_Size.f k l = some (sizeL l) := by
  unfold BRef.gazetteerref01_Size.f
  exact rsize_loop l hs hl l.length k 0 (by omega) hk
theorem ref_Size (A0 : Option Addr) (c0 : Nat) (l0 : List ByteArray) (w : World) (hr0 : Kd.C Kd.string w A0 l0.length l0) (hc0 : l0.length ≤ c0) (hs : ∀ s ∈ l0, s.size ≤ 63) (hl : l0.length ≤ 255) :
    Calls Try.prog 34 #[.slice A0 l0.length c0] w fun e w' => e = .returned (.int .i64 (sizeL l0)) ∧ Drawn0 w w' :=
  BRef.gazetteerref01_Size.calls (l0.length + 1) A0 c0 l0 _ w hr0 hc0 (rsize l0 hs hl _ (by omega))
theorem rsound_loop (l : List ByteArray) (hl : l.length ≤ 127) (d : Nat) : ∀ (k i : Nat), i + d = l.length → 2 * d + 2 * l.length + 3 ≤ k → (∀ s ∈ l.take i, badLab s = false) → BRef.gazetteerref01_Sound.l0 k l (i : Int) = some (!(l.drop i).any badLab && decide (sizeL l ≤ 255)) := by
  induction d with
  | zero =>
    intro k i hi hk hg
    obtain ⟨k, rfl⟩ : ∃ m, k = m + 1 := ⟨k - 1, by omega⟩
    simp only [BRef.gazetteerref01_Sound.l0]
    rw [List.take_of_length_le (by omega)] at hg
    rw [if_neg (by omega), List.drop_eq_nil_of_le (by omega), rsize l (fun s hs => by have := of_decide_eq_false (hg s hs); omega) (by omega) k (by omega)]
    rfl
  | succ d ih =>
    intro k i hi hk hg
    obtain ⟨k, rfl⟩ : ∃ m, k = m + 1 := ⟨k - 1, by omega⟩
    simp only [BRef.gazetteerref01_Sound.l0]
    have h0 : i < l.length := by omega
    rw [if_pos (by omega), if_pos (by omega), rd_get h0, List.drop_eq_getElem_cons h0, List.any_cons]
    by_cases h1 : ((l[i].size : Nat) : Int) < 1
    · have hb : badLab l[i] = true := decide_eq_true (.inl (by omega))
      rw [if_pos h1, hb]; rfl
    · by_cases h2 : ((l[i].size : Nat) : Int) > 63
      · have hb : badLab l[i] = true := decide_eq_true (.inr (by omega))
        rw [if_neg h1, if_pos h2, hb]; rfl
      · have hb : badLab l[i] = false := decide_eq_false (by omega)
        rw [if_neg h1, if_neg h2, hb, wrap_id (by omega) (by omega), show ((i : Int) + 1) = ((i + 1 : Nat) : Int) by omega, ih k (i + 1) (by omega) (by omega) ?_]
        · rfl
        · intro s hs
          rw [take_snoc l ByteArray.empty i h0] at hs
          rcases List.mem_append.1 hs with h | h
          · exact hg s h
          · rw [List.mem_singleton] at h
            rw [h]
            simpa [List.getD_eq_getElem?_getD, h0] using hb
theorem restL_two (l : List ByteArray) (h : ∀ s ∈ l, badLab s = false) : 2 * l.length ≤ (restL l).length := by
  induction l with
  | nil => simp
  | cons x l ih =>
    have := ih (fun s hs => h s (by simp [hs]))
    have hx := of_decide_eq_false (h x (by simp))
    rw [restL_cons, List.length_append, lab_length, List.length_cons]
    omega
theorem rsound (l : List ByteArray) : BRef.gazetteerref01_Sound.f (4 * l.length + 3) l = some (soundB l) := by
  unfold BRef.gazetteerref01_Sound.f soundB
  by_cases h : (l.length : Int) > 127
  · rw [if_pos h]
    congr 1
    symm
    rw [Bool.and_eq_false_iff, Bool.and_eq_false_iff]
    cases ha : l.any badLab with
    | true => exact .inl (.inr rfl)
    | false =>
      have := restL_two l (fun s hs => by simpa using List.any_eq_false.1 ha s hs)
      exact .inr (decide_eq_false (by rw [sizeL_rest]; omega))
  · rw [if_neg h, decide_eq_true (show l.length ≤ 255 by omega), Bool.true_and]
    have := rsound_loop l (by omega) l.length (4 * l.length + 3) 0 (by omega) (by omega) (by simp)
    simpa using this
theorem ref_Sound (A0 : Option Addr) (c0 : Nat) (l0 : List ByteArray) (w : World) (hr0 : Kd.C Kd.string w A0 l0.length l0) (hc0 : l0.length ≤ c0) :
    Calls Try.prog 30 #[.slice A0 l0.length c0] w fun e w' => e = .returned (.bool (soundB l0)) ∧ Drawn0 w w' :=
  BRef.gazetteerref01_Sound.calls _ A0 c0 l0 _ w hr0 hc0 (rsound l0)
end Go.Proofs.Ytahnncccdlblgaa.G
