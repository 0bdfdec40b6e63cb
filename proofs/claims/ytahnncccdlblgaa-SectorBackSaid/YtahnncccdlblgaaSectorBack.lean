/- What was sealed is told by it, whole: over lists and numbers, and the walk. Conditions: none. -/
import Derived.Test.YtahnncccdlblgaaHSectorBackx2
import Derived.Test.YtahnncccdlblgaaSectorSeals
import Derived.Test.YtahnncccdlblgaaVals
namespace Go.Proofs.Ytahnncccdlblgaa.SectorBack
open Go.RowKit Go.Proofs.YtahnncccdlblgaaW.PrintWords Go.Proofs.YtahnncccdlblgaaW.PrintLast Go.Proofs.Ytahnncccdlblgaa.Plain Go.Proofs.Ytahnncccdlblgaa.G Go.Proofs.Ytahnncccdlblgaa.HSectorBack
set_option linter.unusedVariables false
set_option linter.unusedSimpArgs false
theorem wf64 {n : Int} (h : (Lit.int .i64 n).wf = true) : -9223372036854775808 ≤ n ∧ n ≤ 9223372036854775807 := by
  simp [Lit.wf, IntKind.min, IntKind.max, IntKind.signed, IntKind.bits] at h; omega
theorem wfu8 {n : Int} (h : (Lit.int .u8 n).wf = true) : 0 ≤ n ∧ n ≤ 255 := by
  simp [Lit.wf, IntKind.min, IntKind.max, IntKind.signed, IntKind.bits] at h; omega
theorem mid (A B C : List Int) (p s : Nat) (hA : A.length = p) (hB : B.length = s) : ((A ++ B ++ C).take (p + s)).drop p = B := by
  subst hA hB
  rw [show A.length + B.length = (A ++ B).length by simp, List.take_left, List.drop_left]
theorem field_of (L A B C : List Int) (n : Int) (j : Nat) (hL : L = A ++ B ++ C) (hA : A.length = offN j) (hB : B = be n (szN j)) (h0 : 0 ≤ n) (h1 : n < 256 ^ szN j) : fieldN L j = n := by
  unfold fieldN fld
  rw [hL, mid A B C _ _ hA (by rw [hB, be_length]), hB, val_be n _ h0 h1]
theorem open_seal (a0 a1 a2 a3 a4 : Int) (l : List Int) (h : headOk a0 a1 a2 a3 a4 = true) (hl : l.length ≤ 496) : openF (sealB a0 a1 a2 a3 a4 l) = (a0, a1, a2, a3, a4, l, 0) := by
  have hh := h
  simp only [headOk, Bool.and_eq_true, fits_iff, decide_eq_true_eq] at h
  obtain ⟨⟨_, _, p0, q0⟩, ⟨_, _, p1, q1⟩, ⟨_, _, p2, q2⟩, ⟨_, _, p3, q3⟩, ⟨_, _, p4, q4⟩, _, _, _⟩ := h
  have e0 : fieldN (sealB a0 a1 a2 a3 a4 l) 0 = a0 := field_of _ [] (be a0 1) _ a0 0 (by simp [sealB]; rfl) rfl rfl p0 q0
  have e1 : fieldN (sealB a0 a1 a2 a3 a4 l) 1 = a1 := field_of _ (be a0 1) (be a1 4) _ a1 1 (by simp [sealB]; rfl) (by simp [be_length, offN]) rfl p1 q1
  have e2 : fieldN (sealB a0 a1 a2 a3 a4 l) 2 = a2 := field_of _ (be a0 1 ++ be a1 4) (be a2 7) _ a2 2 (by simp [sealB]; rfl) (by simp [be_length, offN]) rfl p2 q2
  have e3 : fieldN (sealB a0 a1 a2 a3 a4 l) 3 = a3 := field_of _ (be a0 1 ++ be a1 4 ++ be a2 7) (be a3 1) _ a3 3 (by simp [sealB]; rfl) (by simp [be_length, offN]) rfl p3 q3
  have e4 : fieldN (sealB a0 a1 a2 a3 a4 l) 4 = a4 := field_of _ (be a0 1 ++ be a1 4 ++ be a2 7 ++ be a3 1) (be a4 1) _ a4 4 (by simp [sealB]; rfl) (by simp [be_length, offN]) rfl p4 q4
  have e5 : fieldN (sealB a0 a1 a2 a3 a4 l) 5 = (l.length : Int) := field_of _ (be a0 1 ++ be a1 4 ++ be a2 7 ++ be a3 1 ++ be a4 1) (be (l.length : Int) 2) (l ++ List.replicate (496 - l.length) 0) _ 5 (by simp [sealB]) (by simp [be_length, offN]) rfl (by omega) (by show (l.length : Int) < 256 ^ 2; omega)
  have ed : dataN (sealB a0 a1 a2 a3 a4 l) = l := by
    unfold dataN
    rw [e5, show (16 + (l.length : Int)).toNat = 16 + l.length by omega, show (16 : Int).toNat = 16 from rfl]
    have := mid (be a0 1 ++ be a1 4 ++ be a2 7 ++ be a3 1 ++ be a4 1 ++ be (l.length : Int) 2) l (List.replicate (496 - l.length) 0) 16 l.length (by simp [be_length]) rfl
    exact this
  unfold openF
  rw [sealB_length _ _ _ _ _ _ hl, if_pos rfl, e5, if_pos (by omega), ed, e0, e1, e2, e3, e4]
  unfold sealF
  rw [if_pos hh, if_pos hl, if_pos rfl]
theorem loop (l x5 : List Int) (a0 a1 a2 a3 a4 : Int) (hm : x5.length ≤ 1000) (d : Nat) : ∀ (k i : Nat) (y : List Int), y.length = x5.length → i + d = x5.length → d < k →
    gazetteerlaw09_SectorBack.l0 k l y l 0 (i : Int) a0 a1 a2 a3 a4 a0 a1 a2 a3 a4 = some true := by
  induction d with
  | zero =>
    intro k i y hy hi hk
    obtain ⟨k, rfl⟩ : ∃ m, k = m + 1 := ⟨k - 1, by omega⟩
    simp only [gazetteerlaw09_SectorBack.l0]
    rw [if_neg (by omega)]
    simp [gazetteerref01_Same.f]
  | succ d ih =>
    intro k i y hy hi hk
    obtain ⟨k, rfl⟩ : ∃ m, k = m + 1 := ⟨k - 1, by omega⟩
    simp only [gazetteerlaw09_SectorBack.l0]
    rw [if_pos (by omega), if_pos (by omega), wrap_id (by omega) (by omega)]
    exact ih k (i + 1) _ (by simp [hy]) (by omega) (by omega)
theorem pure (a0 a1 a2 a3 a4 : Int) (l : List Int) (hl : ∀ x ∈ l, (Lit.int .u8 x).wf = true) : gazetteerlaw09_SectorBack.f 600 a0 a1 a2 a3 a4 l = some true := by
  unfold gazetteerlaw09_SectorBack.f
  simp only [gazetteerlaw09_answers.f, Option.bind_some, if_true, gazetteerlaw09_SectorBack.j0]
  have hlb : bytesB l = true := bytesB_iff.2 (fun x hx => wfu8 (hl x hx))
  by_cases hl : (l.length : Int) > 5000
  · rw [if_pos (decide_eq_true hl)]
  · rw [if_neg (by simpa using hl), if_pos (by simp; omega)]
    unfold sector_Seal.f
    simp only [Option.bind_some, List.nil_append]
    by_cases hh : headOk a0 a1 a2 a3 a4 = true
    · by_cases h4 : l.length ≤ 496
      · have hb := seal_bytes a0 a1 a2 a3 a4 l hlb
        have hs : sealF a0 a1 a2 a3 a4 l = (sealB a0 a1 a2 a3 a4 l, 0) := by unfold sealF; rw [if_pos hh, if_pos h4]
        rw [hs] at hb ⊢
        rw [if_pos rfl]
        unfold sector_Open.f
        rw [if_pos hb, open_seal a0 a1 a2 a3 a4 l hh h4]
        simp only [Option.bind_some]
        have := loop l (sealB a0 a1 a2 a3 a4 l) a0 a1 a2 a3 a4 (by rw [sealB_length _ _ _ _ _ _ h4]; omega) 512 599 0 _ rfl (by rw [sealB_length _ _ _ _ _ _ h4]) (by omega)
        exact this
      · have hs : sealF a0 a1 a2 a3 a4 l = ([], 4) := by unfold sealF; rw [if_pos hh, if_neg h4]
        rw [hs]; simp
    · have hs : sealF a0 a1 a2 a3 a4 l = ([], 15) := by unfold sealF; rw [if_neg hh]
      rw [hs]; simp
theorem walk (w : World) (a0 a1 a2 a3 a4 : Int) (w0 : (Lit.int .i64 a0).wf = true) (w1 : (Lit.int .i64 a1).wf = true) (w2 : (Lit.int .i64 a2).wf = true) (w3 : (Lit.int .i64 a3).wf = true) (w4 : (Lit.int .i64 a4).wf = true)
    (A1 : Option Addr) (c1 : Nat) (l1 : List Int) (hC : Kd.C (Kd.int .u8) w A1 l1.length l1) (hc : l1.length ≤ c1) (hok : l1.length * 1 ≤ 140737488351232 ∧ ∀ x ∈ l1, (Lit.int .u8 x).wf = true) :
    Calls Try.prog 8 #[.agg #[.int .i64 a0, .int .i64 a1, .int .i64 a2, .int .i64 a3, .int .i64 a4], .slice A1 l1.length c1] w fun e w' => e = .returned (.bool true) ∧ Below w.heap.size w w' :=
  gazetteerlaw09_SectorBack.calls 600 a0 a1 a2 a3 a4 A1 c1 l1 true w hC hc (pure a0 a1 a2 a3 a4 l1 hok.2)
end Go.Proofs.Ytahnncccdlblgaa.SectorBack
