/- A sector that does not belong to its parts, or has too much in it, is none: over numbers. Conditions: none. -/
import Derived.Test.YtahnncccdlblgaaHSectorPartsx1
namespace Go.Proofs.Ytahnncccdlblgaa.Pure
open Go.RowKit Go.Proofs.YtahnncccdlblgaaW.PrintWords Go.Proofs.YtahnncccdlblgaaW.PrintLast Go.Proofs.Ytahnncccdlblgaa.Plain Go.Proofs.Ytahnncccdlblgaa.G Go.Proofs.Ytahnncccdlblgaa.HSectorParts
set_option linter.unusedSimpArgs false
theorem SectorParts : gazetteerlaw09_SectorParts.Pure := by
  intro a0 a1 a2 w0 w1 w2
  have w0 : 0 ≤ a0 ∧ a0 ≤ 65535 := by simp [Lit.wf, IntKind.min, IntKind.max, IntKind.signed, IntKind.bits] at w0; omega
  have w1 : 0 ≤ a1 ∧ a1 ≤ 65535 := by simp [Lit.wf, IntKind.min, IntKind.max, IntKind.signed, IntKind.bits] at w1; omega
  have w2 : 0 ≤ a2 ∧ a2 ≤ 65535 := by simp [Lit.wf, IntKind.min, IntKind.max, IntKind.signed, IntKind.bits] at w2; omega
  refine ⟨1, ?_⟩
  unfold gazetteerlaw09_SectorParts.f sector_Seal.f
  rw [wrap_id (n := a0) (by omega) (by omega), wrap_id (n := a1) (by omega) (by omega)]
  simp only [gazetteerlaw09_SectorParts.j0, gazetteerlaw09_answers.f, Option.bind_some, if_true]
  rw [wrap_id (n := a2) (by omega) (by omega)]
  have m0 : 0 ≤ a2.tmod 600 := Int.tmod_nonneg _ w2.1
  have m1 : a2.tmod 600 < 600 := Int.tmod_lt_of_pos _ (by omega)
  generalize a2.tmod 600 = m at *
  rw [if_pos m0, if_pos (by omega)]
  have hh : headOk 1 0 0 a0 a1 = decide (a0 < 256 ∧ a1 < 256 ∧ a1 > 0 ∧ a0 < a1) := by
    rw [Bool.eq_iff_iff, decide_eq_true_iff]
    simp only [headOk, Bool.and_eq_true, fits_iff, decide_eq_true_eq]
    simp
    omega
  unfold sealF
  rw [hh, List.length_replicate]
  by_cases c0 : a0 < 256
  · by_cases c1 : a1 < 256
    · by_cases c2 : a1 > 0
      · by_cases c3 : a0 < a1
        · rw [if_pos c0, if_pos c1, if_pos c2, decide_eq_true (show a0 < 256 ∧ a1 < 256 ∧ a1 > 0 ∧ a0 < a1 from ⟨c0, c1, c2, c3⟩), decide_eq_true c3]
          by_cases cm : m > 496
          · rw [if_pos cm, if_pos rfl, if_pos rfl, if_neg (by omega)]; rfl
          · rw [if_neg cm, if_pos rfl, if_pos rfl, if_pos (by omega)]; rfl
        · rw [if_pos c0, if_pos c1, if_pos c2, decide_eq_false (fun h : a0 < 256 ∧ a1 < 256 ∧ a1 > 0 ∧ a0 < a1 => c3 h.2.2.2), decide_eq_false c3]
          by_cases cm : m > 496 <;> simp [cm]
      · rw [if_pos c0, if_pos c1, if_neg c2, decide_eq_false (fun h : a0 < 256 ∧ a1 < 256 ∧ a1 > 0 ∧ a0 < a1 => c2 h.2.2.1)]
        by_cases cm : m > 496 <;> simp [cm]
    · rw [if_pos c0, if_neg c1, decide_eq_false (fun h : a0 < 256 ∧ a1 < 256 ∧ a1 > 0 ∧ a0 < a1 => c1 h.2.1)]
      by_cases cm : m > 496 <;> simp [cm]
  · rw [if_neg c0, decide_eq_false (fun h : a0 < 256 ∧ a1 < 256 ∧ a1 > 0 ∧ a0 < a1 => c0 h.1)]
    by_cases cm : m > 496 <;> simp [cm]
end Go.Proofs.Ytahnncccdlblgaa.Pure
