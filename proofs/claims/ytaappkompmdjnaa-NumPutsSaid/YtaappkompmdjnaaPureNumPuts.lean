/- Which bytes a number is, and whether it fits: the statement over numbers and lists. Conditions: none. -/
import Derived.Test.YtaappkompmdjnaaHNumPutsx1
namespace Go.Proofs.Ytaappkompmdjnaa.Pure
open Go.RowKit Go.Proofs.Ytaappkompmdjnaa.HNumPuts Go.Proofs.YtaappkompmdjnaaW.PrintWords Go.Proofs.YtaappkompmdjnaaW.PrintLast Go.Proofs.Ytaappkompmdjnaa.G Go.Proofs.Ytaappkompmdjnaa.Plain

theorem wf64 {n : Int} (h : (Lit.int .i64 n).wf = true) : -9223372036854775808 ≤ n ∧ n ≤ 9223372036854775807 := by
  simp [Lit.wf, IntKind.min, IntKind.max, IntKind.signed, IntKind.bits] at h; omega
theorem wfu8 {n : Int} (h : (Lit.int .u8 n).wf = true) : 0 ≤ n ∧ n ≤ 255 := by
  simp [Lit.wf, IntKind.min, IntKind.max, IntKind.signed, IntKind.bits] at h; omega
theorem put_some (l : List Int) (n s : Int) (h : l.length ≤ 70368744177664) : num_Put.f l n s = some (if fits n s = true then l ++ be n s.toNat else l) := by
  unfold num_Put.f; rw [if_pos h]
theorem answers_yes : gazetteerlaw01_answers.f = some true := by decide +kernel

theorem fits_some (n s : Int) : num_Fits.f n s = some (fits n s) := by
  unfold num_Fits.f
  by_cases h1 : s ≥ 1
  · by_cases h7 : s ≤ 7
    · by_cases h0 : n ≥ 0
      · have e : wrap64 (8 * s) = 8 * s := by unfold wrap64; omega
        rw [if_pos h1, if_pos h7, if_pos h0, e, if_pos (by omega)]
        congr 1
        rw [← shr_zero h1 h7 h0, shr, Nat.min_eq_left (by simp [IntKind.bits]; omega)]
      · rw [if_pos h1, if_pos h7, if_neg h0, bool_false_of fits_iff (fun h => h0 h.2.2.1)]
    · rw [if_pos h1, if_neg h7, bool_false_of fits_iff (fun h => h7 h.2.1)]
  · rw [if_neg h1, bool_false_of fits_iff (fun h => h1 h.1)]

theorem NumPuts : gazetteerlaw01_NumPuts.Pure := by
  intro l n s _ _ hb hn hs
  have hn := wf64 hn
  unfold gazetteerlaw01_NumPuts.f
  rw [answers_yes]
  by_cases hl : (l.length : Int) > 5000
  · rw [if_pos hl]; rfl
  · rw [if_neg hl]
    have hr : gazetteerref01_Fits.f n s = some (fits n s) := by unfold gazetteerref01_Fits.f; rw [if_pos hn.2]
    have hp : gazetteerref01_Put.f l n s = some (if fits n s = true then l ++ be n s.toNat else l) := by unfold gazetteerref01_Put.f; rw [if_pos hn.2, put_some l n s (by omega)]
    simp only [Option.bind_some, fits_some, hr, beq_self_eq_true, if_true, List.nil_append, List.length_nil]
    rw [if_pos (by omega), put_some l n s (by omega), hp]
    simp [gazetteerref01_Same.f]

end Go.Proofs.Ytaappkompmdjnaa.Pure
