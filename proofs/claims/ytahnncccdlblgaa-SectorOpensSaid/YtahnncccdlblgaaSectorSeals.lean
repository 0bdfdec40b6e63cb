/- Which bytes a sector is, or why it is none: over lists and numbers, and the walk. Conditions: none. -/
import Derived.Test.YtahnncccdlblgaaHSectorSealsx1
import Derived.Test.YtahnncccdlblgaaOpenH
namespace Go.Proofs.Ytahnncccdlblgaa.SectorSeals
open Go.RowKit Go.Proofs.YtahnncccdlblgaaW.PrintWords Go.Proofs.YtahnncccdlblgaaW.PrintLast Go.Proofs.Ytahnncccdlblgaa.Plain Go.Proofs.Ytahnncccdlblgaa.G Go.Proofs.Ytahnncccdlblgaa.HSectorSeals
set_option linter.unusedVariables false
theorem wf64 {n : Int} (h : (Lit.int .i64 n).wf = true) : -9223372036854775808 ≤ n ∧ n ≤ 9223372036854775807 := by
  simp [Lit.wf, IntKind.min, IntKind.max, IntKind.signed, IntKind.bits] at h; omega
theorem pure (a0 a1 a2 a3 a4 : Int) (l : List Int) (w0 : (Lit.int .i64 a0).wf = true) (w1 : (Lit.int .i64 a1).wf = true) (w2 : (Lit.int .i64 a2).wf = true) (w3 : (Lit.int .i64 a3).wf = true) (w4 : (Lit.int .i64 a4).wf = true) :
    gazetteerlaw09_SectorSeals.f 1 a0 a1 a2 a3 a4 l = some true := by
  unfold gazetteerlaw09_SectorSeals.f
  simp only [gazetteerlaw09_answers.f, Option.bind_some, if_true, gazetteerlaw09_SectorSeals.j0]
  by_cases hl : (l.length : Int) > 5000
  · rw [if_pos (decide_eq_true hl)]
  · rw [if_neg (by simpa using hl), if_pos (by simp; omega)]
    unfold sector_Seal.f gazetteerref08_Seal.f gazetteerref01_Same.f
    rw [if_pos (wf64 w0).2, if_pos (wf64 w1).2, if_pos (wf64 w2).2, if_pos (wf64 w3).2, if_pos (wf64 w4).2]
    simp
theorem walk (w : World) (a0 a1 a2 a3 a4 : Int) (w0 : (Lit.int .i64 a0).wf = true) (w1 : (Lit.int .i64 a1).wf = true) (w2 : (Lit.int .i64 a2).wf = true) (w3 : (Lit.int .i64 a3).wf = true) (w4 : (Lit.int .i64 a4).wf = true)
    (A1 : Option Addr) (c1 : Nat) (l1 : List Int) (hC : Kd.C (Kd.int .u8) w A1 l1.length l1) (hc : l1.length ≤ c1) (hok : l1.length * 1 ≤ 140737488351232 ∧ ∀ x ∈ l1, (Lit.int .u8 x).wf = true) :
    Calls Try.prog 3 #[.agg #[.int .i64 a0, .int .i64 a1, .int .i64 a2, .int .i64 a3, .int .i64 a4], .slice A1 l1.length c1] w fun e w' => e = .returned (.bool true) ∧ Below w.heap.size w w' :=
  gazetteerlaw09_SectorSeals.calls 1 a0 a1 a2 a3 a4 A1 c1 l1 true w hC hc (pure a0 a1 a2 a3 a4 l1 w0 w1 w2 w3 w4)
theorem opens_bytes {H : Type} {enc : TypeId × Value → H} {w : World} {base : Nat} {spare : Nat → Bool} {held : Bool} : Open.Opens enc Try.prog w base spare held 24 (Kd.slice 5 (Kd.int .u8)) (fun xs => xs.length * 1 ≤ 140737488351232 ∧ ∀ x ∈ xs, (Lit.int .u8 x).wf = true) :=
  Open.opens_slice Try.underlying24 (by kernel_rfl) (by kernel_rfl) (Open.opens_int Try.underlying5)
end Go.Proofs.Ytahnncccdlblgaa.SectorSeals
