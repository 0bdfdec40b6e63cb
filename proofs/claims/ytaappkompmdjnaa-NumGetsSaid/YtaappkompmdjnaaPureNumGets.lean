/- Which number stands at a place, or why none does: the statement over numbers and lists. Conditions: none. -/
import Derived.Test.YtaappkompmdjnaaHNumGetsx1
namespace Go.Proofs.Ytaappkompmdjnaa.Pure
open Go.RowKit Go.Proofs.Ytaappkompmdjnaa.HNumGets Go.Proofs.YtaappkompmdjnaaW.PrintWords Go.Proofs.YtaappkompmdjnaaW.PrintLast Go.Proofs.Ytaappkompmdjnaa.G Go.Proofs.Ytaappkompmdjnaa.Plain

theorem wf64 {n : Int} (h : (Lit.int .i64 n).wf = true) : -9223372036854775808 ≤ n ∧ n ≤ 9223372036854775807 := by
  simp [Lit.wf, IntKind.min, IntKind.max, IntKind.signed, IntKind.bits] at h; omega
theorem wfu8 {n : Int} (h : (Lit.int .u8 n).wf = true) : 0 ≤ n ∧ n ≤ 255 := by
  simp [Lit.wf, IntKind.min, IntKind.max, IntKind.signed, IntKind.bits] at h; omega
theorem put_some (l : List Int) (n s : Int) (h : l.length ≤ 70368744177664) : num_Put.f l n s = some (if fits n s = true then l ++ be n s.toNat else l) := by
  unfold num_Put.f; rw [if_pos h]
theorem answers_yes : gazetteerlaw01_answers.f = some true := by decide +kernel

theorem NumGets : gazetteerlaw01_NumGets.Pure := by
  intro l p s _ hl hb hp hs
  have hbB : bytesB l = true := bytesB_iff.2 (fun x hx => wfu8 (hb x hx))
  unfold gazetteerlaw01_NumGets.f
  simp only [Option.bind_some, List.nil_append, List.length_nil, answers_yes]
  rw [if_pos (by omega)]
  unfold gazetteerref01_Get.f num_Get.f
  rw [if_pos hbB]
  simp

end Go.Proofs.Ytaappkompmdjnaa.Pure
