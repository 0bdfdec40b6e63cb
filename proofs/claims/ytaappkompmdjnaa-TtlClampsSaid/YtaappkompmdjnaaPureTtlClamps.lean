/- Which TTL stands for one: the statement over numbers alone. Conditions: none. -/
import Derived.Test.YtaappkompmdjnaaPTtlClampsx1
namespace Go.Proofs.Ytaappkompmdjnaa.Pure
open Go.RowKit Go.Proofs.Ytaappkompmdjnaa.PTtlClamps Go.Proofs.YtaappkompmdjnaaW.PrintWords Go.Proofs.YtaappkompmdjnaaW.PrintLast

theorem wf64 {n : Int} (h : (Lit.int .i64 n).wf = true) : -9223372036854775808 ≤ n ∧ n ≤ 9223372036854775807 := by
  simp [Lit.wf, IntKind.min, IntKind.max, IntKind.signed, IntKind.bits] at h; omega
theorem wfu32 {n : Int} (h : (Lit.int .u32 n).wf = true) : 0 ≤ n ∧ n ≤ 4294967295 := by
  simp [Lit.wf, IntKind.min, IntKind.max, IntKind.signed, IntKind.bits] at h; omega
theorem wfu16 {n : Int} (h : (Lit.int .u16 n).wf = true) : 0 ≤ n ∧ n ≤ 65535 := by
  simp [Lit.wf, IntKind.min, IntKind.max, IntKind.signed, IntKind.bits] at h; omega

theorem TtlClamps : gazetteerlaw12_TtlClamps.Pure := by
  intro a0 a1 h0
  have h0 := wf64 h0
  refine ⟨1, ?_⟩
  have ha : gazetteerlaw12_answers.f = some true := by decide +kernel
  unfold gazetteerlaw12_TtlClamps.f
  rw [ha]
  cases a1 with
  | true =>
    have hc : gazetteerref12_Clamp.f 1 a0 true = some (mn (mx a0 0) 10800) := by
      unfold gazetteerref12_Clamp.f gazetteerref12_Clamp.j0 mn mx
      simp
      repeat' split
      all_goals first | rfl | (simp at *; omega) | omega
    have hc2 : ∀ x, ttl_Clamp.f x true = some (mn (mx x 0) 10800) := fun x => by unfold ttl_Clamp.f; rfl
    rw [hc, hc2]
    simp only [Option.bind_some, if_true, hc2]
    have : mn (mx a0 0) 10800 ≥ 0 := by unfold mn mx; repeat' split <;> omega
    rw [if_pos this]
    simp
    unfold mn mx at this ⊢; repeat' split <;> omega
  | false =>
    have hc : gazetteerref12_Clamp.f 1 a0 false = some (mn (mx a0 0) 604800) := by
      unfold gazetteerref12_Clamp.f gazetteerref12_Clamp.j0 mn mx
      simp
      repeat' split
      all_goals first | rfl | (simp at *; omega) | omega
    have hc2 : ∀ x, ttl_Clamp.f x false = some (mn (mx x 0) 604800) := fun x => by unfold ttl_Clamp.f; rfl
    rw [hc, hc2]
    simp only [Option.bind_some, if_true, hc2]
    have : mn (mx a0 0) 604800 ≥ 0 := by unfold mn mx; repeat' split <;> omega
    rw [if_pos this]
    simp
    unfold mn mx at this ⊢; repeat' split <;> omega

end Go.Proofs.Ytaappkompmdjnaa.Pure
