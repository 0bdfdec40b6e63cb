/- Ahead of its beginning a fact is as fresh as then: the statement over numbers alone. Conditions: none. -/
import Derived.Test.YtaappkompmdjnaaPTtlEarlyx1
namespace Go.Proofs.Ytaappkompmdjnaa.Pure
open Go.RowKit Go.Proofs.Ytaappkompmdjnaa.PTtlEarly Go.Proofs.YtaappkompmdjnaaW.PrintWords Go.Proofs.YtaappkompmdjnaaW.PrintLast

theorem wf64 {n : Int} (h : (Lit.int .i64 n).wf = true) : -9223372036854775808 ≤ n ∧ n ≤ 9223372036854775807 := by
  simp [Lit.wf, IntKind.min, IntKind.max, IntKind.signed, IntKind.bits] at h; omega
theorem wfu32 {n : Int} (h : (Lit.int .u32 n).wf = true) : 0 ≤ n ∧ n ≤ 4294967295 := by
  simp [Lit.wf, IntKind.min, IntKind.max, IntKind.signed, IntKind.bits] at h; omega
theorem wfu16 {n : Int} (h : (Lit.int .u16 n).wf = true) : 0 ≤ n ∧ n ≤ 65535 := by
  simp [Lit.wf, IntKind.min, IntKind.max, IntKind.signed, IntKind.bits] at h; omega

theorem TtlEarly : gazetteerlaw12_TtlEarly.Pure := by
  intro a0 a1 a2 h0 h1 h2
  have h0 := wfu32 h0
  have h1 := wfu16 h1
  have h2 := wfu32 h2
  have e0 : wrap64 a0 = a0 := by unfold wrap64; omega
  have e1 : wrap64 a1 = a1 := by unfold wrap64; omega
  have e2 : wrap64 a2 = a2 := by unfold wrap64; omega
  have e3 : wrap64 (a0 + 1) = a0 + 1 := by unfold wrap64; omega
  have hm0 : 0 ≤ a2.tmod (a0 + 1) := Int.tmod_nonneg _ (by omega)
  have hm1 : a2.tmod (a0 + 1) < a0 + 1 := Int.tmod_lt_of_pos _ (by omega)
  unfold gazetteerlaw12_TtlEarly.f
  rw [e0, e1, e2, e3]
  generalize a2.tmod (a0 + 1) = m at hm0 hm1 ⊢
  have e4 : wrap64 (a0 - m) = a0 - m := by unfold wrap64; omega
  rw [e4, if_neg (by omega)]
  have ha : gazetteerlaw12_answers.f = some true := by decide +kernel
  have hl : ttl_Left.f a0 a1 (a0 - m) = some a1 := by
    unfold ttl_Left.f ttl_Time.f
    rw [if_pos (by omega), if_pos (by omega), if_pos (by omega)]
    have e5 : wrap64 (a0 - m - a0) = - m := by unfold wrap64; omega
    have e6 : mx (-m) 0 = 0 := by unfold mx; split <;> omega
    have e7 : wrap64 (a1 - 0) = a1 := by unfold wrap64; omega
    have e8 : mx a1 0 = a1 := by unfold mx; split <;> omega
    simp only [Option.bind_some, e5, e6, e7, e8]
    rw [if_pos (by simp; omega), if_pos (by simp; omega), if_pos (by simp; omega)]
  have hf : ttl_Fresh.f a0 a1 (a0 - m) = some (decide (a1 > 0)) := by
    unfold ttl_Fresh.f; rw [hl]; rfl
  rw [ha, hl, hf]
  simp

end Go.Proofs.Ytaappkompmdjnaa.Pure
