/- Each second one is less, down to none; what is fresh is never stale, and what is stale becomes neither, in time: the statement over numbers alone. Conditions: none. -/
import Derived.Test.YtaappkompmdjnaaPTtlRunsx1
namespace Go.Proofs.Ytaappkompmdjnaa.Pure
open Go.RowKit Go.Proofs.Ytaappkompmdjnaa.PTtlRuns Go.Proofs.YtaappkompmdjnaaW.PrintWords Go.Proofs.YtaappkompmdjnaaW.PrintLast
set_option linter.unusedSimpArgs false

theorem wf64 {n : Int} (h : (Lit.int .i64 n).wf = true) : -9223372036854775808 ≤ n ∧ n ≤ 9223372036854775807 := by
  simp [Lit.wf, IntKind.min, IntKind.max, IntKind.signed, IntKind.bits] at h; omega
theorem wfu32 {n : Int} (h : (Lit.int .u32 n).wf = true) : 0 ≤ n ∧ n ≤ 4294967295 := by
  simp [Lit.wf, IntKind.min, IntKind.max, IntKind.signed, IntKind.bits] at h; omega
theorem wfu16 {n : Int} (h : (Lit.int .u16 n).wf = true) : 0 ≤ n ∧ n ≤ 65535 := by
  simp [Lit.wf, IntKind.min, IntKind.max, IntKind.signed, IntKind.bits] at h; omega

theorem time_yes (a : Int) (h0 : 0 ≤ a) (h1 : a ≤ 36028797018963968) : ttl_Time.f a = some true := by
  unfold ttl_Time.f; rw [if_pos h0]; simp [h1]
/-- How many seconds are left, in closed form. -/
def lft (a b c : Int) : Int := if c - a ≥ b then 0 else if c ≤ a then b else b - (c - a)
theorem left_eq (a b c : Int) (ha : 0 ≤ a) (ha1 : a ≤ 36028797018963968) (hb : 0 ≤ b) (hb1 : b ≤ 36028797018963968) (hc : 0 ≤ c) (hc1 : c ≤ 36028797018963968) :
    ttl_Left.f a b c = some (lft a b c) := by
  unfold ttl_Left.f
  rw [time_yes a ha ha1, time_yes b hb hb1, time_yes c hc hc1]
  simp only [Option.bind_some, if_true]
  congr 1
  have e1 : wrap64 (c - a) = c - a := by unfold wrap64; omega
  rw [e1]
  have e2 : wrap64 (b - mx (c - a) 0) = b - mx (c - a) 0 := by unfold wrap64 mx; split <;> omega
  rw [e2]
  unfold mx lft
  repeat' split
  all_goals omega
theorem fresh_eq (a b c : Int) (ha : 0 ≤ a) (ha1 : a ≤ 36028797018963968) (hb : 0 ≤ b) (hb1 : b ≤ 36028797018963968) (hc : 0 ≤ c) (hc1 : c ≤ 36028797018963968) :
    ttl_Fresh.f a b c = some (decide (lft a b c > 0)) := by
  unfold ttl_Fresh.f; rw [left_eq a b c ha ha1 hb hb1 hc hc1]; rfl
theorem stale_eq (a b v c : Int) (ha : 0 ≤ a) (ha1 : a ≤ 36028797018963968) (hb : 0 ≤ b) (hb1 : b ≤ 36028797018963968) (hv : 0 ≤ v) (hv1 : v ≤ 36028797018963968) (hc : 0 ≤ c) (hc1 : c ≤ 36028797018963968) :
    ttl_Stale.f a b v c = some (decide (lft a b c = 0 ∧ c < a + b + v)) := by
  unfold ttl_Stale.f
  rw [time_yes a ha ha1, time_yes b hb hb1, time_yes c hc hc1, time_yes v hv hv1, fresh_eq a b c ha ha1 hb hb1 hc hc1]
  have e1 : wrap64 (a + b) = a + b := by unfold wrap64; omega
  have e2 : wrap64 (a + b + v) = a + b + v := by unfold wrap64; omega
  simp only [Option.bind_some, if_true, e1, e2]
  have hl : 0 ≤ lft a b c := by unfold lft; repeat' split <;> omega
  by_cases h : lft a b c > 0
  · have : ¬ lft a b c = 0 := by omega
    simp [h, this]
  · have : lft a b c = 0 := by omega
    simp [this]
theorem tell_eq (k : Nat) (a b c : Int) (ha : 0 ≤ a) (ha1 : a ≤ 36028797018963968) (hb : 0 ≤ b) (hb1 : b ≤ 36028797018963968) (hc : 0 ≤ c) (hc1 : c ≤ 36028797018963968) :
    ttl_Tell.f (k + 1) a b c = some (if lft a b c > 0 then lft a b c else 30) := by
  unfold ttl_Tell.f
  rw [time_yes a ha ha1, time_yes b hb hb1, time_yes c hc hc1]
  simp only [Option.bind_some, if_true, Bool.not_true, ttl_Tell.j0]
  rw [if_neg (by decide), left_eq a b c ha ha1 hb hb1 hc hc1]
  simp only [Option.bind_some]
  split <;> rfl

theorem TtlRuns : gazetteerlaw12_TtlRuns.Pure := by
  intro g t v s hg ht hv hs
  have hg := wfu32 hg
  have ht := wfu16 ht
  have hv := wfu16 hv
  have hs := wfu16 hs
  refine ⟨3, ?_⟩
  have e0 : wrap64 g = g := by unfold wrap64; omega
  have e1 : wrap64 t = t := by unfold wrap64; omega
  have e2 : wrap64 v = v := by unfold wrap64; omega
  have e3 : wrap64 s = s := by unfold wrap64; omega
  have e4 : wrap64 (g + s) = g + s := by unfold wrap64; omega
  have e5 : wrap64 (g + s + 1) = g + s + 1 := by unfold wrap64; omega
  have e6 : wrap64 (g + t) = g + t := by unfold wrap64; omega
  have e7 : wrap64 (g + t + v) = g + t + v := by unfold wrap64; omega
  have ha : gazetteerlaw12_answers.f = some true := by decide +kernel
  have hj1 : gazetteerlaw12_TtlRuns.j1 2 g t v (g + t + v) false = some true := by
    simp only [gazetteerlaw12_TtlRuns.j1, e0, e1, e2]
    rw [if_neg (by decide), fresh_eq g t (g + t + v) (by omega) (by omega) (by omega) (by omega) (by omega) (by omega),
      stale_eq g t v (g + t + v) (by omega) (by omega) (by omega) (by omega) (by omega) (by omega) (by omega) (by omega),
      tell_eq 0 g t (g + t + v) (by omega) (by omega) (by omega) (by omega) (by omega) (by omega)]
    have : lft g t (g + t + v) = 0 := by unfold lft; repeat' split <;> omega
    rw [this]
    simp
  have hj0 : gazetteerlaw12_TtlRuns.j0 3 g t v s (g + s) (decide (lft g t (g + s) > 0)) (decide (lft g t (g + s) = 0 ∧ g + s < g + t + v)) (g + t + v) false = some true := by
    have hw : s < t ∧ lft g t (g + s) > 0 ∨ s ≥ t ∧ lft g t (g + s) = 0 := by unfold lft; repeat' split <;> omega
    simp only [gazetteerlaw12_TtlRuns.j0, e1, e3]
    rw [if_neg (by decide)]
    rcases hw with ⟨h1, h2⟩ | ⟨h1, h2⟩
    · have h3 : ¬ lft g t (g + s) = 0 := by omega
      have h4 : ¬ s ≥ t := by omega
      simp only [h1, h2, h3, decide_true, decide_false, false_and, bne_self_eq_false, Bool.false_eq_true, if_false, h4]
      exact hj1
    · have h3 : ¬ lft g t (g + s) > 0 := by omega
      have h4 : ¬ s < t := by omega
      simp only [h2, h3, h4, h1, decide_true, decide_false, true_and, bne_self_eq_false, Bool.false_eq_true, if_false, if_true]
      exact hj1
  unfold gazetteerlaw12_TtlRuns.f
  rw [e0, e1, e2, e3, e4, e5, e6, e7, ha]
  rw [left_eq g t (g + s) (by omega) (by omega) (by omega) (by omega) (by omega) (by omega),
    left_eq g t (g + s + 1) (by omega) (by omega) (by omega) (by omega) (by omega) (by omega),
    fresh_eq g t (g + s) (by omega) (by omega) (by omega) (by omega) (by omega) (by omega),
    stale_eq g t v (g + s) (by omega) (by omega) (by omega) (by omega) (by omega) (by omega) (by omega) (by omega)]
  simp only [Option.bind_some, if_true]
  have k1 : ¬ (lft g t (g + s + 1) > lft g t (g + s)) := by unfold lft; repeat' split <;> omega
  have k2 : wrap64 (lft g t (g + s) - lft g t (g + s + 1)) = lft g t (g + s) - lft g t (g + s + 1) := by unfold wrap64 lft; repeat' split <;> omega
  have k3 : ¬ (lft g t (g + s) - lft g t (g + s + 1) > 1) := by unfold lft; repeat' split <;> omega
  have k4 : lft g t (g + s) > 0 → lft g t (g + s + 1) = lft g t (g + s) - 1 := by unfold lft; repeat' split <;> omega
  have k5 : wrap64 (lft g t (g + s) - 1) = lft g t (g + s) - 1 := by unfold wrap64 lft; repeat' split <;> omega
  rw [k2, k5]
  simp only [k1, k3, if_false]
  by_cases hp : lft g t (g + s) > 0
  · have h3 : ¬ lft g t (g + s) = 0 := by omega
    have k6 := k4 hp
    rw [k6] at *
    rw [k6]
    simp only [hp, h3, decide_true, decide_false, false_and, if_true, if_false, Bool.false_eq_true, bne_self_eq_false] at hj0 ⊢
    exact hj0
  · simp only [hp, decide_false, if_false, Bool.false_eq_true] at hj0 ⊢
    exact hj0

end Go.Proofs.Ytaappkompmdjnaa.Pure
