/- How many seconds are left, whether it is fresh or stale, and what is told: the walks of the reference's Tell and of the statement's own text. Conditions: none. -/
import Derived.Test.YtaappkompmdjnaaPTtlTellsx1
namespace Go.Proofs.Ytaappkompmdjnaa.Tells
open Go.RowKit Go.Proofs.Ytaappkompmdjnaa.PTtlTells Go.Proofs.YtaappkompmdjnaaW.PrintWords Go.Proofs.YtaappkompmdjnaaW.PrintLast Go.Proofs.YtaappkompmdjnaaW.PrintMore
set_option linter.unusedVariables false
set_option linter.unusedSimpArgs false

/-- A time may be. -/
def ok (a : Int) : Prop := 0 ≤ a ∧ a ≤ 36028797018963968
theorem rtime_true {a : Int} (h : ok a) : gazetteerref12_Time.f a = some true := by
  unfold gazetteerref12_Time.f; rw [if_pos h.1]; simp [h.2]
theorem rtime_false {a : Int} (h : ¬ ok a) : gazetteerref12_Time.f a = some false := by
  unfold ok at h; unfold gazetteerref12_Time.f; split
  · have : ¬ a ≤ 36028797018963968 := by omega
    simp [this]
  · rfl
theorem time_true {a : Int} (h : ok a) : ttl_Time.f a = some true := by
  unfold ttl_Time.f; rw [if_pos h.1]; simp [h.2]
theorem time_false {a : Int} (h : ¬ ok a) : ttl_Time.f a = some false := by
  unfold ok at h; unfold ttl_Time.f; split
  · have : ¬ a ≤ 36028797018963968 := by omega
    simp [this]
  · rfl

/-- What the reference's Tell answers where a time may not be. -/
theorem tell_no (a b c : Int) (w : World) (h : ¬ (ok a ∧ ok b ∧ ok c)) :
    Calls Try.prog 33 #[.int .i64 a, .int .i64 b, .int .i64 c] w fun e w' => e = .returned (.int .i64 0) ∧ Drawn0 w w' := by
  by_cases ha : ok a
  · by_cases hb : ok b
    · have hc : ¬ ok c := fun hc => h ⟨ha, hb, hc⟩
      have A := Aside0.mk (rtime_true ha)
      have B := Aside0.mk (rtime_true hb)
      have C := Aside0.mk (rtime_false hc)
      clear ha hb hc h
      go_enter Try.func33, Try.ntmps33
      go_wp2_with (go_at_call 38; (first | (with_reducible refine (gazetteerref12_Time.calls a true _ A.out).mono ?_) | (with_reducible refine (gazetteerref12_Time.calls b true _ B.out).mono ?_) | (with_reducible refine (gazetteerref12_Time.calls c false _ C.out).mono ?_)); rintro e w' ⟨rfl, ⟨nd, rfl⟩⟩)
      go_ret
      exact ⟨rfl, by repeat (first | exact Drawn0.refl _ | apply Drawn0.step)⟩
    · have A := Aside0.mk (rtime_true ha)
      have B := Aside0.mk (rtime_false hb)
      clear ha hb h
      go_enter Try.func33, Try.ntmps33
      go_wp2_with (go_at_call 38; (first | (with_reducible refine (gazetteerref12_Time.calls a true _ A.out).mono ?_) | (with_reducible refine (gazetteerref12_Time.calls b false _ B.out).mono ?_)); rintro e w' ⟨rfl, ⟨nd, rfl⟩⟩)
      go_ret
      exact ⟨rfl, by repeat (first | exact Drawn0.refl _ | apply Drawn0.step)⟩
  · have A := Aside0.mk (rtime_false ha)
    clear ha h
    go_enter Try.func33, Try.ntmps33
    go_wp2_with (go_at_call 38; (with_reducible refine (gazetteerref12_Time.calls a false _ A.out).mono ?_); rintro e w' ⟨rfl, ⟨nd, rfl⟩⟩)
    go_ret
    exact ⟨rfl, by repeat (first | exact Drawn0.refl _ | apply Drawn0.step)⟩

/-- What the reference's Tell answers where all times may be. -/
theorem tell_yes (k : Nat) (a b c L : Int) (w : World) (ha : ok a) (hb : ok b) (hc : ok c) (hl : gazetteerref12_Left.f k a b c = some L) :
    Calls Try.prog 33 #[.int .i64 a, .int .i64 b, .int .i64 c] w fun e w' => e = .returned (.int .i64 (if L > 0 then L else 30)) ∧ Drawn0 w w' := by
  have A := Aside0.mk (rtime_true ha)
  have B := Aside0.mk (rtime_true hb)
  have C := Aside0.mk (rtime_true hc)
  have D := Aside0.mk hl
  clear ha hb hc hl
  by_cases hp : L > 0
  · rw [if_pos hp]
    have hp' : decide (0 < L) = true := decide_eq_true hp
    clear hp
    go_enter Try.func33, Try.ntmps33
    go_wp2_with (first | (go_at_call 38; (first | (with_reducible refine (gazetteerref12_Time.calls a true _ A.out).mono ?_) | (with_reducible refine (gazetteerref12_Time.calls b true _ B.out).mono ?_) | (with_reducible refine (gazetteerref12_Time.calls c true _ C.out).mono ?_)); rintro e w' ⟨rfl, ⟨nd, rfl⟩⟩) | (go_at_call 29; (with_reducible refine (gazetteerref12_Left.calls k a b c L _ D.out).mono ?_); rintro e w' ⟨rfl, ⟨nd, rfl⟩⟩))
    go_ret
    exact ⟨rfl, by repeat (first | exact Drawn0.refl _ | apply Drawn0.step)⟩
  · rw [if_neg hp]
    have hp' : decide (0 < L) = false := decide_eq_false hp
    clear hp
    go_enter Try.func33, Try.ntmps33
    go_wp2_with (first | (go_at_call 38; (first | (with_reducible refine (gazetteerref12_Time.calls a true _ A.out).mono ?_) | (with_reducible refine (gazetteerref12_Time.calls b true _ B.out).mono ?_) | (with_reducible refine (gazetteerref12_Time.calls c true _ C.out).mono ?_)); rintro e w' ⟨rfl, ⟨nd, rfl⟩⟩) | (go_at_call 29; (with_reducible refine (gazetteerref12_Left.calls k a b c L _ D.out).mono ?_); rintro e w' ⟨rfl, ⟨nd, rfl⟩⟩))
    go_ret
    exact ⟨rfl, by repeat (first | exact Drawn0.refl _ | apply Drawn0.step)⟩

/-- The statement's text: where all six answers are known, and the two of each pair are one. -/
theorem law_calls (k k2 : Nat) (a b c v L T : Int) (S : Bool) (w : World)
    (h0 : gazetteerlaw12_answers.f = some true) (h1 : ttl_Left.f a b c = some L) (h2 : gazetteerref12_Left.f k a b c = some L)
    (h3 : ttl_Fresh.f a b c = some (decide (0 < L))) (h4 : ttl_Stale.f a b v c = some S) (h5 : gazetteerref12_Stale.f k a b v c = some S)
    (h6 : ttl_Tell.f k2 a b c = some T)
    (h7 : ∀ w : World, Calls Try.prog 33 #[.int .i64 a, .int .i64 b, .int .i64 c] w fun e w' => e = .returned (.int .i64 T) ∧ Drawn0 w w') :
    Calls Try.prog 9 #[.int .i64 a, .int .i64 b, .int .i64 c, .int .i64 v] w fun e w' => e = .returned (.bool true) ∧ Below w.heap.size w w' := by
  have HB := Aside0.mk (Below.refl w.heap.size w)
  have A0 := Aside0.mk h0
  have A1 := Aside0.mk h1
  have A2 := Aside0.mk h2
  have A3 := Aside0.mk h3
  have A4 := Aside0.mk h4
  have A5 := Aside0.mk h5
  have A6 := Aside0.mk h6
  have A7 := Aside0.mk h7
  clear h0 h1 h2 h3 h4 h5 h6 h7
  go_enter Try.func9, Try.ntmps9
  go_wp2_with (first | (go_at_call 15; (with_reducible refine (gazetteerlaw12_answers.calls true _ A0.out).mono ?_); rintro e w1 ⟨rfl, hb⟩; have n0_ := Aside0.mk (below_step (by repeat (first | (with_reducible first | exact HB.out | apply below_alloc | apply pw_below_drewN | apply below_drew1) | exact HB.out)) hb); clear HB hb; have HB := n0_; clear n0_) | (go_at_call 16; (with_reducible refine (ttl_Left.calls a b c L _ A1.out).mono ?_); rintro e w2 ⟨rfl, hb⟩; have n0_ := Aside0.mk (below_step (by repeat (first | (with_reducible first | exact HB.out | apply below_alloc | apply pw_below_drewN | apply below_drew1) | exact HB.out)) hb); clear HB hb; have HB := n0_; clear n0_) | (go_at_call 29; (with_reducible refine (gazetteerref12_Left.calls k a b c L _ A2.out).mono ?_); rintro e w' ⟨rfl, ⟨nd, rfl⟩⟩) | (go_at_call 17; (with_reducible refine (ttl_Fresh.calls a b c _ _ A3.out).mono ?_); rintro e w3 ⟨rfl, hb⟩; have n0_ := Aside0.mk (below_step (by repeat (first | (with_reducible first | exact HB.out | apply below_alloc | apply pw_below_drewN | apply below_drew1) | exact HB.out)) hb); clear HB hb; have HB := n0_; clear n0_) | (go_at_call 30; (with_reducible refine (ttl_Stale.calls a b v c S _ A4.out).mono ?_); rintro e w4 ⟨rfl, hb⟩; have n0_ := Aside0.mk (below_step (by repeat (first | (with_reducible first | exact HB.out | apply below_alloc | apply pw_below_drewN | apply below_drew1) | exact HB.out)) hb); clear HB hb; have HB := n0_; clear n0_) | (go_at_call 31; (with_reducible refine (gazetteerref12_Stale.calls k a b v c S _ A5.out).mono ?_); rintro e w' ⟨rfl, ⟨nd, rfl⟩⟩) | (go_at_call 32; (with_reducible refine (ttl_Tell.calls k2 a b c T _ A6.out).mono ?_); rintro e w5 ⟨rfl, hb⟩; have n0_ := Aside0.mk (below_step (by repeat (first | (with_reducible first | exact HB.out | apply below_alloc | apply pw_below_drewN | apply below_drew1) | exact HB.out)) hb); clear HB hb; have HB := n0_; clear n0_) | (go_at_call 33; (with_reducible refine (A7.out _).mono ?_); rintro e w' ⟨rfl, ⟨nd, rfl⟩⟩))
  go_ret
  exact ⟨rfl, by repeat (first | (with_reducible first | exact HB.out | apply below_alloc | apply pw_below_drewN | apply below_drew1) | exact HB.out)⟩

theorem wf64 {n : Int} (h : (Lit.int .i64 n).wf = true) : -9223372036854775808 ≤ n ∧ n ≤ 9223372036854775807 := by
  simp [Lit.wf, IntKind.min, IntKind.max, IntKind.signed, IntKind.bits] at h; omega
/-- How many seconds are left, in closed form. -/
def lft (a b c : Int) : Int := if c - a ≥ b then 0 else if c ≤ a then b else b - (c - a)
theorem left_eq {a b c : Int} (ha : ok a) (hb : ok b) (hc : ok c) : ttl_Left.f a b c = some (lft a b c) := by
  unfold ttl_Left.f
  rw [time_true ha, time_true hb, time_true hc]
  unfold ok at ha hb hc
  simp only [Option.bind_some, if_true]
  congr 1
  have e1 : wrap64 (c - a) = c - a := by unfold wrap64; omega
  rw [e1]
  have e2 : wrap64 (b - mx (c - a) 0) = b - mx (c - a) 0 := by unfold wrap64 mx; split <;> omega
  rw [e2]
  unfold mx lft
  repeat' split
  all_goals omega
theorem left_no {a b c : Int} (h : ¬ (ok a ∧ ok b ∧ ok c)) : ttl_Left.f a b c = some 0 := by
  unfold ttl_Left.f
  by_cases ha : ok a
  · by_cases hb : ok b
    · have hc : ¬ ok c := fun hc => h ⟨ha, hb, hc⟩
      rw [time_true ha, time_true hb, time_false hc]; rfl
    · rw [time_true ha, time_false hb]; rfl
  · rw [time_false ha]; rfl
theorem rleft_eq {a b c : Int} (ha : ok a) (hb : ok b) (hc : ok c) : gazetteerref12_Left.f 1 a b c = some (lft a b c) := by
  unfold gazetteerref12_Left.f
  rw [rtime_true ha, rtime_true hb, rtime_true hc]
  unfold ok at ha hb hc
  simp only [Option.bind_some, if_true, Bool.not_true, gazetteerref12_Left.j0]
  rw [if_neg (by decide)]
  have e1 : wrap64 (a + b) = a + b := by unfold wrap64; omega
  have e2 : wrap64 (a + b - a) = b := by unfold wrap64; omega
  have e3 : wrap64 (a + b - c) = a + b - c := by unfold wrap64; omega
  rw [e1, e2, e3]
  unfold lft
  repeat' split
  all_goals first | rfl | (congr 1; omega) | omega
theorem rleft_no {a b c : Int} (h : ¬ (ok a ∧ ok b ∧ ok c)) : gazetteerref12_Left.f 1 a b c = some 0 := by
  unfold gazetteerref12_Left.f
  by_cases ha : ok a
  · by_cases hb : ok b
    · have hc : ¬ ok c := fun hc => h ⟨ha, hb, hc⟩
      rw [rtime_true ha, rtime_true hb, rtime_false hc]; rfl
    · rw [rtime_true ha, rtime_false hb]; rfl
  · rw [rtime_false ha]; rfl

theorem walk (a b c v : Int) (w : World) (ha : (Lit.int .i64 a).wf = true) (hb : (Lit.int .i64 b).wf = true) (hc : (Lit.int .i64 c).wf = true) (hv : (Lit.int .i64 v).wf = true) :
    Calls Try.prog 9 #[.int .i64 a, .int .i64 b, .int .i64 c, .int .i64 v] w fun e w' => e = .returned (.bool true) ∧ Below w.heap.size w w' := by
  have h0 : gazetteerlaw12_answers.f = some true := by decide +kernel
  by_cases h : ok a ∧ ok b ∧ ok c
  · have h1 := left_eq h.1 h.2.1 h.2.2
    have h2 := rleft_eq h.1 h.2.1 h.2.2
    have h3 : ttl_Fresh.f a b c = some (decide (0 < lft a b c)) := by unfold ttl_Fresh.f; rw [h1]; rfl
    have hz : 0 ≤ lft a b c := by have := h.2.1; unfold ok at this; unfold lft; repeat' split <;> omega
    have h6 : ttl_Tell.f 1 a b c = some (if lft a b c > 0 then lft a b c else 30) := by
      unfold ttl_Tell.f
      rw [time_true h.1, time_true h.2.1, time_true h.2.2]
      simp only [Option.bind_some, if_true, Bool.not_true, ttl_Tell.j0]
      rw [if_neg (by decide), h1]
      simp only [Option.bind_some]
      split <;> rfl
    by_cases hw : ok v
    · have h4 : ttl_Stale.f a b v c = some (if lft a b c = 0 then decide (c < wrap64 (wrap64 (a + b) + v)) else false) := by
        unfold ttl_Stale.f
        rw [time_true h.1, time_true h.2.1, time_true h.2.2, time_true hw, h3]
        simp only [Option.bind_some, if_true]
        by_cases e : lft a b c = 0
        · simp [e]
        · have : 0 < lft a b c := by omega
          simp [e, this]
      have h5 : gazetteerref12_Stale.f 1 a b v c = some (if lft a b c = 0 then decide (c < wrap64 (wrap64 (a + b) + v)) else false) := by
        unfold gazetteerref12_Stale.f
        rw [rtime_true h.1, rtime_true h.2.1, rtime_true h.2.2, rtime_true hw, h2]
        simp only [Option.bind_some, if_true]
        split <;> rfl
      exact law_calls 1 1 a b c v _ _ _ w h0 h1 h2 h3 h4 h5 h6 (fun w => tell_yes 1 a b c _ w h.1 h.2.1 h.2.2 h2)
    · have h4 : ttl_Stale.f a b v c = some false := by
        unfold ttl_Stale.f
        rw [time_true h.1, time_true h.2.1, time_true h.2.2, time_false hw]; rfl
      have h5 : gazetteerref12_Stale.f 1 a b v c = some false := by
        unfold gazetteerref12_Stale.f
        rw [rtime_true h.1, rtime_true h.2.1, rtime_true h.2.2, rtime_false hw]; rfl
      exact law_calls 1 1 a b c v _ _ _ w h0 h1 h2 h3 h4 h5 h6 (fun w => tell_yes 1 a b c _ w h.1 h.2.1 h.2.2 h2)
  · have h1 := left_no h
    have h2 := rleft_no h
    have h3 : ttl_Fresh.f a b c = some (decide ((0 : Int) < 0)) := by unfold ttl_Fresh.f; rw [h1]; rfl
    have h4 : ttl_Stale.f a b v c = some false := by
      unfold ttl_Stale.f
      by_cases ha : ok a
      · by_cases hb : ok b
        · have hc : ¬ ok c := fun hc => h ⟨ha, hb, hc⟩
          rw [time_true ha, time_true hb, time_false hc]; rfl
        · rw [time_true ha, time_false hb]; rfl
      · rw [time_false ha]; rfl
    have h5 : gazetteerref12_Stale.f 1 a b v c = some false := by
      unfold gazetteerref12_Stale.f
      by_cases ha : ok a
      · by_cases hb : ok b
        · have hc : ¬ ok c := fun hc => h ⟨ha, hb, hc⟩
          rw [rtime_true ha, rtime_true hb, rtime_false hc]; rfl
        · rw [rtime_true ha, rtime_false hb]; rfl
      · rw [rtime_false ha]; rfl
    have h6 : ttl_Tell.f 1 a b c = some 0 := by
      unfold ttl_Tell.f
      by_cases ha : ok a
      · by_cases hb : ok b
        · have hc : ¬ ok c := fun hc => h ⟨ha, hb, hc⟩
          rw [time_true ha, time_true hb, time_false hc]; rfl
        · rw [time_true ha, time_false hb]; rfl
      · rw [time_false ha]; rfl
    exact law_calls 1 1 a b c v _ _ _ w h0 h1 h2 h3 h4 h5 h6 (fun w => tell_no a b c w h)

end Go.Proofs.Ytaappkompmdjnaa.Tells
