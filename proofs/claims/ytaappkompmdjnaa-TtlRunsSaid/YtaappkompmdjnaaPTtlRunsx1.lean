-- PRINTED BY print.sh 35421559b90ae4d0a3588c463048766b98c2df88dd9212a6774a882060cdf62d: not written by this session
import Derived.Test.YtaappkompmdjnaaPTtlRunsx0
namespace Go.Proofs.Ytaappkompmdjnaa.PTtlRuns
open Go.RowKit Go.Proofs.YtaappkompmdjnaaW.PrintWords Go.Proofs.YtaappkompmdjnaaW.PrintLast Go.Proofs.YtaappkompmdjnaaW.PrintMore
attribute [local go_sem] max2_int min2_int max_two min_two max_three min_three max_four min_four   -- for this text's walks alone
set_option linter.unusedVariables false
set_option linter.unusedSimpArgs false

/-! ### ttl_Time: function 37 -/
def ttl_Time.f (a0 : Int) : Option (Bool) := if a0 ≥ 0 then (some (decide (a0 ≤ 36028797018963968))) else (some false)
set_option maxHeartbeats 8000000 in
set_option maxRecDepth 100000 in
theorem ttl_Time.calls (a0 : Int) (r : Bool) (w : World) (h : ttl_Time.f a0 = some r) :
    Calls Try.prog 37 #[.int .i64 a0] w fun e w' => e = .returned (.bool r) ∧ Drawn0 w w' := by
  have H : (if a0 ≥ 0 then (some (decide (a0 ≤ 36028797018963968))) else (some false)) = some r := h
  clear h
  by_cases c2 : a0 ≥ 0
  · rw [if_pos c2] at H
    have c2b0 : decide (0 ≤ a0) = true := decide_eq_true c2
    clear c2
    obtain rfl := Option.some.inj H
    go_enter Try.func37, Try.ntmps37
    go_wp2
    go_ret
    exact ⟨by first | rfl | (simp; done) | (simp [*]; done), by repeat (first | exact Drawn0.refl _ | apply Drawn0.step)⟩
  · rw [if_neg c2] at H
    have c2b0 : decide (0 ≤ a0) = false := decide_eq_false c2
    clear c2
    obtain rfl := Option.some.inj H
    go_enter Try.func37, Try.ntmps37
    go_wp2
    go_ret
    exact ⟨by first | rfl | (simp; done) | (simp [*]; done), by repeat (first | exact Drawn0.refl _ | apply Drawn0.step)⟩

/-! ### ttl_Left: function 16 -/
def ttl_Left.f (a0 : Int) (a1 : Int) (a2 : Int) : Option (Int) := (ttl_Time.f a0).bind fun t101 => (if t101 = true then ((ttl_Time.f a1).bind fun t102 => (if t102 = true then ((ttl_Time.f a2).bind fun t103 => (if t103 = true then (some (mx (wrap64 (a1 - (mx (wrap64 (a2 - a0)) 0))) 0)) else (some 0))) else (some 0))) else (some 0))
set_option maxHeartbeats 8000000 in
set_option maxRecDepth 100000 in
theorem ttl_Left.calls (a0 : Int) (a1 : Int) (a2 : Int) (r : Int) (w : World) (h : ttl_Left.f a0 a1 a2 = some r) :
    Calls Try.prog 16 #[.int .i64 a0, .int .i64 a1, .int .i64 a2] w fun e w' => e = .returned (.int .i64 r) ∧ Below w.heap.size w w' := by
  have HB := Aside0.mk (Below.refl w.heap.size w)
  have H : ((ttl_Time.f a0).bind fun t101 => (if t101 = true then ((ttl_Time.f a1).bind fun t102 => (if t102 = true then ((ttl_Time.f a2).bind fun t103 => (if t103 = true then (some (mx (wrap64 (a1 - (mx (wrap64 (a2 - a0)) 0))) 0)) else (some 0))) else (some 0))) else (some 0))) = some r := h
  clear h
  replace H := Option.bind_eq_some_iff.mp H
  obtain ⟨t101, A40, H⟩ := H
  replace H : (if t101 = true then ((ttl_Time.f a1).bind fun t102 => (if t102 = true then ((ttl_Time.f a2).bind fun t103 => (if t103 = true then (some (mx (wrap64 (a1 - (mx (wrap64 (a2 - a0)) 0))) 0)) else (some 0))) else (some 0))) else (some 0)) = some r := H
  have A4 := Aside0.mk A40
  clear A40
  by_cases c5 : t101 = true
  · subst c5
    have H1 : ((ttl_Time.f a1).bind fun t102 => (if t102 = true then ((ttl_Time.f a2).bind fun t103 => (if t103 = true then (some (mx (wrap64 (a1 - (mx (wrap64 (a2 - a0)) 0))) 0)) else (some 0))) else (some 0))) = some r := by rw [if_pos rfl] at H; exact H
    clear H
    have H := H1
    clear H1
    replace H := Option.bind_eq_some_iff.mp H
    obtain ⟨t102, A60, H⟩ := H
    replace H : (if t102 = true then ((ttl_Time.f a2).bind fun t103 => (if t103 = true then (some (mx (wrap64 (a1 - (mx (wrap64 (a2 - a0)) 0))) 0)) else (some 0))) else (some 0)) = some r := H
    have A6 := Aside0.mk A60
    clear A60
    by_cases c7 : t102 = true
    · subst c7
      have H1 : ((ttl_Time.f a2).bind fun t103 => (if t103 = true then (some (mx (wrap64 (a1 - (mx (wrap64 (a2 - a0)) 0))) 0)) else (some 0))) = some r := by rw [if_pos rfl] at H; exact H
      clear H
      have H := H1
      clear H1
      replace H := Option.bind_eq_some_iff.mp H
      obtain ⟨t103, A80, H⟩ := H
      replace H : (if t103 = true then (some (mx (wrap64 (a1 - (mx (wrap64 (a2 - a0)) 0))) 0)) else (some 0)) = some r := H
      have A8 := Aside0.mk A80
      clear A80
      by_cases c9 : t103 = true
      · subst c9
        have H1 : (some (mx (wrap64 (a1 - (mx (wrap64 (a2 - a0)) 0))) 0)) = some r := by rw [if_pos rfl] at H; exact H
        clear H
        have H := H1
        clear H1
        obtain ⟨ji10, hji10⟩ : ∃ j_ : Int, (mx (wrap64 (a2 - a0)) 0) = j_ := ⟨_, rfl⟩
        replace H : (some (mx (wrap64 (a1 - (ji10))) 0)) = some r := by first | (rw [hji10] at H; exact H) | (simp only [hji10] at H ⊢; exact H)
        (try rw [hji10] at A4)
        (try rw [hji10] at A6)
        (try rw [hji10] at A8)
        (try (have hji10l : 0 ≤ ji10 := by (rw [← hji10]; unfold mx; (repeat' split) <;> omega)))
        (try (have hji10m : 0 ≤ ji10 := by omega))
        have hji10_ : (if (wrap64 (a2 - a0)) < 0 then 0 else (wrap64 (a2 - a0))) = ji10 := hji10
        obtain ⟨ji11, hji11⟩ : ∃ j_ : Int, (mx (wrap64 (a1 - (ji10))) 0) = j_ := ⟨_, rfl⟩
        replace H : (some ji11) = some r := by first | (rw [hji11] at H; exact H) | (simp only [hji11] at H ⊢; exact H)
        (try rw [hji11] at A4)
        (try rw [hji11] at A6)
        (try rw [hji11] at A8)
        have hji11_ : (if (wrap64 (a1 - (ji10))) < 0 then 0 else (wrap64 (a1 - (ji10)))) = ji11 := hji11
        obtain rfl := Option.some.inj H
        go_enter Try.func16, Try.ntmps16
        go_wp2_with (first | ((with_reducible refine gate_callee (f := 37) rfl ?_); refine goesL_ (some 8) rfl rfl Try.func37 (by kernel_rfl) rfl #[.int .i64 a0] rfl (by (try simp only [List.map_toArray, List.map_cons, List.map_nil]); first | done | rfl | (simp only [List.length_drop, List.length_take]; rfl)) ?_; (with_reducible refine (ttl_Time.calls a0 true _ A4.out).mono ?_); rintro e w' ⟨rfl, ⟨nd, rfl⟩⟩; refine ⟨_, rfl, ?_⟩) | (go_at_call 37; (with_reducible refine (ttl_Time.calls a1 true _ A6.out).mono ?_); rintro e w' ⟨rfl, ⟨nd, rfl⟩⟩) | (go_at_call 37; (with_reducible refine (ttl_Time.calls a2 true _ A8.out).mono ?_); rintro e w' ⟨rfl, ⟨nd, rfl⟩⟩))
        go_ret
        exact ⟨by first | rfl | (simp [errW_none, errW_some] <;> rfl) | (simp only [← hji10, ← hji11]; first | rfl | (simp [errW_none, errW_some] <;> rfl)) | (simp [*, errW_none, errW_some] <;> rfl), by repeat (first | (with_reducible first | exact HB.out | apply below_alloc | apply pw_below_drewN | apply below_drew1) | exact HB.out)⟩
      · replace c9 := Bool.eq_false_iff.mpr c9
        subst c9
        have H1 : (some 0) = some r := by rw [if_neg (show ¬ (false = true) by decide)] at H; exact H
        clear H
        have H := H1
        clear H1
        obtain rfl := Option.some.inj H
        go_enter Try.func16, Try.ntmps16
        go_wp2_with (first | ((with_reducible refine gate_callee (f := 37) rfl ?_); refine goesL_ (some 8) rfl rfl Try.func37 (by kernel_rfl) rfl #[.int .i64 a0] rfl (by (try simp only [List.map_toArray, List.map_cons, List.map_nil]); first | done | rfl | (simp only [List.length_drop, List.length_take]; rfl)) ?_; (with_reducible refine (ttl_Time.calls a0 true _ A4.out).mono ?_); rintro e w' ⟨rfl, ⟨nd, rfl⟩⟩; refine ⟨_, rfl, ?_⟩) | (go_at_call 37; (with_reducible refine (ttl_Time.calls a1 true _ A6.out).mono ?_); rintro e w' ⟨rfl, ⟨nd, rfl⟩⟩) | (go_at_call 37; (with_reducible refine (ttl_Time.calls a2 false _ A8.out).mono ?_); rintro e w' ⟨rfl, ⟨nd, rfl⟩⟩))
        go_ret
        exact ⟨by first | rfl | (simp [errW_none, errW_some] <;> rfl) | (simp [*, errW_none, errW_some] <;> rfl), by repeat (first | (with_reducible first | exact HB.out | apply below_alloc | apply pw_below_drewN | apply below_drew1) | exact HB.out)⟩
    · replace c7 := Bool.eq_false_iff.mpr c7
      subst c7
      have H1 : (some 0) = some r := by rw [if_neg (show ¬ (false = true) by decide)] at H; exact H
      clear H
      have H := H1
      clear H1
      obtain rfl := Option.some.inj H
      go_enter Try.func16, Try.ntmps16
      go_wp2_with (first | ((with_reducible refine gate_callee (f := 37) rfl ?_); refine goesL_ (some 8) rfl rfl Try.func37 (by kernel_rfl) rfl #[.int .i64 a0] rfl (by (try simp only [List.map_toArray, List.map_cons, List.map_nil]); first | done | rfl | (simp only [List.length_drop, List.length_take]; rfl)) ?_; (with_reducible refine (ttl_Time.calls a0 true _ A4.out).mono ?_); rintro e w' ⟨rfl, ⟨nd, rfl⟩⟩; refine ⟨_, rfl, ?_⟩) | (go_at_call 37; (with_reducible refine (ttl_Time.calls a1 false _ A6.out).mono ?_); rintro e w' ⟨rfl, ⟨nd, rfl⟩⟩))
      go_ret
      exact ⟨by first | rfl | (simp [errW_none, errW_some] <;> rfl) | (simp [*, errW_none, errW_some] <;> rfl), by repeat (first | (with_reducible first | exact HB.out | apply below_alloc | apply pw_below_drewN | apply below_drew1) | exact HB.out)⟩
  · replace c5 := Bool.eq_false_iff.mpr c5
    subst c5
    have H1 : (some 0) = some r := by rw [if_neg (show ¬ (false = true) by decide)] at H; exact H
    clear H
    have H := H1
    clear H1
    obtain rfl := Option.some.inj H
    go_enter Try.func16, Try.ntmps16
    go_wp2_with (first | ((with_reducible refine gate_callee (f := 37) rfl ?_); refine goesL_ (some 8) rfl rfl Try.func37 (by kernel_rfl) rfl #[.int .i64 a0] rfl (by (try simp only [List.map_toArray, List.map_cons, List.map_nil]); first | done | rfl | (simp only [List.length_drop, List.length_take]; rfl)) ?_; (with_reducible refine (ttl_Time.calls a0 false _ A4.out).mono ?_); rintro e w' ⟨rfl, ⟨nd, rfl⟩⟩; refine ⟨_, rfl, ?_⟩))
    go_ret
    exact ⟨by first | rfl | (simp [errW_none, errW_some] <;> rfl) | (simp [*, errW_none, errW_some] <;> rfl), by repeat (first | (with_reducible first | exact HB.out | apply below_alloc | apply pw_below_drewN | apply below_drew1) | exact HB.out)⟩

/-! ### gazetteerlaw12_answers: function 15 -/
def gazetteerlaw12_answers.f  : Option (Bool) := (ttl_Left.f 10 5 12).bind fun t104 => (some (t104 == 3))
set_option maxHeartbeats 8000000 in
set_option maxRecDepth 100000 in
theorem gazetteerlaw12_answers.calls  (r : Bool) (w : World) (h : gazetteerlaw12_answers.f  = some r) :
    Calls Try.prog 15 #[] w fun e w' => e = .returned (.bool r) ∧ Below w.heap.size w w' := by
  have HB := Aside0.mk (Below.refl w.heap.size w)
  have H : ((ttl_Left.f 10 5 12).bind fun t104 => (some (t104 == 3))) = some r := h
  clear h
  replace H := Option.bind_eq_some_iff.mp H
  obtain ⟨t104, A10, H⟩ := H
  replace H : (some (t104 == 3)) = some r := H
  have A1 := Aside0.mk A10
  clear A10
  obtain rfl := Option.some.inj H
  go_enter Try.func15, Try.ntmps15
  go_wp2_with (first | ((with_reducible refine gate_callee (f := 16) rfl ?_); refine goesL_ (some 1) rfl rfl Try.func16 (by kernel_rfl) rfl #[.int .i64 10, .int .i64 5, .int .i64 12] rfl (by (try simp only [List.map_toArray, List.map_cons, List.map_nil]); first | done | rfl | (simp only [List.length_drop, List.length_take]; rfl)) ?_; (with_reducible refine (ttl_Left.calls 10 5 12 t104 _ A1.out).mono ?_); rintro e w2 ⟨rfl, hb⟩; refine ⟨_, rfl, ?_⟩; have n0_ := Aside0.mk (below_step (by repeat (first | (with_reducible first | exact HB.out | apply below_alloc | apply pw_below_drewN | apply below_drew1) | exact HB.out)) hb); clear HB; have HB := n0_; clear n0_; (try clear hb); (try clear hb2); (try clear hk); (try clear hi)))
  go_ret
  exact ⟨by first | rfl | (simp [errW_none, errW_some] <;> rfl) | (simp [*, errW_none, errW_some] <;> rfl), by repeat (first | (with_reducible first | exact HB.out | apply below_alloc | apply pw_below_drewN | apply below_drew1) | exact HB.out)⟩

/-! ### ttl_Fresh: function 17 -/
def ttl_Fresh.f (a0 : Int) (a1 : Int) (a2 : Int) : Option (Bool) := (ttl_Left.f a0 a1 a2).bind fun t105 => (some (decide (t105 > 0)))
set_option maxHeartbeats 8000000 in
set_option maxRecDepth 100000 in
theorem ttl_Fresh.calls (a0 : Int) (a1 : Int) (a2 : Int) (r : Bool) (w : World) (h : ttl_Fresh.f a0 a1 a2 = some r) :
    Calls Try.prog 17 #[.int .i64 a0, .int .i64 a1, .int .i64 a2] w fun e w' => e = .returned (.bool r) ∧ Below w.heap.size w w' := by
  have HB := Aside0.mk (Below.refl w.heap.size w)
  have H : ((ttl_Left.f a0 a1 a2).bind fun t105 => (some (decide (t105 > 0)))) = some r := h
  clear h
  replace H := Option.bind_eq_some_iff.mp H
  obtain ⟨t105, A40, H⟩ := H
  replace H : (some (decide (t105 > 0))) = some r := H
  have A4 := Aside0.mk A40
  clear A40
  obtain rfl := Option.some.inj H
  go_enter Try.func17, Try.ntmps17
  go_wp2_with (first | ((with_reducible refine gate_callee (f := 16) rfl ?_); refine goesL_ (some 10) rfl rfl Try.func16 (by kernel_rfl) rfl #[.int .i64 a0, .int .i64 a1, .int .i64 a2] rfl (by (try simp only [List.map_toArray, List.map_cons, List.map_nil]); first | done | rfl | (simp only [List.length_drop, List.length_take]; rfl)) ?_; (with_reducible refine (ttl_Left.calls a0 a1 a2 t105 _ A4.out).mono ?_); rintro e w5 ⟨rfl, hb⟩; refine ⟨_, rfl, ?_⟩; have n0_ := Aside0.mk (below_step (by repeat (first | (with_reducible first | exact HB.out | apply below_alloc | apply pw_below_drewN | apply below_drew1) | exact HB.out)) hb); clear HB; have HB := n0_; clear n0_; (try clear hb); (try clear hb2); (try clear hk); (try clear hi)))
  go_ret
  exact ⟨by first | rfl | (simp [errW_none, errW_some] <;> rfl) | (simp [*, errW_none, errW_some] <;> rfl), by repeat (first | (with_reducible first | exact HB.out | apply below_alloc | apply pw_below_drewN | apply below_drew1) | exact HB.out)⟩

/-! ### ttl_Stale: function 30 -/
def ttl_Stale.f (a0 : Int) (a1 : Int) (a2 : Int) (a3 : Int) : Option (Bool) := (ttl_Time.f a0).bind fun t106 => (if t106 = true then ((ttl_Time.f a1).bind fun t107 => (if t107 = true then ((ttl_Time.f a3).bind fun t108 => (if t108 = true then ((ttl_Time.f a2).bind fun t109 => (if t109 = true then ((ttl_Fresh.f a0 a1 a3).bind fun t110 => (if t110 = true then (some false) else (some (decide (a3 < (wrap64 ((wrap64 (a0 + a1)) + a2))))))) else (some false))) else (some false))) else (some false))) else (some false))
set_option maxHeartbeats 8000000 in
set_option maxRecDepth 100000 in
theorem ttl_Stale.calls (a0 : Int) (a1 : Int) (a2 : Int) (a3 : Int) (r : Bool) (w : World) (h : ttl_Stale.f a0 a1 a2 a3 = some r) :
    Calls Try.prog 30 #[.int .i64 a0, .int .i64 a1, .int .i64 a2, .int .i64 a3] w fun e w' => e = .returned (.bool r) ∧ Below w.heap.size w w' := by
  have HB := Aside0.mk (Below.refl w.heap.size w)
  have H : ((ttl_Time.f a0).bind fun t106 => (if t106 = true then ((ttl_Time.f a1).bind fun t107 => (if t107 = true then ((ttl_Time.f a3).bind fun t108 => (if t108 = true then ((ttl_Time.f a2).bind fun t109 => (if t109 = true then ((ttl_Fresh.f a0 a1 a3).bind fun t110 => (if t110 = true then (some false) else (some (decide (a3 < (wrap64 ((wrap64 (a0 + a1)) + a2))))))) else (some false))) else (some false))) else (some false))) else (some false))) = some r := h
  clear h
  replace H := Option.bind_eq_some_iff.mp H
  obtain ⟨t106, A50, H⟩ := H
  replace H : (if t106 = true then ((ttl_Time.f a1).bind fun t107 => (if t107 = true then ((ttl_Time.f a3).bind fun t108 => (if t108 = true then ((ttl_Time.f a2).bind fun t109 => (if t109 = true then ((ttl_Fresh.f a0 a1 a3).bind fun t110 => (if t110 = true then (some false) else (some (decide (a3 < (wrap64 ((wrap64 (a0 + a1)) + a2))))))) else (some false))) else (some false))) else (some false))) else (some false)) = some r := H
  have A5 := Aside0.mk A50
  clear A50
  by_cases c6 : t106 = true
  · subst c6
    have H1 : ((ttl_Time.f a1).bind fun t107 => (if t107 = true then ((ttl_Time.f a3).bind fun t108 => (if t108 = true then ((ttl_Time.f a2).bind fun t109 => (if t109 = true then ((ttl_Fresh.f a0 a1 a3).bind fun t110 => (if t110 = true then (some false) else (some (decide (a3 < (wrap64 ((wrap64 (a0 + a1)) + a2))))))) else (some false))) else (some false))) else (some false))) = some r := by rw [if_pos rfl] at H; exact H
    clear H
    have H := H1
    clear H1
    replace H := Option.bind_eq_some_iff.mp H
    obtain ⟨t107, A70, H⟩ := H
    replace H : (if t107 = true then ((ttl_Time.f a3).bind fun t108 => (if t108 = true then ((ttl_Time.f a2).bind fun t109 => (if t109 = true then ((ttl_Fresh.f a0 a1 a3).bind fun t110 => (if t110 = true then (some false) else (some (decide (a3 < (wrap64 ((wrap64 (a0 + a1)) + a2))))))) else (some false))) else (some false))) else (some false)) = some r := H
    have A7 := Aside0.mk A70
    clear A70
    by_cases c8 : t107 = true
    · subst c8
      have H1 : ((ttl_Time.f a3).bind fun t108 => (if t108 = true then ((ttl_Time.f a2).bind fun t109 => (if t109 = true then ((ttl_Fresh.f a0 a1 a3).bind fun t110 => (if t110 = true then (some false) else (some (decide (a3 < (wrap64 ((wrap64 (a0 + a1)) + a2))))))) else (some false))) else (some false))) = some r := by rw [if_pos rfl] at H; exact H
      clear H
      have H := H1
      clear H1
      replace H := Option.bind_eq_some_iff.mp H
      obtain ⟨t108, A90, H⟩ := H
      replace H : (if t108 = true then ((ttl_Time.f a2).bind fun t109 => (if t109 = true then ((ttl_Fresh.f a0 a1 a3).bind fun t110 => (if t110 = true then (some false) else (some (decide (a3 < (wrap64 ((wrap64 (a0 + a1)) + a2))))))) else (some false))) else (some false)) = some r := H
      have A9 := Aside0.mk A90
      clear A90
      by_cases c10 : t108 = true
      · subst c10
        have H1 : ((ttl_Time.f a2).bind fun t109 => (if t109 = true then ((ttl_Fresh.f a0 a1 a3).bind fun t110 => (if t110 = true then (some false) else (some (decide (a3 < (wrap64 ((wrap64 (a0 + a1)) + a2))))))) else (some false))) = some r := by rw [if_pos rfl] at H; exact H
        clear H
        have H := H1
        clear H1
        replace H := Option.bind_eq_some_iff.mp H
        obtain ⟨t109, A110, H⟩ := H
        replace H : (if t109 = true then ((ttl_Fresh.f a0 a1 a3).bind fun t110 => (if t110 = true then (some false) else (some (decide (a3 < (wrap64 ((wrap64 (a0 + a1)) + a2))))))) else (some false)) = some r := H
        have A11 := Aside0.mk A110
        clear A110
        by_cases c12 : t109 = true
        · subst c12
          have H1 : ((ttl_Fresh.f a0 a1 a3).bind fun t110 => (if t110 = true then (some false) else (some (decide (a3 < (wrap64 ((wrap64 (a0 + a1)) + a2))))))) = some r := by rw [if_pos rfl] at H; exact H
          clear H
          have H := H1
          clear H1
          replace H := Option.bind_eq_some_iff.mp H
          obtain ⟨t110, A130, H⟩ := H
          replace H : (if t110 = true then (some false) else (some (decide (a3 < (wrap64 ((wrap64 (a0 + a1)) + a2)))))) = some r := H
          have A13 := Aside0.mk A130
          clear A130
          by_cases c14 : t110 = true
          · subst c14
            have H1 : (some false) = some r := by rw [if_pos rfl] at H; exact H
            clear H
            have H := H1
            clear H1
            obtain rfl := Option.some.inj H
            go_enter Try.func30, Try.ntmps30
            go_wp2_with (first | ((with_reducible refine gate_callee (f := 37) rfl ?_); refine goesL_ (some 10) rfl rfl Try.func37 (by kernel_rfl) rfl #[.int .i64 a0] rfl (by (try simp only [List.map_toArray, List.map_cons, List.map_nil]); first | done | rfl | (simp only [List.length_drop, List.length_take]; rfl)) ?_; (with_reducible refine (ttl_Time.calls a0 true _ A5.out).mono ?_); rintro e w' ⟨rfl, ⟨nd, rfl⟩⟩; refine ⟨_, rfl, ?_⟩) | (go_at_call 37; (with_reducible refine (ttl_Time.calls a1 true _ A7.out).mono ?_); rintro e w' ⟨rfl, ⟨nd, rfl⟩⟩) | (go_at_call 37; (with_reducible refine (ttl_Time.calls a3 true _ A9.out).mono ?_); rintro e w' ⟨rfl, ⟨nd, rfl⟩⟩) | (go_at_call 37; (with_reducible refine (ttl_Time.calls a2 true _ A11.out).mono ?_); rintro e w' ⟨rfl, ⟨nd, rfl⟩⟩) | ((with_reducible refine gate_callee (f := 17) rfl ?_); refine goesL_ (some 30) rfl rfl Try.func17 (by kernel_rfl) rfl #[.int .i64 a0, .int .i64 a1, .int .i64 a3] rfl (by (try simp only [List.map_toArray, List.map_cons, List.map_nil]); first | done | rfl | (simp only [List.length_drop, List.length_take]; rfl)) ?_; (with_reducible refine (ttl_Fresh.calls a0 a1 a3 true _ A13.out).mono ?_); rintro e w15 ⟨rfl, hb⟩; refine ⟨_, rfl, ?_⟩; have n0_ := Aside0.mk (below_step (by repeat (first | (with_reducible first | exact HB.out | apply below_alloc | apply pw_below_drewN | apply below_drew1) | exact HB.out)) hb); clear HB; have HB := n0_; clear n0_; (try clear hb); (try clear hb2); (try clear hk); (try clear hi)))
            go_ret
            exact ⟨by first | rfl | (simp [errW_none, errW_some] <;> rfl) | (simp [*, errW_none, errW_some] <;> rfl), by repeat (first | (with_reducible first | exact HB.out | apply below_alloc | apply pw_below_drewN | apply below_drew1) | exact HB.out)⟩
          · replace c14 := Bool.eq_false_iff.mpr c14
            subst c14
            have H1 : (some (decide (a3 < (wrap64 ((wrap64 (a0 + a1)) + a2))))) = some r := by rw [if_neg (show ¬ (false = true) by decide)] at H; exact H
            clear H
            have H := H1
            clear H1
            obtain rfl := Option.some.inj H
            go_enter Try.func30, Try.ntmps30
            go_wp2_with (first | ((with_reducible refine gate_callee (f := 37) rfl ?_); refine goesL_ (some 10) rfl rfl Try.func37 (by kernel_rfl) rfl #[.int .i64 a0] rfl (by (try simp only [List.map_toArray, List.map_cons, List.map_nil]); first | done | rfl | (simp only [List.length_drop, List.length_take]; rfl)) ?_; (with_reducible refine (ttl_Time.calls a0 true _ A5.out).mono ?_); rintro e w' ⟨rfl, ⟨nd, rfl⟩⟩; refine ⟨_, rfl, ?_⟩) | (go_at_call 37; (with_reducible refine (ttl_Time.calls a1 true _ A7.out).mono ?_); rintro e w' ⟨rfl, ⟨nd, rfl⟩⟩) | (go_at_call 37; (with_reducible refine (ttl_Time.calls a3 true _ A9.out).mono ?_); rintro e w' ⟨rfl, ⟨nd, rfl⟩⟩) | (go_at_call 37; (with_reducible refine (ttl_Time.calls a2 true _ A11.out).mono ?_); rintro e w' ⟨rfl, ⟨nd, rfl⟩⟩) | ((with_reducible refine gate_callee (f := 17) rfl ?_); refine goesL_ (some 30) rfl rfl Try.func17 (by kernel_rfl) rfl #[.int .i64 a0, .int .i64 a1, .int .i64 a3] rfl (by (try simp only [List.map_toArray, List.map_cons, List.map_nil]); first | done | rfl | (simp only [List.length_drop, List.length_take]; rfl)) ?_; (with_reducible refine (ttl_Fresh.calls a0 a1 a3 false _ A13.out).mono ?_); rintro e w16 ⟨rfl, hb⟩; refine ⟨_, rfl, ?_⟩; have n0_ := Aside0.mk (below_step (by repeat (first | (with_reducible first | exact HB.out | apply below_alloc | apply pw_below_drewN | apply below_drew1) | exact HB.out)) hb); clear HB; have HB := n0_; clear n0_; (try clear hb); (try clear hb2); (try clear hk); (try clear hi)))
            go_ret
            exact ⟨by first | rfl | (simp [errW_none, errW_some] <;> rfl) | (simp [*, errW_none, errW_some] <;> rfl), by repeat (first | (with_reducible first | exact HB.out | apply below_alloc | apply pw_below_drewN | apply below_drew1) | exact HB.out)⟩
        · replace c12 := Bool.eq_false_iff.mpr c12
          subst c12
          have H1 : (some false) = some r := by rw [if_neg (show ¬ (false = true) by decide)] at H; exact H
          clear H
          have H := H1
          clear H1
          obtain rfl := Option.some.inj H
          go_enter Try.func30, Try.ntmps30
          go_wp2_with (first | ((with_reducible refine gate_callee (f := 37) rfl ?_); refine goesL_ (some 10) rfl rfl Try.func37 (by kernel_rfl) rfl #[.int .i64 a0] rfl (by (try simp only [List.map_toArray, List.map_cons, List.map_nil]); first | done | rfl | (simp only [List.length_drop, List.length_take]; rfl)) ?_; (with_reducible refine (ttl_Time.calls a0 true _ A5.out).mono ?_); rintro e w' ⟨rfl, ⟨nd, rfl⟩⟩; refine ⟨_, rfl, ?_⟩) | (go_at_call 37; (with_reducible refine (ttl_Time.calls a1 true _ A7.out).mono ?_); rintro e w' ⟨rfl, ⟨nd, rfl⟩⟩) | (go_at_call 37; (with_reducible refine (ttl_Time.calls a3 true _ A9.out).mono ?_); rintro e w' ⟨rfl, ⟨nd, rfl⟩⟩) | (go_at_call 37; (with_reducible refine (ttl_Time.calls a2 false _ A11.out).mono ?_); rintro e w' ⟨rfl, ⟨nd, rfl⟩⟩))
          go_ret
          exact ⟨by first | rfl | (simp [errW_none, errW_some] <;> rfl) | (simp [*, errW_none, errW_some] <;> rfl), by repeat (first | (with_reducible first | exact HB.out | apply below_alloc | apply pw_below_drewN | apply below_drew1) | exact HB.out)⟩
      · replace c10 := Bool.eq_false_iff.mpr c10
        subst c10
        have H1 : (some false) = some r := by rw [if_neg (show ¬ (false = true) by decide)] at H; exact H
        clear H
        have H := H1
        clear H1
        obtain rfl := Option.some.inj H
        go_enter Try.func30, Try.ntmps30
        go_wp2_with (first | ((with_reducible refine gate_callee (f := 37) rfl ?_); refine goesL_ (some 10) rfl rfl Try.func37 (by kernel_rfl) rfl #[.int .i64 a0] rfl (by (try simp only [List.map_toArray, List.map_cons, List.map_nil]); first | done | rfl | (simp only [List.length_drop, List.length_take]; rfl)) ?_; (with_reducible refine (ttl_Time.calls a0 true _ A5.out).mono ?_); rintro e w' ⟨rfl, ⟨nd, rfl⟩⟩; refine ⟨_, rfl, ?_⟩) | (go_at_call 37; (with_reducible refine (ttl_Time.calls a1 true _ A7.out).mono ?_); rintro e w' ⟨rfl, ⟨nd, rfl⟩⟩) | (go_at_call 37; (with_reducible refine (ttl_Time.calls a3 false _ A9.out).mono ?_); rintro e w' ⟨rfl, ⟨nd, rfl⟩⟩))
        go_ret
        exact ⟨by first | rfl | (simp [errW_none, errW_some] <;> rfl) | (simp [*, errW_none, errW_some] <;> rfl), by repeat (first | (with_reducible first | exact HB.out | apply below_alloc | apply pw_below_drewN | apply below_drew1) | exact HB.out)⟩
    · replace c8 := Bool.eq_false_iff.mpr c8
      subst c8
      have H1 : (some false) = some r := by rw [if_neg (show ¬ (false = true) by decide)] at H; exact H
      clear H
      have H := H1
      clear H1
      obtain rfl := Option.some.inj H
      go_enter Try.func30, Try.ntmps30
      go_wp2_with (first | ((with_reducible refine gate_callee (f := 37) rfl ?_); refine goesL_ (some 10) rfl rfl Try.func37 (by kernel_rfl) rfl #[.int .i64 a0] rfl (by (try simp only [List.map_toArray, List.map_cons, List.map_nil]); first | done | rfl | (simp only [List.length_drop, List.length_take]; rfl)) ?_; (with_reducible refine (ttl_Time.calls a0 true _ A5.out).mono ?_); rintro e w' ⟨rfl, ⟨nd, rfl⟩⟩; refine ⟨_, rfl, ?_⟩) | (go_at_call 37; (with_reducible refine (ttl_Time.calls a1 false _ A7.out).mono ?_); rintro e w' ⟨rfl, ⟨nd, rfl⟩⟩))
      go_ret
      exact ⟨by first | rfl | (simp [errW_none, errW_some] <;> rfl) | (simp [*, errW_none, errW_some] <;> rfl), by repeat (first | (with_reducible first | exact HB.out | apply below_alloc | apply pw_below_drewN | apply below_drew1) | exact HB.out)⟩
  · replace c6 := Bool.eq_false_iff.mpr c6
    subst c6
    have H1 : (some false) = some r := by rw [if_neg (show ¬ (false = true) by decide)] at H; exact H
    clear H
    have H := H1
    clear H1
    obtain rfl := Option.some.inj H
    go_enter Try.func30, Try.ntmps30
    go_wp2_with (first | ((with_reducible refine gate_callee (f := 37) rfl ?_); refine goesL_ (some 10) rfl rfl Try.func37 (by kernel_rfl) rfl #[.int .i64 a0] rfl (by (try simp only [List.map_toArray, List.map_cons, List.map_nil]); first | done | rfl | (simp only [List.length_drop, List.length_take]; rfl)) ?_; (with_reducible refine (ttl_Time.calls a0 false _ A5.out).mono ?_); rintro e w' ⟨rfl, ⟨nd, rfl⟩⟩; refine ⟨_, rfl, ?_⟩))
    go_ret
    exact ⟨by first | rfl | (simp [errW_none, errW_some] <;> rfl) | (simp [*, errW_none, errW_some] <;> rfl), by repeat (first | (with_reducible first | exact HB.out | apply below_alloc | apply pw_below_drewN | apply below_drew1) | exact HB.out)⟩

/-! ### ttl_Tell: function 32 -/
def ttl_Tell.j0 : Nat → Int → Int → Int → Bool → Option (Int)
  | 0, _, _, _, _ => none
  | k + 1, x0, x1, x2, x20 => if x20 = true then (some 0) else ((ttl_Left.f x0 x1 x2).bind fun t114 => (if t114 > 0 then (some t114) else (some 30)))
def ttl_Tell.f (k : Nat) (a0 : Int) (a1 : Int) (a2 : Int) : Option (Int) := (ttl_Time.f a0).bind fun t111 => (if t111 = true then ((ttl_Time.f a1).bind fun t112 => (if t112 = true then ((ttl_Time.f a2).bind fun t113 => (ttl_Tell.j0 k a0 a1 a2 (!t113))) else (ttl_Tell.j0 k a0 a1 a2 true))) else (ttl_Tell.j0 k a0 a1 a2 true))
theorem ttl_Tell.mono_l : ∀ k, (∀ y0 y1 y2 y3, LeO (ttl_Tell.j0 k y0 y1 y2 y3) (ttl_Tell.j0 (k + 1) y0 y1 y2 y3))
  | 0 => fun _ _ _ _ r h => by simp [ttl_Tell.j0] at h
  | k + 1 => by
    have ih0 := ttl_Tell.mono_l k
    · intro y0 y1 y2 y3
      unfold ttl_Tell.j0
      repeat' first
      | (with_reducible exact ih0 _ _ _ _)
      | (with_reducible exact LeO.refl _)
      | (with_reducible exact LeO.none _)
      | (with_reducible refine LeO.ite ?_ ?_)
      | (with_reducible refine LeO.bind ?_ (fun _ => ?_))
      | exact ih0 _ _ _ _
      | exact LeO.none _
      | refine LeO.ite ?_ ?_
      | refine LeO.bind ?_ (fun _ => ?_)
theorem ttl_Tell.mono : ∀ a0 a1 a2 k, LeO (ttl_Tell.f k a0 a1 a2) (ttl_Tell.f (k + 1) a0 a1 a2) := by
  intro a0 a1 a2 k
  have ih0 := ttl_Tell.mono_l k
  unfold ttl_Tell.f
  repeat' first
      | (with_reducible exact ih0 _ _ _ _)
      | (with_reducible exact LeO.refl _)
      | (with_reducible exact LeO.none _)
      | (with_reducible refine LeO.ite ?_ ?_)
      | (with_reducible refine LeO.bind ?_ (fun _ => ?_))
      | exact ih0 _ _ _ _
      | exact LeO.none _
      | refine LeO.ite ?_ ?_
      | refine LeO.bind ?_ (fun _ => ?_)
set_option maxHeartbeats 8000000 in
set_option maxRecDepth 100000 in
theorem ttl_Tell.calls (k : Nat) (a0 : Int) (a1 : Int) (a2 : Int) (r : Int) (w : World) (h : ttl_Tell.f k a0 a1 a2 = some r) :
    Calls Try.prog 32 #[.int .i64 a0, .int .i64 a1, .int .i64 a2] w fun e w' => e = .returned (.int .i64 r) ∧ Below w.heap.size w w' := by
  have HB := Aside0.mk (Below.refl w.heap.size w)
  have H : ((ttl_Time.f a0).bind fun t111 => (if t111 = true then ((ttl_Time.f a1).bind fun t112 => (if t112 = true then ((ttl_Time.f a2).bind fun t113 => (ttl_Tell.j0 k a0 a1 a2 (!t113))) else (ttl_Tell.j0 k a0 a1 a2 true))) else (ttl_Tell.j0 k a0 a1 a2 true))) = some r := h
  clear h
  have HC4 := Aside0.mk H
  clear H
  go_enter Try.func32, Try.ntmps32
  go_upto_region 1 with (fail)
  go_cut [20] (fun v20 wc => ∃ (kq : Nat) (x20_3 : Bool), v20 = .bool x20_3 ∧ Aside0 (ttl_Tell.j0 kq a0 a1 a2 x20_3 = some r) ∧ Aside0 (kq ≤ k) ∧ Aside0 (Below w.heap.size w wc))
  case first =>
    have H := HC4.out
    clear HC4
    replace H := Option.bind_eq_some_iff.mp H
    obtain ⟨t111, A50, H⟩ := H
    replace H : (if t111 = true then ((ttl_Time.f a1).bind fun t112 => (if t112 = true then ((ttl_Time.f a2).bind fun t113 => (ttl_Tell.j0 k a0 a1 a2 (!t113))) else (ttl_Tell.j0 k a0 a1 a2 true))) else (ttl_Tell.j0 k a0 a1 a2 true)) = some r := H
    have A5 := Aside0.mk A50
    clear A50
    by_cases c6 : t111 = true
    · subst c6
      have H1 : ((ttl_Time.f a1).bind fun t112 => (if t112 = true then ((ttl_Time.f a2).bind fun t113 => (ttl_Tell.j0 k a0 a1 a2 (!t113))) else (ttl_Tell.j0 k a0 a1 a2 true))) = some r := by rw [if_pos rfl] at H; exact H
      clear H
      have H := H1
      clear H1
      replace H := Option.bind_eq_some_iff.mp H
      obtain ⟨t112, A70, H⟩ := H
      replace H : (if t112 = true then ((ttl_Time.f a2).bind fun t113 => (ttl_Tell.j0 k a0 a1 a2 (!t113))) else (ttl_Tell.j0 k a0 a1 a2 true)) = some r := H
      have A7 := Aside0.mk A70
      clear A70
      by_cases c8 : t112 = true
      · subst c8
        have H1 : ((ttl_Time.f a2).bind fun t113 => (ttl_Tell.j0 k a0 a1 a2 (!t113))) = some r := by rw [if_pos rfl] at H; exact H
        clear H
        have H := H1
        clear H1
        replace H := Option.bind_eq_some_iff.mp H
        obtain ⟨t113, A90, H⟩ := H
        replace H : (ttl_Tell.j0 k a0 a1 a2 (!t113)) = some r := H
        have A9 := Aside0.mk A90
        clear A90
        have H' := Aside0.mk H
        clear H
        go_wp2_with (first | ((with_reducible refine gate_callee (f := 37) rfl ?_); refine goesL_ (some 9) rfl rfl Try.func37 (by kernel_rfl) rfl #[.int .i64 a0] rfl (by (try simp only [List.map_toArray, List.map_cons, List.map_nil]); first | done | rfl | (simp only [List.length_drop, List.length_take]; rfl)) ?_; (with_reducible refine (ttl_Time.calls a0 true _ A5.out).mono ?_); rintro e w' ⟨rfl, ⟨nd, rfl⟩⟩; refine ⟨_, rfl, ?_⟩) | (go_at_call 37; (with_reducible refine (ttl_Time.calls a1 true _ A7.out).mono ?_); rintro e w' ⟨rfl, ⟨nd, rfl⟩⟩) | (go_at_call 37; (with_reducible refine (ttl_Time.calls a2 t113 _ A9.out).mono ?_); rintro e w' ⟨rfl, ⟨nd, rfl⟩⟩))
        go_meet
        case rel => exact ⟨_, (!t113), (by first | rfl | (simp; done) | (simp [*]; done)), H', ⟨by first | omega | exact Nat.le_refl _⟩, ⟨by repeat (first | (with_reducible first | exact HB.out | apply below_alloc | apply pw_below_drewN | apply below_drew1) | exact HB.out)⟩⟩
      · replace c8 := Bool.eq_false_iff.mpr c8
        subst c8
        have H1 : (ttl_Tell.j0 k a0 a1 a2 true) = some r := by rw [if_neg (show ¬ (false = true) by decide)] at H; exact H
        clear H
        have H := H1
        clear H1
        have H' := Aside0.mk H
        clear H
        go_wp2_with (first | ((with_reducible refine gate_callee (f := 37) rfl ?_); refine goesL_ (some 9) rfl rfl Try.func37 (by kernel_rfl) rfl #[.int .i64 a0] rfl (by (try simp only [List.map_toArray, List.map_cons, List.map_nil]); first | done | rfl | (simp only [List.length_drop, List.length_take]; rfl)) ?_; (with_reducible refine (ttl_Time.calls a0 true _ A5.out).mono ?_); rintro e w' ⟨rfl, ⟨nd, rfl⟩⟩; refine ⟨_, rfl, ?_⟩) | (go_at_call 37; (with_reducible refine (ttl_Time.calls a1 false _ A7.out).mono ?_); rintro e w' ⟨rfl, ⟨nd, rfl⟩⟩))
        go_meet
        case rel => exact ⟨_, (true), (by first | rfl | (simp; done) | (simp [*]; done)), H', ⟨by first | omega | exact Nat.le_refl _⟩, ⟨by repeat (first | (with_reducible first | exact HB.out | apply below_alloc | apply pw_below_drewN | apply below_drew1) | exact HB.out)⟩⟩
    · replace c6 := Bool.eq_false_iff.mpr c6
      subst c6
      have H1 : (ttl_Tell.j0 k a0 a1 a2 true) = some r := by rw [if_neg (show ¬ (false = true) by decide)] at H; exact H
      clear H
      have H := H1
      clear H1
      have H' := Aside0.mk H
      clear H
      go_wp2_with (first | ((with_reducible refine gate_callee (f := 37) rfl ?_); refine goesL_ (some 9) rfl rfl Try.func37 (by kernel_rfl) rfl #[.int .i64 a0] rfl (by (try simp only [List.map_toArray, List.map_cons, List.map_nil]); first | done | rfl | (simp only [List.length_drop, List.length_take]; rfl)) ?_; (with_reducible refine (ttl_Time.calls a0 false _ A5.out).mono ?_); rintro e w' ⟨rfl, ⟨nd, rfl⟩⟩; refine ⟨_, rfl, ?_⟩))
      go_meet
      case rel => exact ⟨_, (true), (by first | rfl | (simp; done) | (simp [*]; done)), H', ⟨by first | omega | exact Nat.le_refl _⟩, ⟨by repeat (first | (with_reducible first | exact HB.out | apply below_alloc | apply pw_below_drewN | apply below_drew1) | exact HB.out)⟩⟩
  case rest =>
    clear HC4
    try clear p2
    try clear c3
    try clear c6
    try clear c8
    obtain ⟨kq, x20_3, rfl, HA, HJ3, HB⟩ := hcut
    cases kq with
    | zero => exact absurd HA.out (by simp [ttl_Tell.j0])
    | succ kj3 =>
      have H := HA.out
      clear HA
      simp only [ttl_Tell.j0] at H
      by_cases c10 : x20_3 = true
      · subst c10
        have H1 : (some 0) = some r := by rw [if_pos rfl] at H; exact H
        clear H
        have H := H1
        clear H1
        obtain rfl := Option.some.inj H
        go_wp2
        go_ret
        exact ⟨by first | rfl | (simp [errW_none, errW_some] <;> rfl) | (simp [*, errW_none, errW_some] <;> rfl), by repeat (first | (with_reducible first | exact HB.out | apply below_alloc | apply pw_below_drewN | apply below_drew1) | exact HB.out)⟩
      · replace c10 := Bool.eq_false_iff.mpr c10
        subst c10
        have H1 : ((ttl_Left.f a0 a1 a2).bind fun t114 => (if t114 > 0 then (some t114) else (some 30))) = some r := by rw [if_neg (show ¬ (false = true) by decide)] at H; exact H
        clear H
        have H := H1
        clear H1
        replace H := Option.bind_eq_some_iff.mp H
        obtain ⟨t114, A110, H⟩ := H
        replace H : (if t114 > 0 then (some t114) else (some 30)) = some r := H
        have A11 := Aside0.mk A110
        clear A110
        by_cases c12 : t114 > 0
        · rw [if_pos c12] at H
          have c12b0 : decide (0 < t114) = true := decide_eq_true c12
          clear c12
          obtain rfl := Option.some.inj H
          go_wp2_with (first | ((with_reducible refine gate_callee (f := 16) rfl ?_); refine goesL_ (some 24) rfl rfl Try.func16 (by kernel_rfl) rfl #[.int .i64 a0, .int .i64 a1, .int .i64 a2] rfl (by (try simp only [List.map_toArray, List.map_cons, List.map_nil]); first | done | rfl | (simp only [List.length_drop, List.length_take]; rfl)) ?_; (with_reducible refine (ttl_Left.calls a0 a1 a2 t114 _ A11.out).mono ?_); rintro e w13 ⟨rfl, hb⟩; refine ⟨_, rfl, ?_⟩; have n0_ := Aside0.mk (below_step (by repeat (first | (with_reducible first | exact HB.out | apply below_alloc | apply pw_below_drewN | apply below_drew1) | exact HB.out)) hb); clear HB; have HB := n0_; clear n0_; (try clear hb); (try clear hb2); (try clear hk); (try clear hi)))
          go_ret
          exact ⟨by first | rfl | (simp [errW_none, errW_some] <;> rfl) | (simp [*, errW_none, errW_some] <;> rfl), by repeat (first | (with_reducible first | exact HB.out | apply below_alloc | apply pw_below_drewN | apply below_drew1) | exact HB.out)⟩
        · rw [if_neg c12] at H
          have c12b0 : decide (0 < t114) = false := decide_eq_false c12
          clear c12
          obtain rfl := Option.some.inj H
          go_wp2_with (first | ((with_reducible refine gate_callee (f := 16) rfl ?_); refine goesL_ (some 24) rfl rfl Try.func16 (by kernel_rfl) rfl #[.int .i64 a0, .int .i64 a1, .int .i64 a2] rfl (by (try simp only [List.map_toArray, List.map_cons, List.map_nil]); first | done | rfl | (simp only [List.length_drop, List.length_take]; rfl)) ?_; (with_reducible refine (ttl_Left.calls a0 a1 a2 t114 _ A11.out).mono ?_); rintro e w14 ⟨rfl, hb⟩; refine ⟨_, rfl, ?_⟩; have n0_ := Aside0.mk (below_step (by repeat (first | (with_reducible first | exact HB.out | apply below_alloc | apply pw_below_drewN | apply below_drew1) | exact HB.out)) hb); clear HB; have HB := n0_; clear n0_; (try clear hb); (try clear hb2); (try clear hk); (try clear hi)))
          go_ret
          exact ⟨by first | rfl | (simp [errW_none, errW_some] <;> rfl) | (simp [*, errW_none, errW_some] <;> rfl), by repeat (first | (with_reducible first | exact HB.out | apply below_alloc | apply pw_below_drewN | apply below_drew1) | exact HB.out)⟩

/-! ### gazetteerlaw12_TtlRuns: function 10 -/
mutual
def gazetteerlaw12_TtlRuns.j0 : Nat → Int → Int → Int → Int → Int → Bool → Bool → Int → Bool → Option (Bool)
  | 0, _, _, _, _, _, _, _, _, _ => none
  | k + 1, x0, x1, x2, x3, x9, x12, x13, x14, x83 => if x83 = true then (some false) else (if (x12 != (decide ((wrap64 (x3)) < (wrap64 (x1))))) = true then (gazetteerlaw12_TtlRuns.j1 k x0 x1 x2 x14 true) else (if (wrap64 (x3)) ≥ (wrap64 (x1)) then (gazetteerlaw12_TtlRuns.j1 k x0 x1 x2 x14 (x13 != (decide (x9 < x14)))) else (gazetteerlaw12_TtlRuns.j1 k x0 x1 x2 x14 (x13 != false))))
def gazetteerlaw12_TtlRuns.j1 : Nat → Int → Int → Int → Int → Bool → Option (Bool)
  | 0, _, _, _, _, _ => none
  | k + 1, x0, x1, x2, x14, x104 => if x104 = true then (some false) else ((ttl_Fresh.f (wrap64 (x0)) (wrap64 (x1)) x14).bind fun t120 => (if t120 = true then (some false) else ((ttl_Stale.f (wrap64 (x0)) (wrap64 (x1)) (wrap64 (x2)) x14).bind fun t121 => (if t121 = true then (some false) else ((ttl_Tell.f k (wrap64 (x0)) (wrap64 (x1)) x14).bind fun t122 => (some (t122 == 30)))))))
end
def gazetteerlaw12_TtlRuns.f (k : Nat) (a0 : Int) (a1 : Int) (a2 : Int) (a3 : Int) : Option (Bool) := (ttl_Left.f (wrap64 (a0)) (wrap64 (a1)) (wrap64 ((wrap64 (a0)) + (wrap64 (a3))))).bind fun t115 => ((ttl_Left.f (wrap64 (a0)) (wrap64 (a1)) (wrap64 ((wrap64 ((wrap64 (a0)) + (wrap64 (a3)))) + 1))).bind fun t116 => ((ttl_Fresh.f (wrap64 (a0)) (wrap64 (a1)) (wrap64 ((wrap64 (a0)) + (wrap64 (a3))))).bind fun t117 => ((ttl_Stale.f (wrap64 (a0)) (wrap64 (a1)) (wrap64 (a2)) (wrap64 ((wrap64 (a0)) + (wrap64 (a3))))).bind fun t118 => ((gazetteerlaw12_answers.f).bind fun t119 => (if t119 = true then (if t117 = true then (if t118 = true then (gazetteerlaw12_TtlRuns.j0 k a0 a1 a2 a3 (wrap64 ((wrap64 (a0)) + (wrap64 (a3)))) t117 t118 (wrap64 ((wrap64 ((wrap64 (a0)) + (wrap64 (a1)))) + (wrap64 (a2)))) true) else (if t116 > t115 then (gazetteerlaw12_TtlRuns.j0 k a0 a1 a2 a3 (wrap64 ((wrap64 (a0)) + (wrap64 (a3)))) t117 t118 (wrap64 ((wrap64 ((wrap64 (a0)) + (wrap64 (a1)))) + (wrap64 (a2)))) true) else (if (wrap64 (t115 - t116)) > 1 then (gazetteerlaw12_TtlRuns.j0 k a0 a1 a2 a3 (wrap64 ((wrap64 (a0)) + (wrap64 (a3)))) t117 t118 (wrap64 ((wrap64 ((wrap64 (a0)) + (wrap64 (a1)))) + (wrap64 (a2)))) true) else (if t115 > 0 then (gazetteerlaw12_TtlRuns.j0 k a0 a1 a2 a3 (wrap64 ((wrap64 (a0)) + (wrap64 (a3)))) t117 t118 (wrap64 ((wrap64 ((wrap64 (a0)) + (wrap64 (a1)))) + (wrap64 (a2)))) (t116 != (wrap64 (t115 - 1)))) else (gazetteerlaw12_TtlRuns.j0 k a0 a1 a2 a3 (wrap64 ((wrap64 (a0)) + (wrap64 (a3)))) t117 t118 (wrap64 ((wrap64 ((wrap64 (a0)) + (wrap64 (a1)))) + (wrap64 (a2)))) false))))) else (if t116 > t115 then (gazetteerlaw12_TtlRuns.j0 k a0 a1 a2 a3 (wrap64 ((wrap64 (a0)) + (wrap64 (a3)))) t117 t118 (wrap64 ((wrap64 ((wrap64 (a0)) + (wrap64 (a1)))) + (wrap64 (a2)))) true) else (if (wrap64 (t115 - t116)) > 1 then (gazetteerlaw12_TtlRuns.j0 k a0 a1 a2 a3 (wrap64 ((wrap64 (a0)) + (wrap64 (a3)))) t117 t118 (wrap64 ((wrap64 ((wrap64 (a0)) + (wrap64 (a1)))) + (wrap64 (a2)))) true) else (if t115 > 0 then (gazetteerlaw12_TtlRuns.j0 k a0 a1 a2 a3 (wrap64 ((wrap64 (a0)) + (wrap64 (a3)))) t117 t118 (wrap64 ((wrap64 ((wrap64 (a0)) + (wrap64 (a1)))) + (wrap64 (a2)))) (t116 != (wrap64 (t115 - 1)))) else (gazetteerlaw12_TtlRuns.j0 k a0 a1 a2 a3 (wrap64 ((wrap64 (a0)) + (wrap64 (a3)))) t117 t118 (wrap64 ((wrap64 ((wrap64 (a0)) + (wrap64 (a1)))) + (wrap64 (a2)))) false))))) else (gazetteerlaw12_TtlRuns.j0 k a0 a1 a2 a3 (wrap64 ((wrap64 (a0)) + (wrap64 (a3)))) t117 t118 (wrap64 ((wrap64 ((wrap64 (a0)) + (wrap64 (a1)))) + (wrap64 (a2)))) true))))))
theorem gazetteerlaw12_TtlRuns.mono_l : ∀ k, (∀ y0 y1 y2 y3 y4 y5 y6 y7 y8, LeO (gazetteerlaw12_TtlRuns.j0 k y0 y1 y2 y3 y4 y5 y6 y7 y8) (gazetteerlaw12_TtlRuns.j0 (k + 1) y0 y1 y2 y3 y4 y5 y6 y7 y8)) ∧ (∀ y0 y1 y2 y3 y4, LeO (gazetteerlaw12_TtlRuns.j1 k y0 y1 y2 y3 y4) (gazetteerlaw12_TtlRuns.j1 (k + 1) y0 y1 y2 y3 y4))
  | 0 => ⟨fun _ _ _ _ _ _ _ _ _ r h => by simp [gazetteerlaw12_TtlRuns.j0] at h, fun _ _ _ _ _ r h => by simp [gazetteerlaw12_TtlRuns.j1] at h⟩
  | k + 1 => by
    obtain ⟨ih0, ih1⟩ := gazetteerlaw12_TtlRuns.mono_l k
    refine ⟨?_, ?_⟩
    · intro y0 y1 y2 y3 y4 y5 y6 y7 y8
      unfold gazetteerlaw12_TtlRuns.j0
      repeat' first
      | (with_reducible exact ih0 _ _ _ _ _ _ _ _ _)
      | (with_reducible exact ih1 _ _ _ _ _)
      | (with_reducible exact ttl_Tell.mono _ _ _ _)
      | (with_reducible exact LeO.refl _)
      | (with_reducible exact LeO.none _)
      | (with_reducible refine LeO.ite ?_ ?_)
      | (with_reducible refine LeO.bind ?_ (fun _ => ?_))
      | exact ih0 _ _ _ _ _ _ _ _ _
      | exact ih1 _ _ _ _ _
      | exact ttl_Tell.mono _ _ _ _
      | exact LeO.none _
      | refine LeO.ite ?_ ?_
      | refine LeO.bind ?_ (fun _ => ?_)
    · intro y0 y1 y2 y3 y4
      unfold gazetteerlaw12_TtlRuns.j1
      repeat' first
      | (with_reducible exact ih0 _ _ _ _ _ _ _ _ _)
      | (with_reducible exact ih1 _ _ _ _ _)
      | (with_reducible exact ttl_Tell.mono _ _ _ _)
      | (with_reducible exact LeO.refl _)
      | (with_reducible exact LeO.none _)
      | (with_reducible refine LeO.ite ?_ ?_)
      | (with_reducible refine LeO.bind ?_ (fun _ => ?_))
      | exact ih0 _ _ _ _ _ _ _ _ _
      | exact ih1 _ _ _ _ _
      | exact ttl_Tell.mono _ _ _ _
      | exact LeO.none _
      | refine LeO.ite ?_ ?_
      | refine LeO.bind ?_ (fun _ => ?_)
theorem gazetteerlaw12_TtlRuns.mono : ∀ a0 a1 a2 a3 k, LeO (gazetteerlaw12_TtlRuns.f k a0 a1 a2 a3) (gazetteerlaw12_TtlRuns.f (k + 1) a0 a1 a2 a3) := by
  intro a0 a1 a2 a3 k
  obtain ⟨ih0, ih1⟩ := gazetteerlaw12_TtlRuns.mono_l k
  unfold gazetteerlaw12_TtlRuns.f
  repeat' first
      | (with_reducible exact ih0 _ _ _ _ _ _ _ _ _)
      | (with_reducible exact ih1 _ _ _ _ _)
      | (with_reducible exact ttl_Tell.mono _ _ _ _)
      | (with_reducible exact LeO.refl _)
      | (with_reducible exact LeO.none _)
      | (with_reducible refine LeO.ite ?_ ?_)
      | (with_reducible refine LeO.bind ?_ (fun _ => ?_))
      | exact ih0 _ _ _ _ _ _ _ _ _
      | exact ih1 _ _ _ _ _
      | exact ttl_Tell.mono _ _ _ _
      | exact LeO.none _
      | refine LeO.ite ?_ ?_
      | refine LeO.bind ?_ (fun _ => ?_)
set_option maxHeartbeats 8000000 in
set_option maxRecDepth 100000 in
theorem gazetteerlaw12_TtlRuns.calls (k : Nat) (a0 : Int) (a1 : Int) (a2 : Int) (a3 : Int) (r : Bool) (w : World) (h : gazetteerlaw12_TtlRuns.f k a0 a1 a2 a3 = some r) :
    Calls Try.prog 10 #[.int .u32 a0, .int .u16 a1, .int .u16 a2, .int .u16 a3] w fun e w' => e = .returned (.bool r) ∧ Below w.heap.size w w' := by
  have HB := Aside0.mk (Below.refl w.heap.size w)
  have H : ((ttl_Left.f (wrap64 (a0)) (wrap64 (a1)) (wrap64 ((wrap64 (a0)) + (wrap64 (a3))))).bind fun t115 => ((ttl_Left.f (wrap64 (a0)) (wrap64 (a1)) (wrap64 ((wrap64 ((wrap64 (a0)) + (wrap64 (a3)))) + 1))).bind fun t116 => ((ttl_Fresh.f (wrap64 (a0)) (wrap64 (a1)) (wrap64 ((wrap64 (a0)) + (wrap64 (a3))))).bind fun t117 => ((ttl_Stale.f (wrap64 (a0)) (wrap64 (a1)) (wrap64 (a2)) (wrap64 ((wrap64 (a0)) + (wrap64 (a3))))).bind fun t118 => ((gazetteerlaw12_answers.f).bind fun t119 => (if t119 = true then (if t117 = true then (if t118 = true then (gazetteerlaw12_TtlRuns.j0 k a0 a1 a2 a3 (wrap64 ((wrap64 (a0)) + (wrap64 (a3)))) t117 t118 (wrap64 ((wrap64 ((wrap64 (a0)) + (wrap64 (a1)))) + (wrap64 (a2)))) true) else (if t116 > t115 then (gazetteerlaw12_TtlRuns.j0 k a0 a1 a2 a3 (wrap64 ((wrap64 (a0)) + (wrap64 (a3)))) t117 t118 (wrap64 ((wrap64 ((wrap64 (a0)) + (wrap64 (a1)))) + (wrap64 (a2)))) true) else (if (wrap64 (t115 - t116)) > 1 then (gazetteerlaw12_TtlRuns.j0 k a0 a1 a2 a3 (wrap64 ((wrap64 (a0)) + (wrap64 (a3)))) t117 t118 (wrap64 ((wrap64 ((wrap64 (a0)) + (wrap64 (a1)))) + (wrap64 (a2)))) true) else (if t115 > 0 then (gazetteerlaw12_TtlRuns.j0 k a0 a1 a2 a3 (wrap64 ((wrap64 (a0)) + (wrap64 (a3)))) t117 t118 (wrap64 ((wrap64 ((wrap64 (a0)) + (wrap64 (a1)))) + (wrap64 (a2)))) (t116 != (wrap64 (t115 - 1)))) else (gazetteerlaw12_TtlRuns.j0 k a0 a1 a2 a3 (wrap64 ((wrap64 (a0)) + (wrap64 (a3)))) t117 t118 (wrap64 ((wrap64 ((wrap64 (a0)) + (wrap64 (a1)))) + (wrap64 (a2)))) false))))) else (if t116 > t115 then (gazetteerlaw12_TtlRuns.j0 k a0 a1 a2 a3 (wrap64 ((wrap64 (a0)) + (wrap64 (a3)))) t117 t118 (wrap64 ((wrap64 ((wrap64 (a0)) + (wrap64 (a1)))) + (wrap64 (a2)))) true) else (if (wrap64 (t115 - t116)) > 1 then (gazetteerlaw12_TtlRuns.j0 k a0 a1 a2 a3 (wrap64 ((wrap64 (a0)) + (wrap64 (a3)))) t117 t118 (wrap64 ((wrap64 ((wrap64 (a0)) + (wrap64 (a1)))) + (wrap64 (a2)))) true) else (if t115 > 0 then (gazetteerlaw12_TtlRuns.j0 k a0 a1 a2 a3 (wrap64 ((wrap64 (a0)) + (wrap64 (a3)))) t117 t118 (wrap64 ((wrap64 ((wrap64 (a0)) + (wrap64 (a1)))) + (wrap64 (a2)))) (t116 != (wrap64 (t115 - 1)))) else (gazetteerlaw12_TtlRuns.j0 k a0 a1 a2 a3 (wrap64 ((wrap64 (a0)) + (wrap64 (a3)))) t117 t118 (wrap64 ((wrap64 ((wrap64 (a0)) + (wrap64 (a1)))) + (wrap64 (a2)))) false))))) else (gazetteerlaw12_TtlRuns.j0 k a0 a1 a2 a3 (wrap64 ((wrap64 (a0)) + (wrap64 (a3)))) t117 t118 (wrap64 ((wrap64 ((wrap64 (a0)) + (wrap64 (a1)))) + (wrap64 (a2)))) true))))))) = some r := h
  clear h
  replace H := Option.bind_eq_some_iff.mp H
  obtain ⟨t115, A50, H⟩ := H
  replace H : ((ttl_Left.f (wrap64 (a0)) (wrap64 (a1)) (wrap64 ((wrap64 ((wrap64 (a0)) + (wrap64 (a3)))) + 1))).bind fun t116 => ((ttl_Fresh.f (wrap64 (a0)) (wrap64 (a1)) (wrap64 ((wrap64 (a0)) + (wrap64 (a3))))).bind fun t117 => ((ttl_Stale.f (wrap64 (a0)) (wrap64 (a1)) (wrap64 (a2)) (wrap64 ((wrap64 (a0)) + (wrap64 (a3))))).bind fun t118 => ((gazetteerlaw12_answers.f).bind fun t119 => (if t119 = true then (if t117 = true then (if t118 = true then (gazetteerlaw12_TtlRuns.j0 k a0 a1 a2 a3 (wrap64 ((wrap64 (a0)) + (wrap64 (a3)))) t117 t118 (wrap64 ((wrap64 ((wrap64 (a0)) + (wrap64 (a1)))) + (wrap64 (a2)))) true) else (if t116 > t115 then (gazetteerlaw12_TtlRuns.j0 k a0 a1 a2 a3 (wrap64 ((wrap64 (a0)) + (wrap64 (a3)))) t117 t118 (wrap64 ((wrap64 ((wrap64 (a0)) + (wrap64 (a1)))) + (wrap64 (a2)))) true) else (if (wrap64 (t115 - t116)) > 1 then (gazetteerlaw12_TtlRuns.j0 k a0 a1 a2 a3 (wrap64 ((wrap64 (a0)) + (wrap64 (a3)))) t117 t118 (wrap64 ((wrap64 ((wrap64 (a0)) + (wrap64 (a1)))) + (wrap64 (a2)))) true) else (if t115 > 0 then (gazetteerlaw12_TtlRuns.j0 k a0 a1 a2 a3 (wrap64 ((wrap64 (a0)) + (wrap64 (a3)))) t117 t118 (wrap64 ((wrap64 ((wrap64 (a0)) + (wrap64 (a1)))) + (wrap64 (a2)))) (t116 != (wrap64 (t115 - 1)))) else (gazetteerlaw12_TtlRuns.j0 k a0 a1 a2 a3 (wrap64 ((wrap64 (a0)) + (wrap64 (a3)))) t117 t118 (wrap64 ((wrap64 ((wrap64 (a0)) + (wrap64 (a1)))) + (wrap64 (a2)))) false))))) else (if t116 > t115 then (gazetteerlaw12_TtlRuns.j0 k a0 a1 a2 a3 (wrap64 ((wrap64 (a0)) + (wrap64 (a3)))) t117 t118 (wrap64 ((wrap64 ((wrap64 (a0)) + (wrap64 (a1)))) + (wrap64 (a2)))) true) else (if (wrap64 (t115 - t116)) > 1 then (gazetteerlaw12_TtlRuns.j0 k a0 a1 a2 a3 (wrap64 ((wrap64 (a0)) + (wrap64 (a3)))) t117 t118 (wrap64 ((wrap64 ((wrap64 (a0)) + (wrap64 (a1)))) + (wrap64 (a2)))) true) else (if t115 > 0 then (gazetteerlaw12_TtlRuns.j0 k a0 a1 a2 a3 (wrap64 ((wrap64 (a0)) + (wrap64 (a3)))) t117 t118 (wrap64 ((wrap64 ((wrap64 (a0)) + (wrap64 (a1)))) + (wrap64 (a2)))) (t116 != (wrap64 (t115 - 1)))) else (gazetteerlaw12_TtlRuns.j0 k a0 a1 a2 a3 (wrap64 ((wrap64 (a0)) + (wrap64 (a3)))) t117 t118 (wrap64 ((wrap64 ((wrap64 (a0)) + (wrap64 (a1)))) + (wrap64 (a2)))) false))))) else (gazetteerlaw12_TtlRuns.j0 k a0 a1 a2 a3 (wrap64 ((wrap64 (a0)) + (wrap64 (a3)))) t117 t118 (wrap64 ((wrap64 ((wrap64 (a0)) + (wrap64 (a1)))) + (wrap64 (a2)))) true)))))) = some r := H
  have A5 := Aside0.mk A50
  clear A50
  replace H := Option.bind_eq_some_iff.mp H
  obtain ⟨t116, A60, H⟩ := H
  replace H : ((ttl_Fresh.f (wrap64 (a0)) (wrap64 (a1)) (wrap64 ((wrap64 (a0)) + (wrap64 (a3))))).bind fun t117 => ((ttl_Stale.f (wrap64 (a0)) (wrap64 (a1)) (wrap64 (a2)) (wrap64 ((wrap64 (a0)) + (wrap64 (a3))))).bind fun t118 => ((gazetteerlaw12_answers.f).bind fun t119 => (if t119 = true then (if t117 = true then (if t118 = true then (gazetteerlaw12_TtlRuns.j0 k a0 a1 a2 a3 (wrap64 ((wrap64 (a0)) + (wrap64 (a3)))) t117 t118 (wrap64 ((wrap64 ((wrap64 (a0)) + (wrap64 (a1)))) + (wrap64 (a2)))) true) else (if t116 > t115 then (gazetteerlaw12_TtlRuns.j0 k a0 a1 a2 a3 (wrap64 ((wrap64 (a0)) + (wrap64 (a3)))) t117 t118 (wrap64 ((wrap64 ((wrap64 (a0)) + (wrap64 (a1)))) + (wrap64 (a2)))) true) else (if (wrap64 (t115 - t116)) > 1 then (gazetteerlaw12_TtlRuns.j0 k a0 a1 a2 a3 (wrap64 ((wrap64 (a0)) + (wrap64 (a3)))) t117 t118 (wrap64 ((wrap64 ((wrap64 (a0)) + (wrap64 (a1)))) + (wrap64 (a2)))) true) else (if t115 > 0 then (gazetteerlaw12_TtlRuns.j0 k a0 a1 a2 a3 (wrap64 ((wrap64 (a0)) + (wrap64 (a3)))) t117 t118 (wrap64 ((wrap64 ((wrap64 (a0)) + (wrap64 (a1)))) + (wrap64 (a2)))) (t116 != (wrap64 (t115 - 1)))) else (gazetteerlaw12_TtlRuns.j0 k a0 a1 a2 a3 (wrap64 ((wrap64 (a0)) + (wrap64 (a3)))) t117 t118 (wrap64 ((wrap64 ((wrap64 (a0)) + (wrap64 (a1)))) + (wrap64 (a2)))) false))))) else (if t116 > t115 then (gazetteerlaw12_TtlRuns.j0 k a0 a1 a2 a3 (wrap64 ((wrap64 (a0)) + (wrap64 (a3)))) t117 t118 (wrap64 ((wrap64 ((wrap64 (a0)) + (wrap64 (a1)))) + (wrap64 (a2)))) true) else (if (wrap64 (t115 - t116)) > 1 then (gazetteerlaw12_TtlRuns.j0 k a0 a1 a2 a3 (wrap64 ((wrap64 (a0)) + (wrap64 (a3)))) t117 t118 (wrap64 ((wrap64 ((wrap64 (a0)) + (wrap64 (a1)))) + (wrap64 (a2)))) true) else (if t115 > 0 then (gazetteerlaw12_TtlRuns.j0 k a0 a1 a2 a3 (wrap64 ((wrap64 (a0)) + (wrap64 (a3)))) t117 t118 (wrap64 ((wrap64 ((wrap64 (a0)) + (wrap64 (a1)))) + (wrap64 (a2)))) (t116 != (wrap64 (t115 - 1)))) else (gazetteerlaw12_TtlRuns.j0 k a0 a1 a2 a3 (wrap64 ((wrap64 (a0)) + (wrap64 (a3)))) t117 t118 (wrap64 ((wrap64 ((wrap64 (a0)) + (wrap64 (a1)))) + (wrap64 (a2)))) false))))) else (gazetteerlaw12_TtlRuns.j0 k a0 a1 a2 a3 (wrap64 ((wrap64 (a0)) + (wrap64 (a3)))) t117 t118 (wrap64 ((wrap64 ((wrap64 (a0)) + (wrap64 (a1)))) + (wrap64 (a2)))) true))))) = some r := H
  have A6 := Aside0.mk A60
  clear A60
  replace H := Option.bind_eq_some_iff.mp H
  obtain ⟨t117, A70, H⟩ := H
  replace H : ((ttl_Stale.f (wrap64 (a0)) (wrap64 (a1)) (wrap64 (a2)) (wrap64 ((wrap64 (a0)) + (wrap64 (a3))))).bind fun t118 => ((gazetteerlaw12_answers.f).bind fun t119 => (if t119 = true then (if t117 = true then (if t118 = true then (gazetteerlaw12_TtlRuns.j0 k a0 a1 a2 a3 (wrap64 ((wrap64 (a0)) + (wrap64 (a3)))) t117 t118 (wrap64 ((wrap64 ((wrap64 (a0)) + (wrap64 (a1)))) + (wrap64 (a2)))) true) else (if t116 > t115 then (gazetteerlaw12_TtlRuns.j0 k a0 a1 a2 a3 (wrap64 ((wrap64 (a0)) + (wrap64 (a3)))) t117 t118 (wrap64 ((wrap64 ((wrap64 (a0)) + (wrap64 (a1)))) + (wrap64 (a2)))) true) else (if (wrap64 (t115 - t116)) > 1 then (gazetteerlaw12_TtlRuns.j0 k a0 a1 a2 a3 (wrap64 ((wrap64 (a0)) + (wrap64 (a3)))) t117 t118 (wrap64 ((wrap64 ((wrap64 (a0)) + (wrap64 (a1)))) + (wrap64 (a2)))) true) else (if t115 > 0 then (gazetteerlaw12_TtlRuns.j0 k a0 a1 a2 a3 (wrap64 ((wrap64 (a0)) + (wrap64 (a3)))) t117 t118 (wrap64 ((wrap64 ((wrap64 (a0)) + (wrap64 (a1)))) + (wrap64 (a2)))) (t116 != (wrap64 (t115 - 1)))) else (gazetteerlaw12_TtlRuns.j0 k a0 a1 a2 a3 (wrap64 ((wrap64 (a0)) + (wrap64 (a3)))) t117 t118 (wrap64 ((wrap64 ((wrap64 (a0)) + (wrap64 (a1)))) + (wrap64 (a2)))) false))))) else (if t116 > t115 then (gazetteerlaw12_TtlRuns.j0 k a0 a1 a2 a3 (wrap64 ((wrap64 (a0)) + (wrap64 (a3)))) t117 t118 (wrap64 ((wrap64 ((wrap64 (a0)) + (wrap64 (a1)))) + (wrap64 (a2)))) true) else (if (wrap64 (t115 - t116)) > 1 then (gazetteerlaw12_TtlRuns.j0 k a0 a1 a2 a3 (wrap64 ((wrap64 (a0)) + (wrap64 (a3)))) t117 t118 (wrap64 ((wrap64 ((wrap64 (a0)) + (wrap64 (a1)))) + (wrap64 (a2)))) true) else (if t115 > 0 then (gazetteerlaw12_TtlRuns.j0 k a0 a1 a2 a3 (wrap64 ((wrap64 (a0)) + (wrap64 (a3)))) t117 t118 (wrap64 ((wrap64 ((wrap64 (a0)) + (wrap64 (a1)))) + (wrap64 (a2)))) (t116 != (wrap64 (t115 - 1)))) else (gazetteerlaw12_TtlRuns.j0 k a0 a1 a2 a3 (wrap64 ((wrap64 (a0)) + (wrap64 (a3)))) t117 t118 (wrap64 ((wrap64 ((wrap64 (a0)) + (wrap64 (a1)))) + (wrap64 (a2)))) false))))) else (gazetteerlaw12_TtlRuns.j0 k a0 a1 a2 a3 (wrap64 ((wrap64 (a0)) + (wrap64 (a3)))) t117 t118 (wrap64 ((wrap64 ((wrap64 (a0)) + (wrap64 (a1)))) + (wrap64 (a2)))) true)))) = some r := H
  have A7 := Aside0.mk A70
  clear A70
  replace H := Option.bind_eq_some_iff.mp H
  obtain ⟨t118, A80, H⟩ := H
  replace H : ((gazetteerlaw12_answers.f).bind fun t119 => (if t119 = true then (if t117 = true then (if t118 = true then (gazetteerlaw12_TtlRuns.j0 k a0 a1 a2 a3 (wrap64 ((wrap64 (a0)) + (wrap64 (a3)))) t117 t118 (wrap64 ((wrap64 ((wrap64 (a0)) + (wrap64 (a1)))) + (wrap64 (a2)))) true) else (if t116 > t115 then (gazetteerlaw12_TtlRuns.j0 k a0 a1 a2 a3 (wrap64 ((wrap64 (a0)) + (wrap64 (a3)))) t117 t118 (wrap64 ((wrap64 ((wrap64 (a0)) + (wrap64 (a1)))) + (wrap64 (a2)))) true) else (if (wrap64 (t115 - t116)) > 1 then (gazetteerlaw12_TtlRuns.j0 k a0 a1 a2 a3 (wrap64 ((wrap64 (a0)) + (wrap64 (a3)))) t117 t118 (wrap64 ((wrap64 ((wrap64 (a0)) + (wrap64 (a1)))) + (wrap64 (a2)))) true) else (if t115 > 0 then (gazetteerlaw12_TtlRuns.j0 k a0 a1 a2 a3 (wrap64 ((wrap64 (a0)) + (wrap64 (a3)))) t117 t118 (wrap64 ((wrap64 ((wrap64 (a0)) + (wrap64 (a1)))) + (wrap64 (a2)))) (t116 != (wrap64 (t115 - 1)))) else (gazetteerlaw12_TtlRuns.j0 k a0 a1 a2 a3 (wrap64 ((wrap64 (a0)) + (wrap64 (a3)))) t117 t118 (wrap64 ((wrap64 ((wrap64 (a0)) + (wrap64 (a1)))) + (wrap64 (a2)))) false))))) else (if t116 > t115 then (gazetteerlaw12_TtlRuns.j0 k a0 a1 a2 a3 (wrap64 ((wrap64 (a0)) + (wrap64 (a3)))) t117 t118 (wrap64 ((wrap64 ((wrap64 (a0)) + (wrap64 (a1)))) + (wrap64 (a2)))) true) else (if (wrap64 (t115 - t116)) > 1 then (gazetteerlaw12_TtlRuns.j0 k a0 a1 a2 a3 (wrap64 ((wrap64 (a0)) + (wrap64 (a3)))) t117 t118 (wrap64 ((wrap64 ((wrap64 (a0)) + (wrap64 (a1)))) + (wrap64 (a2)))) true) else (if t115 > 0 then (gazetteerlaw12_TtlRuns.j0 k a0 a1 a2 a3 (wrap64 ((wrap64 (a0)) + (wrap64 (a3)))) t117 t118 (wrap64 ((wrap64 ((wrap64 (a0)) + (wrap64 (a1)))) + (wrap64 (a2)))) (t116 != (wrap64 (t115 - 1)))) else (gazetteerlaw12_TtlRuns.j0 k a0 a1 a2 a3 (wrap64 ((wrap64 (a0)) + (wrap64 (a3)))) t117 t118 (wrap64 ((wrap64 ((wrap64 (a0)) + (wrap64 (a1)))) + (wrap64 (a2)))) false))))) else (gazetteerlaw12_TtlRuns.j0 k a0 a1 a2 a3 (wrap64 ((wrap64 (a0)) + (wrap64 (a3)))) t117 t118 (wrap64 ((wrap64 ((wrap64 (a0)) + (wrap64 (a1)))) + (wrap64 (a2)))) true))) = some r := H
  have A8 := Aside0.mk A80
  clear A80
  have HC9 := Aside0.mk H
  clear H
  go_enter Try.func10, Try.ntmps10
  go_upto_region 5 with (first | ((with_reducible refine gate_callee (f := 16) rfl ?_); refine goesL_ (some 25) rfl rfl Try.func16 (by kernel_rfl) rfl #[.int .i64 (wrap64 (a0)), .int .i64 (wrap64 (a1)), .int .i64 (wrap64 ((wrap64 (a0)) + (wrap64 (a3))))] rfl (by (try simp only [List.map_toArray, List.map_cons, List.map_nil]); first | done | rfl | (simp only [List.length_drop, List.length_take]; rfl)) ?_; (with_reducible refine (ttl_Left.calls (wrap64 (a0)) (wrap64 (a1)) (wrap64 ((wrap64 (a0)) + (wrap64 (a3)))) t115 _ A5.out).mono ?_); rintro e w10 ⟨rfl, hb⟩; refine ⟨_, rfl, ?_⟩; have n0_ := Aside0.mk (below_step (by repeat (first | (with_reducible first | exact HB.out | apply below_alloc | apply pw_below_drewN | apply below_drew1) | exact HB.out)) hb); clear HB; have HB := n0_; clear n0_; (try clear hb); (try clear hb2); (try clear hk); (try clear hi)) | ((with_reducible refine gate_callee (f := 16) rfl ?_); refine goesL_ (some 32) rfl rfl Try.func16 (by kernel_rfl) rfl #[.int .i64 (wrap64 (a0)), .int .i64 (wrap64 (a1)), .int .i64 (wrap64 ((wrap64 ((wrap64 (a0)) + (wrap64 (a3)))) + 1))] rfl (by (try simp only [List.map_toArray, List.map_cons, List.map_nil]); first | done | rfl | (simp only [List.length_drop, List.length_take]; rfl)) ?_; (with_reducible refine (ttl_Left.calls (wrap64 (a0)) (wrap64 (a1)) (wrap64 ((wrap64 ((wrap64 (a0)) + (wrap64 (a3)))) + 1)) t116 _ A6.out).mono ?_); rintro e w11 ⟨rfl, hb⟩; refine ⟨_, rfl, ?_⟩; have n0_ := Aside0.mk (below_step (by repeat (first | (with_reducible first | exact HB.out | apply below_alloc | apply pw_below_drewN | apply below_drew1) | exact HB.out)) hb); clear HB; have HB := n0_; clear n0_; (try clear hb); (try clear hb2); (try clear hk); (try clear hi)) | ((with_reducible refine gate_callee (f := 17) rfl ?_); refine goesL_ (some 38) rfl rfl Try.func17 (by kernel_rfl) rfl #[.int .i64 (wrap64 (a0)), .int .i64 (wrap64 (a1)), .int .i64 (wrap64 ((wrap64 (a0)) + (wrap64 (a3))))] rfl (by (try simp only [List.map_toArray, List.map_cons, List.map_nil]); first | done | rfl | (simp only [List.length_drop, List.length_take]; rfl)) ?_; (with_reducible refine (ttl_Fresh.calls (wrap64 (a0)) (wrap64 (a1)) (wrap64 ((wrap64 (a0)) + (wrap64 (a3)))) t117 _ A7.out).mono ?_); rintro e w12 ⟨rfl, hb⟩; refine ⟨_, rfl, ?_⟩; have n0_ := Aside0.mk (below_step (by repeat (first | (with_reducible first | exact HB.out | apply below_alloc | apply pw_below_drewN | apply below_drew1) | exact HB.out)) hb); clear HB; have HB := n0_; clear n0_; (try clear hb); (try clear hb2); (try clear hk); (try clear hi)) | ((with_reducible refine gate_callee (f := 30) rfl ?_); refine goesL_ (some 46) rfl rfl Try.func30 (by kernel_rfl) rfl #[.int .i64 (wrap64 (a0)), .int .i64 (wrap64 (a1)), .int .i64 (wrap64 (a2)), .int .i64 (wrap64 ((wrap64 (a0)) + (wrap64 (a3))))] rfl (by (try simp only [List.map_toArray, List.map_cons, List.map_nil]); first | done | rfl | (simp only [List.length_drop, List.length_take]; rfl)) ?_; (with_reducible refine (ttl_Stale.calls (wrap64 (a0)) (wrap64 (a1)) (wrap64 (a2)) (wrap64 ((wrap64 (a0)) + (wrap64 (a3)))) t118 _ A8.out).mono ?_); rintro e w13 ⟨rfl, hb⟩; refine ⟨_, rfl, ?_⟩; have n0_ := Aside0.mk (below_step (by repeat (first | (with_reducible first | exact HB.out | apply below_alloc | apply pw_below_drewN | apply below_drew1) | exact HB.out)) hb); clear HB; have HB := n0_; clear n0_; (try clear hb); (try clear hb2); (try clear hk); (try clear hi)))
  (try simp only [Act.put, List.setIfInBounds_toArray, List.set_cons_zero, List.set_cons_succ])
  go_cut [83] (fun v83 wc => ∃ (kq : Nat) (x83_8 : Bool), v83 = .bool x83_8 ∧ Aside0 (gazetteerlaw12_TtlRuns.j0 kq a0 a1 a2 a3 (wrap64 ((wrap64 (a0)) + (wrap64 (a3)))) t117 t118 (wrap64 ((wrap64 ((wrap64 (a0)) + (wrap64 (a1)))) + (wrap64 (a2)))) x83_8 = some r) ∧ Aside0 (kq ≤ k) ∧ Aside0 (Below w.heap.size w wc))
  case first =>
    have H := HC9.out
    clear HC9
    replace H := Option.bind_eq_some_iff.mp H
    obtain ⟨t119, A140, H⟩ := H
    replace H : (if t119 = true then (if t117 = true then (if t118 = true then (gazetteerlaw12_TtlRuns.j0 k a0 a1 a2 a3 (wrap64 ((wrap64 (a0)) + (wrap64 (a3)))) t117 t118 (wrap64 ((wrap64 ((wrap64 (a0)) + (wrap64 (a1)))) + (wrap64 (a2)))) true) else (if t116 > t115 then (gazetteerlaw12_TtlRuns.j0 k a0 a1 a2 a3 (wrap64 ((wrap64 (a0)) + (wrap64 (a3)))) t117 t118 (wrap64 ((wrap64 ((wrap64 (a0)) + (wrap64 (a1)))) + (wrap64 (a2)))) true) else (if (wrap64 (t115 - t116)) > 1 then (gazetteerlaw12_TtlRuns.j0 k a0 a1 a2 a3 (wrap64 ((wrap64 (a0)) + (wrap64 (a3)))) t117 t118 (wrap64 ((wrap64 ((wrap64 (a0)) + (wrap64 (a1)))) + (wrap64 (a2)))) true) else (if t115 > 0 then (gazetteerlaw12_TtlRuns.j0 k a0 a1 a2 a3 (wrap64 ((wrap64 (a0)) + (wrap64 (a3)))) t117 t118 (wrap64 ((wrap64 ((wrap64 (a0)) + (wrap64 (a1)))) + (wrap64 (a2)))) (t116 != (wrap64 (t115 - 1)))) else (gazetteerlaw12_TtlRuns.j0 k a0 a1 a2 a3 (wrap64 ((wrap64 (a0)) + (wrap64 (a3)))) t117 t118 (wrap64 ((wrap64 ((wrap64 (a0)) + (wrap64 (a1)))) + (wrap64 (a2)))) false))))) else (if t116 > t115 then (gazetteerlaw12_TtlRuns.j0 k a0 a1 a2 a3 (wrap64 ((wrap64 (a0)) + (wrap64 (a3)))) t117 t118 (wrap64 ((wrap64 ((wrap64 (a0)) + (wrap64 (a1)))) + (wrap64 (a2)))) true) else (if (wrap64 (t115 - t116)) > 1 then (gazetteerlaw12_TtlRuns.j0 k a0 a1 a2 a3 (wrap64 ((wrap64 (a0)) + (wrap64 (a3)))) t117 t118 (wrap64 ((wrap64 ((wrap64 (a0)) + (wrap64 (a1)))) + (wrap64 (a2)))) true) else (if t115 > 0 then (gazetteerlaw12_TtlRuns.j0 k a0 a1 a2 a3 (wrap64 ((wrap64 (a0)) + (wrap64 (a3)))) t117 t118 (wrap64 ((wrap64 ((wrap64 (a0)) + (wrap64 (a1)))) + (wrap64 (a2)))) (t116 != (wrap64 (t115 - 1)))) else (gazetteerlaw12_TtlRuns.j0 k a0 a1 a2 a3 (wrap64 ((wrap64 (a0)) + (wrap64 (a3)))) t117 t118 (wrap64 ((wrap64 ((wrap64 (a0)) + (wrap64 (a1)))) + (wrap64 (a2)))) false))))) else (gazetteerlaw12_TtlRuns.j0 k a0 a1 a2 a3 (wrap64 ((wrap64 (a0)) + (wrap64 (a3)))) t117 t118 (wrap64 ((wrap64 ((wrap64 (a0)) + (wrap64 (a1)))) + (wrap64 (a2)))) true)) = some r := H
    have A14 := Aside0.mk A140
    clear A140
    by_cases c15 : t119 = true
    · subst c15
      have H1 : (if t117 = true then (if t118 = true then (gazetteerlaw12_TtlRuns.j0 k a0 a1 a2 a3 (wrap64 ((wrap64 (a0)) + (wrap64 (a3)))) t117 t118 (wrap64 ((wrap64 ((wrap64 (a0)) + (wrap64 (a1)))) + (wrap64 (a2)))) true) else (if t116 > t115 then (gazetteerlaw12_TtlRuns.j0 k a0 a1 a2 a3 (wrap64 ((wrap64 (a0)) + (wrap64 (a3)))) t117 t118 (wrap64 ((wrap64 ((wrap64 (a0)) + (wrap64 (a1)))) + (wrap64 (a2)))) true) else (if (wrap64 (t115 - t116)) > 1 then (gazetteerlaw12_TtlRuns.j0 k a0 a1 a2 a3 (wrap64 ((wrap64 (a0)) + (wrap64 (a3)))) t117 t118 (wrap64 ((wrap64 ((wrap64 (a0)) + (wrap64 (a1)))) + (wrap64 (a2)))) true) else (if t115 > 0 then (gazetteerlaw12_TtlRuns.j0 k a0 a1 a2 a3 (wrap64 ((wrap64 (a0)) + (wrap64 (a3)))) t117 t118 (wrap64 ((wrap64 ((wrap64 (a0)) + (wrap64 (a1)))) + (wrap64 (a2)))) (t116 != (wrap64 (t115 - 1)))) else (gazetteerlaw12_TtlRuns.j0 k a0 a1 a2 a3 (wrap64 ((wrap64 (a0)) + (wrap64 (a3)))) t117 t118 (wrap64 ((wrap64 ((wrap64 (a0)) + (wrap64 (a1)))) + (wrap64 (a2)))) false))))) else (if t116 > t115 then (gazetteerlaw12_TtlRuns.j0 k a0 a1 a2 a3 (wrap64 ((wrap64 (a0)) + (wrap64 (a3)))) t117 t118 (wrap64 ((wrap64 ((wrap64 (a0)) + (wrap64 (a1)))) + (wrap64 (a2)))) true) else (if (wrap64 (t115 - t116)) > 1 then (gazetteerlaw12_TtlRuns.j0 k a0 a1 a2 a3 (wrap64 ((wrap64 (a0)) + (wrap64 (a3)))) t117 t118 (wrap64 ((wrap64 ((wrap64 (a0)) + (wrap64 (a1)))) + (wrap64 (a2)))) true) else (if t115 > 0 then (gazetteerlaw12_TtlRuns.j0 k a0 a1 a2 a3 (wrap64 ((wrap64 (a0)) + (wrap64 (a3)))) t117 t118 (wrap64 ((wrap64 ((wrap64 (a0)) + (wrap64 (a1)))) + (wrap64 (a2)))) (t116 != (wrap64 (t115 - 1)))) else (gazetteerlaw12_TtlRuns.j0 k a0 a1 a2 a3 (wrap64 ((wrap64 (a0)) + (wrap64 (a3)))) t117 t118 (wrap64 ((wrap64 ((wrap64 (a0)) + (wrap64 (a1)))) + (wrap64 (a2)))) false))))) = some r := by rw [if_pos rfl] at H; exact H
      clear H
      have H := H1
      clear H1
      by_cases c16 : t117 = true
      · subst c16
        have H1 : (if t118 = true then (gazetteerlaw12_TtlRuns.j0 k a0 a1 a2 a3 (wrap64 ((wrap64 (a0)) + (wrap64 (a3)))) true t118 (wrap64 ((wrap64 ((wrap64 (a0)) + (wrap64 (a1)))) + (wrap64 (a2)))) true) else (if t116 > t115 then (gazetteerlaw12_TtlRuns.j0 k a0 a1 a2 a3 (wrap64 ((wrap64 (a0)) + (wrap64 (a3)))) true t118 (wrap64 ((wrap64 ((wrap64 (a0)) + (wrap64 (a1)))) + (wrap64 (a2)))) true) else (if (wrap64 (t115 - t116)) > 1 then (gazetteerlaw12_TtlRuns.j0 k a0 a1 a2 a3 (wrap64 ((wrap64 (a0)) + (wrap64 (a3)))) true t118 (wrap64 ((wrap64 ((wrap64 (a0)) + (wrap64 (a1)))) + (wrap64 (a2)))) true) else (if t115 > 0 then (gazetteerlaw12_TtlRuns.j0 k a0 a1 a2 a3 (wrap64 ((wrap64 (a0)) + (wrap64 (a3)))) true t118 (wrap64 ((wrap64 ((wrap64 (a0)) + (wrap64 (a1)))) + (wrap64 (a2)))) (t116 != (wrap64 (t115 - 1)))) else (gazetteerlaw12_TtlRuns.j0 k a0 a1 a2 a3 (wrap64 ((wrap64 (a0)) + (wrap64 (a3)))) true t118 (wrap64 ((wrap64 ((wrap64 (a0)) + (wrap64 (a1)))) + (wrap64 (a2)))) false))))) = some r := by rw [if_pos rfl] at H; exact H
        clear H
        have H := H1
        clear H1
        by_cases c17 : t118 = true
        · subst c17
          have H1 : (gazetteerlaw12_TtlRuns.j0 k a0 a1 a2 a3 (wrap64 ((wrap64 (a0)) + (wrap64 (a3)))) true true (wrap64 ((wrap64 ((wrap64 (a0)) + (wrap64 (a1)))) + (wrap64 (a2)))) true) = some r := by rw [if_pos rfl] at H; exact H
          clear H
          have H := H1
          clear H1
          have H' := Aside0.mk H
          clear H
          go_wp2_with (first | ((with_reducible refine gate_callee (f := 15) rfl ?_); refine goesL_ (some 55) rfl rfl Try.func15 (by kernel_rfl) rfl #[] rfl (by (try simp only [List.map_toArray, List.map_cons, List.map_nil]); first | done | rfl | (simp only [List.length_drop, List.length_take]; rfl)) ?_; (with_reducible refine (gazetteerlaw12_answers.calls  true _ A14.out).mono ?_); rintro e w18 ⟨rfl, hb⟩; refine ⟨_, rfl, ?_⟩; have n0_ := Aside0.mk (below_step (by repeat (first | (with_reducible first | exact HB.out | apply below_alloc | apply pw_below_drewN | apply below_drew1) | exact HB.out)) hb); clear HB; have HB := n0_; clear n0_; (try clear hb); (try clear hb2); (try clear hk); (try clear hi)))
          go_meet
          case rel => exact ⟨_, (true), (by first | rfl | (simp; done) | (simp [*]; done)), H', ⟨by first | omega | exact Nat.le_refl _⟩, ⟨by repeat (first | (with_reducible first | exact HB.out | apply below_alloc | apply pw_below_drewN | apply below_drew1) | exact HB.out)⟩⟩
        · replace c17 := Bool.eq_false_iff.mpr c17
          subst c17
          have H1 : (if t116 > t115 then (gazetteerlaw12_TtlRuns.j0 k a0 a1 a2 a3 (wrap64 ((wrap64 (a0)) + (wrap64 (a3)))) true false (wrap64 ((wrap64 ((wrap64 (a0)) + (wrap64 (a1)))) + (wrap64 (a2)))) true) else (if (wrap64 (t115 - t116)) > 1 then (gazetteerlaw12_TtlRuns.j0 k a0 a1 a2 a3 (wrap64 ((wrap64 (a0)) + (wrap64 (a3)))) true false (wrap64 ((wrap64 ((wrap64 (a0)) + (wrap64 (a1)))) + (wrap64 (a2)))) true) else (if t115 > 0 then (gazetteerlaw12_TtlRuns.j0 k a0 a1 a2 a3 (wrap64 ((wrap64 (a0)) + (wrap64 (a3)))) true false (wrap64 ((wrap64 ((wrap64 (a0)) + (wrap64 (a1)))) + (wrap64 (a2)))) (t116 != (wrap64 (t115 - 1)))) else (gazetteerlaw12_TtlRuns.j0 k a0 a1 a2 a3 (wrap64 ((wrap64 (a0)) + (wrap64 (a3)))) true false (wrap64 ((wrap64 ((wrap64 (a0)) + (wrap64 (a1)))) + (wrap64 (a2)))) false)))) = some r := by rw [if_neg (show ¬ (false = true) by decide)] at H; exact H
          clear H
          have H := H1
          clear H1
          by_cases c19 : t116 > t115
          · rw [if_pos c19] at H
            have c19b0 : decide (t115 < t116) = true := decide_eq_true c19
            clear c19
            (first | rw [c19b0] | (simp only [i64_w, i32_w]; rw [c19b0]) | skip)
            have H' := Aside0.mk H
            clear H
            go_wp2_with (first | ((with_reducible refine gate_callee (f := 15) rfl ?_); refine goesL_ (some 55) rfl rfl Try.func15 (by kernel_rfl) rfl #[] rfl (by (try simp only [List.map_toArray, List.map_cons, List.map_nil]); first | done | rfl | (simp only [List.length_drop, List.length_take]; rfl)) ?_; (with_reducible refine (gazetteerlaw12_answers.calls  true _ A14.out).mono ?_); rintro e w20 ⟨rfl, hb⟩; refine ⟨_, rfl, ?_⟩; have n0_ := Aside0.mk (below_step (by repeat (first | (with_reducible first | exact HB.out | apply below_alloc | apply pw_below_drewN | apply below_drew1) | exact HB.out)) hb); clear HB; have HB := n0_; clear n0_; (try clear hb); (try clear hb2); (try clear hk); (try clear hi)))
            go_meet
            case rel => exact ⟨_, (true), (by first | rfl | (simp; done) | (simp [*]; done)), H', ⟨by first | omega | exact Nat.le_refl _⟩, ⟨by repeat (first | (with_reducible first | exact HB.out | apply below_alloc | apply pw_below_drewN | apply below_drew1) | exact HB.out)⟩⟩
          · rw [if_neg c19] at H
            have c19b0 : decide (t115 < t116) = false := decide_eq_false c19
            clear c19
            (first | rw [c19b0] | (simp only [i64_w, i32_w]; rw [c19b0]) | skip)
            by_cases c21 : (wrap64 (t115 - t116)) > 1
            · rw [if_pos c21] at H
              have c21b0 : decide (1 < (wrap64 (t115 - t116))) = true := decide_eq_true c21
              clear c21
              have H' := Aside0.mk H
              clear H
              go_wp2_with (first | ((with_reducible refine gate_callee (f := 15) rfl ?_); refine goesL_ (some 55) rfl rfl Try.func15 (by kernel_rfl) rfl #[] rfl (by (try simp only [List.map_toArray, List.map_cons, List.map_nil]); first | done | rfl | (simp only [List.length_drop, List.length_take]; rfl)) ?_; (with_reducible refine (gazetteerlaw12_answers.calls  true _ A14.out).mono ?_); rintro e w22 ⟨rfl, hb⟩; refine ⟨_, rfl, ?_⟩; have n0_ := Aside0.mk (below_step (by repeat (first | (with_reducible first | exact HB.out | apply below_alloc | apply pw_below_drewN | apply below_drew1) | exact HB.out)) hb); clear HB; have HB := n0_; clear n0_; (try clear hb); (try clear hb2); (try clear hk); (try clear hi)))
              go_meet
              case rel => exact ⟨_, (true), (by first | rfl | (simp; done) | (simp [*]; done)), H', ⟨by first | omega | exact Nat.le_refl _⟩, ⟨by repeat (first | (with_reducible first | exact HB.out | apply below_alloc | apply pw_below_drewN | apply below_drew1) | exact HB.out)⟩⟩
            · rw [if_neg c21] at H
              have c21b0 : decide (1 < (wrap64 (t115 - t116))) = false := decide_eq_false c21
              clear c21
              by_cases c23 : t115 > 0
              · rw [if_pos c23] at H
                have c23b0 : decide (0 < t115) = true := decide_eq_true c23
                clear c23
                have H' := Aside0.mk H
                clear H
                go_wp2_with (first | ((with_reducible refine gate_callee (f := 15) rfl ?_); refine goesL_ (some 55) rfl rfl Try.func15 (by kernel_rfl) rfl #[] rfl (by (try simp only [List.map_toArray, List.map_cons, List.map_nil]); first | done | rfl | (simp only [List.length_drop, List.length_take]; rfl)) ?_; (with_reducible refine (gazetteerlaw12_answers.calls  true _ A14.out).mono ?_); rintro e w24 ⟨rfl, hb⟩; refine ⟨_, rfl, ?_⟩; have n0_ := Aside0.mk (below_step (by repeat (first | (with_reducible first | exact HB.out | apply below_alloc | apply pw_below_drewN | apply below_drew1) | exact HB.out)) hb); clear HB; have HB := n0_; clear n0_; (try clear hb); (try clear hb2); (try clear hk); (try clear hi)))
                go_meet
                case rel => exact ⟨_, ((t116 != (wrap64 (t115 - 1)))), (by first | rfl | (simp; done) | (simp [*]; done)), H', ⟨by first | omega | exact Nat.le_refl _⟩, ⟨by repeat (first | (with_reducible first | exact HB.out | apply below_alloc | apply pw_below_drewN | apply below_drew1) | exact HB.out)⟩⟩
              · rw [if_neg c23] at H
                have c23b0 : decide (0 < t115) = false := decide_eq_false c23
                clear c23
                have H' := Aside0.mk H
                clear H
                go_wp2_with (first | ((with_reducible refine gate_callee (f := 15) rfl ?_); refine goesL_ (some 55) rfl rfl Try.func15 (by kernel_rfl) rfl #[] rfl (by (try simp only [List.map_toArray, List.map_cons, List.map_nil]); first | done | rfl | (simp only [List.length_drop, List.length_take]; rfl)) ?_; (with_reducible refine (gazetteerlaw12_answers.calls  true _ A14.out).mono ?_); rintro e w25 ⟨rfl, hb⟩; refine ⟨_, rfl, ?_⟩; have n0_ := Aside0.mk (below_step (by repeat (first | (with_reducible first | exact HB.out | apply below_alloc | apply pw_below_drewN | apply below_drew1) | exact HB.out)) hb); clear HB; have HB := n0_; clear n0_; (try clear hb); (try clear hb2); (try clear hk); (try clear hi)))
                go_meet
                case rel => exact ⟨_, (false), (by first | rfl | (simp; done) | (simp [*]; done)), H', ⟨by first | omega | exact Nat.le_refl _⟩, ⟨by repeat (first | (with_reducible first | exact HB.out | apply below_alloc | apply pw_below_drewN | apply below_drew1) | exact HB.out)⟩⟩
      · replace c16 := Bool.eq_false_iff.mpr c16
        subst c16
        have H1 : (if t116 > t115 then (gazetteerlaw12_TtlRuns.j0 k a0 a1 a2 a3 (wrap64 ((wrap64 (a0)) + (wrap64 (a3)))) false t118 (wrap64 ((wrap64 ((wrap64 (a0)) + (wrap64 (a1)))) + (wrap64 (a2)))) true) else (if (wrap64 (t115 - t116)) > 1 then (gazetteerlaw12_TtlRuns.j0 k a0 a1 a2 a3 (wrap64 ((wrap64 (a0)) + (wrap64 (a3)))) false t118 (wrap64 ((wrap64 ((wrap64 (a0)) + (wrap64 (a1)))) + (wrap64 (a2)))) true) else (if t115 > 0 then (gazetteerlaw12_TtlRuns.j0 k a0 a1 a2 a3 (wrap64 ((wrap64 (a0)) + (wrap64 (a3)))) false t118 (wrap64 ((wrap64 ((wrap64 (a0)) + (wrap64 (a1)))) + (wrap64 (a2)))) (t116 != (wrap64 (t115 - 1)))) else (gazetteerlaw12_TtlRuns.j0 k a0 a1 a2 a3 (wrap64 ((wrap64 (a0)) + (wrap64 (a3)))) false t118 (wrap64 ((wrap64 ((wrap64 (a0)) + (wrap64 (a1)))) + (wrap64 (a2)))) false)))) = some r := by rw [if_neg (show ¬ (false = true) by decide)] at H; exact H
        clear H
        have H := H1
        clear H1
        by_cases c26 : t116 > t115
        · rw [if_pos c26] at H
          have c26b0 : decide (t115 < t116) = true := decide_eq_true c26
          clear c26
          have H' := Aside0.mk H
          clear H
          go_wp2_with (first | ((with_reducible refine gate_callee (f := 15) rfl ?_); refine goesL_ (some 55) rfl rfl Try.func15 (by kernel_rfl) rfl #[] rfl (by (try simp only [List.map_toArray, List.map_cons, List.map_nil]); first | done | rfl | (simp only [List.length_drop, List.length_take]; rfl)) ?_; (with_reducible refine (gazetteerlaw12_answers.calls  true _ A14.out).mono ?_); rintro e w27 ⟨rfl, hb⟩; refine ⟨_, rfl, ?_⟩; have n0_ := Aside0.mk (below_step (by repeat (first | (with_reducible first | exact HB.out | apply below_alloc | apply pw_below_drewN | apply below_drew1) | exact HB.out)) hb); clear HB; have HB := n0_; clear n0_; (try clear hb); (try clear hb2); (try clear hk); (try clear hi)))
          go_meet
          case rel => exact ⟨_, (true), (by first | rfl | (simp; done) | (simp [*]; done)), H', ⟨by first | omega | exact Nat.le_refl _⟩, ⟨by repeat (first | (with_reducible first | exact HB.out | apply below_alloc | apply pw_below_drewN | apply below_drew1) | exact HB.out)⟩⟩
        · rw [if_neg c26] at H
          have c26b0 : decide (t115 < t116) = false := decide_eq_false c26
          clear c26
          by_cases c28 : (wrap64 (t115 - t116)) > 1
          · rw [if_pos c28] at H
            have c28b0 : decide (1 < (wrap64 (t115 - t116))) = true := decide_eq_true c28
            clear c28
            have H' := Aside0.mk H
            clear H
            go_wp2_with (first | ((with_reducible refine gate_callee (f := 15) rfl ?_); refine goesL_ (some 55) rfl rfl Try.func15 (by kernel_rfl) rfl #[] rfl (by (try simp only [List.map_toArray, List.map_cons, List.map_nil]); first | done | rfl | (simp only [List.length_drop, List.length_take]; rfl)) ?_; (with_reducible refine (gazetteerlaw12_answers.calls  true _ A14.out).mono ?_); rintro e w29 ⟨rfl, hb⟩; refine ⟨_, rfl, ?_⟩; have n0_ := Aside0.mk (below_step (by repeat (first | (with_reducible first | exact HB.out | apply below_alloc | apply pw_below_drewN | apply below_drew1) | exact HB.out)) hb); clear HB; have HB := n0_; clear n0_; (try clear hb); (try clear hb2); (try clear hk); (try clear hi)))
            go_meet
            case rel => exact ⟨_, (true), (by first | rfl | (simp; done) | (simp [*]; done)), H', ⟨by first | omega | exact Nat.le_refl _⟩, ⟨by repeat (first | (with_reducible first | exact HB.out | apply below_alloc | apply pw_below_drewN | apply below_drew1) | exact HB.out)⟩⟩
          · rw [if_neg c28] at H
            have c28b0 : decide (1 < (wrap64 (t115 - t116))) = false := decide_eq_false c28
            clear c28
            by_cases c30 : t115 > 0
            · rw [if_pos c30] at H
              have c30b0 : decide (0 < t115) = true := decide_eq_true c30
              clear c30
              have H' := Aside0.mk H
              clear H
              go_wp2_with (first | ((with_reducible refine gate_callee (f := 15) rfl ?_); refine goesL_ (some 55) rfl rfl Try.func15 (by kernel_rfl) rfl #[] rfl (by (try simp only [List.map_toArray, List.map_cons, List.map_nil]); first | done | rfl | (simp only [List.length_drop, List.length_take]; rfl)) ?_; (with_reducible refine (gazetteerlaw12_answers.calls  true _ A14.out).mono ?_); rintro e w31 ⟨rfl, hb⟩; refine ⟨_, rfl, ?_⟩; have n0_ := Aside0.mk (below_step (by repeat (first | (with_reducible first | exact HB.out | apply below_alloc | apply pw_below_drewN | apply below_drew1) | exact HB.out)) hb); clear HB; have HB := n0_; clear n0_; (try clear hb); (try clear hb2); (try clear hk); (try clear hi)))
              go_meet
              case rel => exact ⟨_, ((t116 != (wrap64 (t115 - 1)))), (by first | rfl | (simp; done) | (simp [*]; done)), H', ⟨by first | omega | exact Nat.le_refl _⟩, ⟨by repeat (first | (with_reducible first | exact HB.out | apply below_alloc | apply pw_below_drewN | apply below_drew1) | exact HB.out)⟩⟩
            · rw [if_neg c30] at H
              have c30b0 : decide (0 < t115) = false := decide_eq_false c30
              clear c30
              have H' := Aside0.mk H
              clear H
              go_wp2_with (first | ((with_reducible refine gate_callee (f := 15) rfl ?_); refine goesL_ (some 55) rfl rfl Try.func15 (by kernel_rfl) rfl #[] rfl (by (try simp only [List.map_toArray, List.map_cons, List.map_nil]); first | done | rfl | (simp only [List.length_drop, List.length_take]; rfl)) ?_; (with_reducible refine (gazetteerlaw12_answers.calls  true _ A14.out).mono ?_); rintro e w32 ⟨rfl, hb⟩; refine ⟨_, rfl, ?_⟩; have n0_ := Aside0.mk (below_step (by repeat (first | (with_reducible first | exact HB.out | apply below_alloc | apply pw_below_drewN | apply below_drew1) | exact HB.out)) hb); clear HB; have HB := n0_; clear n0_; (try clear hb); (try clear hb2); (try clear hk); (try clear hi)))
              go_meet
              case rel => exact ⟨_, (false), (by first | rfl | (simp; done) | (simp [*]; done)), H', ⟨by first | omega | exact Nat.le_refl _⟩, ⟨by repeat (first | (with_reducible first | exact HB.out | apply below_alloc | apply pw_below_drewN | apply below_drew1) | exact HB.out)⟩⟩
    · replace c15 := Bool.eq_false_iff.mpr c15
      subst c15
      have H1 : (gazetteerlaw12_TtlRuns.j0 k a0 a1 a2 a3 (wrap64 ((wrap64 (a0)) + (wrap64 (a3)))) t117 t118 (wrap64 ((wrap64 ((wrap64 (a0)) + (wrap64 (a1)))) + (wrap64 (a2)))) true) = some r := by rw [if_neg (show ¬ (false = true) by decide)] at H; exact H
      clear H
      have H := H1
      clear H1
      have H' := Aside0.mk H
      clear H
      go_wp2_with (first | ((with_reducible refine gate_callee (f := 15) rfl ?_); refine goesL_ (some 55) rfl rfl Try.func15 (by kernel_rfl) rfl #[] rfl (by (try simp only [List.map_toArray, List.map_cons, List.map_nil]); first | done | rfl | (simp only [List.length_drop, List.length_take]; rfl)) ?_; (with_reducible refine (gazetteerlaw12_answers.calls  false _ A14.out).mono ?_); rintro e w33 ⟨rfl, hb⟩; refine ⟨_, rfl, ?_⟩; have n0_ := Aside0.mk (below_step (by repeat (first | (with_reducible first | exact HB.out | apply below_alloc | apply pw_below_drewN | apply below_drew1) | exact HB.out)) hb); clear HB; have HB := n0_; clear n0_; (try clear hb); (try clear hb2); (try clear hk); (try clear hi)))
      go_meet
      case rel => exact ⟨_, (true), (by first | rfl | (simp; done) | (simp [*]; done)), H', ⟨by first | omega | exact Nat.le_refl _⟩, ⟨by repeat (first | (with_reducible first | exact HB.out | apply below_alloc | apply pw_below_drewN | apply below_drew1) | exact HB.out)⟩⟩
  case rest =>
    clear HC9
    try clear c1
    try clear c2
    try clear p2
    try clear c3
    try clear p6
    try clear c10
    try clear c15
    try clear c16
    try clear c17
    try clear c19
    try clear c19b0
    try clear c21
    try clear c21b0
    try clear c23
    try clear c23b0
    try clear c26
    try clear c26b0
    try clear c28
    try clear c28b0
    try clear c30
    try clear c30b0
    obtain ⟨kq, x83_8, rfl, HA, HJ8, HB⟩ := hcut
    cases kq with
    | zero => exact absurd HA.out (by simp [gazetteerlaw12_TtlRuns.j0])
    | succ kj8 =>
      have H := HA.out
      clear HA
      simp only [gazetteerlaw12_TtlRuns.j0] at H
      by_cases c34 : x83_8 = true
      · subst c34
        have H1 : (some false) = some r := by rw [if_pos rfl] at H; exact H
        clear H
        have H := H1
        clear H1
        obtain rfl := Option.some.inj H
        go_wp2
        go_ret
        exact ⟨by first | rfl | (simp [errW_none, errW_some] <;> rfl) | (simp [*, errW_none, errW_some] <;> rfl), by repeat (first | (with_reducible first | exact HB.out | apply below_alloc | apply pw_below_drewN | apply below_drew1) | exact HB.out)⟩
      · replace c34 := Bool.eq_false_iff.mpr c34
        subst c34
        have H1 : (if (t117 != (decide ((wrap64 (a3)) < (wrap64 (a1))))) = true then (gazetteerlaw12_TtlRuns.j1 kj8 a0 a1 a2 (wrap64 ((wrap64 ((wrap64 (a0)) + (wrap64 (a1)))) + (wrap64 (a2)))) true) else (if (wrap64 (a3)) ≥ (wrap64 (a1)) then (gazetteerlaw12_TtlRuns.j1 kj8 a0 a1 a2 (wrap64 ((wrap64 ((wrap64 (a0)) + (wrap64 (a1)))) + (wrap64 (a2)))) (t118 != (decide ((wrap64 ((wrap64 (a0)) + (wrap64 (a3)))) < (wrap64 ((wrap64 ((wrap64 (a0)) + (wrap64 (a1)))) + (wrap64 (a2)))))))) else (gazetteerlaw12_TtlRuns.j1 kj8 a0 a1 a2 (wrap64 ((wrap64 ((wrap64 (a0)) + (wrap64 (a1)))) + (wrap64 (a2)))) (t118 != false)))) = some r := by rw [if_neg (show ¬ (false = true) by decide)] at H; exact H
        clear H
        have H := H1
        clear H1
        have HC35 := Aside0.mk H
        clear H
        go_upto_region 7 with (fail)
        go_cut [104] (fun v104 wc => ∃ (kq : Nat) (x104_34 : Bool), v104 = .bool x104_34 ∧ Aside0 (gazetteerlaw12_TtlRuns.j1 kq a0 a1 a2 (wrap64 ((wrap64 ((wrap64 (a0)) + (wrap64 (a1)))) + (wrap64 (a2)))) x104_34 = some r) ∧ Aside0 (kq ≤ kj8) ∧ Aside0 (Below w.heap.size w wc))
        case first =>
          have H := HC35.out
          clear HC35
          by_cases c36 : (t117 != (decide ((wrap64 (a3)) < (wrap64 (a1))))) = true
          · rw [if_pos c36] at H
            have c36b0 : (t117 != (decide ((wrap64 (a3)) < (wrap64 (a1))))) = true := c36
            (try (have c36b1 : decide (t117 = (decide ((wrap64 (a3)) < (wrap64 (a1))))) = false := by simpa using c36))
            (try (have c36b2 : (t117 == (decide ((wrap64 (a3)) < (wrap64 (a1))))) = false := by simpa using c36))
            (try (have c36b3 : ¬ (t117 = (decide ((wrap64 (a3)) < (wrap64 (a1))))) := by simpa using c36))
            clear c36
            (first | rw [c36b0] | (simp only [i64_w, i32_w]; rw [c36b0]) | skip)
            have H' := Aside0.mk H
            clear H
            go_wp2
            go_meet
            case rel => exact ⟨_, (true), (by first | rfl | (simp; done) | (simp [*]; done)), H', ⟨by have := HJ8.out; first | omega | exact Nat.le_refl _⟩, ⟨by repeat (first | (with_reducible first | exact HB.out | apply below_alloc | apply pw_below_drewN | apply below_drew1) | exact HB.out)⟩⟩
          · rw [if_neg c36] at H
            have c36b0 : (t117 != (decide ((wrap64 (a3)) < (wrap64 (a1))))) = false := by simpa using c36
            (try (have c36b1 : decide (t117 = (decide ((wrap64 (a3)) < (wrap64 (a1))))) = true := by simpa using c36))
            (try (have c36b2 : (t117 == (decide ((wrap64 (a3)) < (wrap64 (a1))))) = true := by simpa using c36))
            clear c36
            (first | rw [c36b0] | (simp only [i64_w, i32_w]; rw [c36b0]) | skip)
            by_cases c37 : (wrap64 (a3)) ≥ (wrap64 (a1))
            · rw [if_pos c37] at H
              have c37b0 : decide ((wrap64 (a1)) ≤ (wrap64 (a3))) = true := decide_eq_true c37
              clear c37
              have H' := Aside0.mk H
              clear H
              go_wp2
              go_meet
              case rel => exact ⟨_, ((t118 != (decide ((wrap64 ((wrap64 (a0)) + (wrap64 (a3)))) < (wrap64 ((wrap64 ((wrap64 (a0)) + (wrap64 (a1)))) + (wrap64 (a2)))))))), (by first | rfl | (simp; done) | (simp [*]; done)), H', ⟨by have := HJ8.out; first | omega | exact Nat.le_refl _⟩, ⟨by repeat (first | (with_reducible first | exact HB.out | apply below_alloc | apply pw_below_drewN | apply below_drew1) | exact HB.out)⟩⟩
            · rw [if_neg c37] at H
              have c37b0 : decide ((wrap64 (a1)) ≤ (wrap64 (a3))) = false := decide_eq_false c37
              clear c37
              have H' := Aside0.mk H
              clear H
              go_wp2
              go_meet
              case rel => exact ⟨_, ((t118 != false)), (by first | rfl | (simp; done) | (simp [*]; done)), H', ⟨by have := HJ8.out; first | omega | exact Nat.le_refl _⟩, ⟨by repeat (first | (with_reducible first | exact HB.out | apply below_alloc | apply pw_below_drewN | apply below_drew1) | exact HB.out)⟩⟩
        case rest =>
          clear HC35
          try clear c1
          try clear c2
          try clear p2
          try clear c3
          try clear p6
          try clear c10
          try clear c15
          try clear c16
          try clear c17
          try clear c19
          try clear c19b0
          try clear c21
          try clear c21b0
          try clear c23
          try clear c23b0
          try clear c26
          try clear c26b0
          try clear c28
          try clear c28b0
          try clear c30
          try clear c30b0
          try clear c34
          try clear c36
          try clear c36b0
          try clear c36b1
          try clear c36b2
          try clear c37
          try clear c37b0
          try clear p2
          try clear p6
          obtain ⟨kq, x104_34, rfl, HA, HJ34, HB⟩ := hcut
          cases kq with
          | zero => exact absurd HA.out (by simp [gazetteerlaw12_TtlRuns.j1])
          | succ kj34 =>
            have H := HA.out
            clear HA
            simp only [gazetteerlaw12_TtlRuns.j1] at H
            by_cases c38 : x104_34 = true
            · subst c38
              have H1 : (some false) = some r := by rw [if_pos rfl] at H; exact H
              clear H
              have H := H1
              clear H1
              obtain rfl := Option.some.inj H
              go_wp2
              go_ret
              exact ⟨by first | rfl | (simp [errW_none, errW_some] <;> rfl) | (simp [*, errW_none, errW_some] <;> rfl), by repeat (first | (with_reducible first | exact HB.out | apply below_alloc | apply pw_below_drewN | apply below_drew1) | exact HB.out)⟩
            · replace c38 := Bool.eq_false_iff.mpr c38
              subst c38
              have H1 : ((ttl_Fresh.f (wrap64 (a0)) (wrap64 (a1)) (wrap64 ((wrap64 ((wrap64 (a0)) + (wrap64 (a1)))) + (wrap64 (a2))))).bind fun t120 => (if t120 = true then (some false) else ((ttl_Stale.f (wrap64 (a0)) (wrap64 (a1)) (wrap64 (a2)) (wrap64 ((wrap64 ((wrap64 (a0)) + (wrap64 (a1)))) + (wrap64 (a2))))).bind fun t121 => (if t121 = true then (some false) else ((ttl_Tell.f kj34 (wrap64 (a0)) (wrap64 (a1)) (wrap64 ((wrap64 ((wrap64 (a0)) + (wrap64 (a1)))) + (wrap64 (a2))))).bind fun t122 => (some (t122 == 30))))))) = some r := by rw [if_neg (show ¬ (false = true) by decide)] at H; exact H
              clear H
              have H := H1
              clear H1
              replace H := Option.bind_eq_some_iff.mp H
              obtain ⟨t120, A390, H⟩ := H
              replace H : (if t120 = true then (some false) else ((ttl_Stale.f (wrap64 (a0)) (wrap64 (a1)) (wrap64 (a2)) (wrap64 ((wrap64 ((wrap64 (a0)) + (wrap64 (a1)))) + (wrap64 (a2))))).bind fun t121 => (if t121 = true then (some false) else ((ttl_Tell.f kj34 (wrap64 (a0)) (wrap64 (a1)) (wrap64 ((wrap64 ((wrap64 (a0)) + (wrap64 (a1)))) + (wrap64 (a2))))).bind fun t122 => (some (t122 == 30)))))) = some r := H
              have A39 := Aside0.mk A390
              clear A390
              by_cases c40 : t120 = true
              · subst c40
                have H1 : (some false) = some r := by rw [if_pos rfl] at H; exact H
                clear H
                have H := H1
                clear H1
                obtain rfl := Option.some.inj H
                go_wp2_with (first | ((with_reducible refine gate_callee (f := 17) rfl ?_); refine goesL_ (some 110) rfl rfl Try.func17 (by kernel_rfl) rfl #[.int .i64 (wrap64 (a0)), .int .i64 (wrap64 (a1)), .int .i64 (wrap64 ((wrap64 ((wrap64 (a0)) + (wrap64 (a1)))) + (wrap64 (a2))))] rfl (by (try simp only [List.map_toArray, List.map_cons, List.map_nil]); first | done | rfl | (simp only [List.length_drop, List.length_take]; rfl)) ?_; (with_reducible refine (ttl_Fresh.calls (wrap64 (a0)) (wrap64 (a1)) (wrap64 ((wrap64 ((wrap64 (a0)) + (wrap64 (a1)))) + (wrap64 (a2)))) true _ A39.out).mono ?_); rintro e w41 ⟨rfl, hb⟩; refine ⟨_, rfl, ?_⟩; have n0_ := Aside0.mk (below_step (by repeat (first | (with_reducible first | exact HB.out | apply below_alloc | apply pw_below_drewN | apply below_drew1) | exact HB.out)) hb); clear HB; have HB := n0_; clear n0_; (try clear hb); (try clear hb2); (try clear hk); (try clear hi)))
                go_ret
                exact ⟨by first | rfl | (simp [errW_none, errW_some] <;> rfl) | (simp [*, errW_none, errW_some] <;> rfl), by repeat (first | (with_reducible first | exact HB.out | apply below_alloc | apply pw_below_drewN | apply below_drew1) | exact HB.out)⟩
              · replace c40 := Bool.eq_false_iff.mpr c40
                subst c40
                have H1 : ((ttl_Stale.f (wrap64 (a0)) (wrap64 (a1)) (wrap64 (a2)) (wrap64 ((wrap64 ((wrap64 (a0)) + (wrap64 (a1)))) + (wrap64 (a2))))).bind fun t121 => (if t121 = true then (some false) else ((ttl_Tell.f kj34 (wrap64 (a0)) (wrap64 (a1)) (wrap64 ((wrap64 ((wrap64 (a0)) + (wrap64 (a1)))) + (wrap64 (a2))))).bind fun t122 => (some (t122 == 30))))) = some r := by rw [if_neg (show ¬ (false = true) by decide)] at H; exact H
                clear H
                have H := H1
                clear H1
                replace H := Option.bind_eq_some_iff.mp H
                obtain ⟨t121, A420, H⟩ := H
                replace H : (if t121 = true then (some false) else ((ttl_Tell.f kj34 (wrap64 (a0)) (wrap64 (a1)) (wrap64 ((wrap64 ((wrap64 (a0)) + (wrap64 (a1)))) + (wrap64 (a2))))).bind fun t122 => (some (t122 == 30)))) = some r := H
                have A42 := Aside0.mk A420
                clear A420
                by_cases c43 : t121 = true
                · subst c43
                  have H1 : (some false) = some r := by rw [if_pos rfl] at H; exact H
                  clear H
                  have H := H1
                  clear H1
                  obtain rfl := Option.some.inj H
                  go_wp2_with (first | ((with_reducible refine gate_callee (f := 17) rfl ?_); refine goesL_ (some 110) rfl rfl Try.func17 (by kernel_rfl) rfl #[.int .i64 (wrap64 (a0)), .int .i64 (wrap64 (a1)), .int .i64 (wrap64 ((wrap64 ((wrap64 (a0)) + (wrap64 (a1)))) + (wrap64 (a2))))] rfl (by (try simp only [List.map_toArray, List.map_cons, List.map_nil]); first | done | rfl | (simp only [List.length_drop, List.length_take]; rfl)) ?_; (with_reducible refine (ttl_Fresh.calls (wrap64 (a0)) (wrap64 (a1)) (wrap64 ((wrap64 ((wrap64 (a0)) + (wrap64 (a1)))) + (wrap64 (a2)))) false _ A39.out).mono ?_); rintro e w44 ⟨rfl, hb⟩; refine ⟨_, rfl, ?_⟩; have n0_ := Aside0.mk (below_step (by repeat (first | (with_reducible first | exact HB.out | apply below_alloc | apply pw_below_drewN | apply below_drew1) | exact HB.out)) hb); clear HB; have HB := n0_; clear n0_; (try clear hb); (try clear hb2); (try clear hk); (try clear hi)) | (go_at_call 30; (with_reducible refine (ttl_Stale.calls (wrap64 (a0)) (wrap64 (a1)) (wrap64 (a2)) (wrap64 ((wrap64 ((wrap64 (a0)) + (wrap64 (a1)))) + (wrap64 (a2)))) true _ A42.out).mono ?_); rintro e w45 ⟨rfl, hb⟩; have n0_ := Aside0.mk (below_step (by repeat (first | (with_reducible first | exact HB.out | apply below_alloc | apply pw_below_drewN | apply below_drew1) | exact HB.out)) hb); clear HB; have HB := n0_; clear n0_; (try clear hb); (try clear hb2); (try clear hk); (try clear hi)))
                  go_ret
                  exact ⟨by first | rfl | (simp [errW_none, errW_some] <;> rfl) | (simp [*, errW_none, errW_some] <;> rfl), by repeat (first | (with_reducible first | exact HB.out | apply below_alloc | apply pw_below_drewN | apply below_drew1) | exact HB.out)⟩
                · replace c43 := Bool.eq_false_iff.mpr c43
                  subst c43
                  have H1 : ((ttl_Tell.f kj34 (wrap64 (a0)) (wrap64 (a1)) (wrap64 ((wrap64 ((wrap64 (a0)) + (wrap64 (a1)))) + (wrap64 (a2))))).bind fun t122 => (some (t122 == 30))) = some r := by rw [if_neg (show ¬ (false = true) by decide)] at H; exact H
                  clear H
                  have H := H1
                  clear H1
                  replace H := Option.bind_eq_some_iff.mp H
                  obtain ⟨t122, A460, H⟩ := H
                  replace H : (some (t122 == 30)) = some r := H
                  have A46 := Aside0.mk A460
                  clear A460
                  obtain rfl := Option.some.inj H
                  go_wp2_with (first | ((with_reducible refine gate_callee (f := 17) rfl ?_); refine goesL_ (some 110) rfl rfl Try.func17 (by kernel_rfl) rfl #[.int .i64 (wrap64 (a0)), .int .i64 (wrap64 (a1)), .int .i64 (wrap64 ((wrap64 ((wrap64 (a0)) + (wrap64 (a1)))) + (wrap64 (a2))))] rfl (by (try simp only [List.map_toArray, List.map_cons, List.map_nil]); first | done | rfl | (simp only [List.length_drop, List.length_take]; rfl)) ?_; (with_reducible refine (ttl_Fresh.calls (wrap64 (a0)) (wrap64 (a1)) (wrap64 ((wrap64 ((wrap64 (a0)) + (wrap64 (a1)))) + (wrap64 (a2)))) false _ A39.out).mono ?_); rintro e w47 ⟨rfl, hb⟩; refine ⟨_, rfl, ?_⟩; have n0_ := Aside0.mk (below_step (by repeat (first | (with_reducible first | exact HB.out | apply below_alloc | apply pw_below_drewN | apply below_drew1) | exact HB.out)) hb); clear HB; have HB := n0_; clear n0_; (try clear hb); (try clear hb2); (try clear hk); (try clear hi)) | (go_at_call 30; (with_reducible refine (ttl_Stale.calls (wrap64 (a0)) (wrap64 (a1)) (wrap64 (a2)) (wrap64 ((wrap64 ((wrap64 (a0)) + (wrap64 (a1)))) + (wrap64 (a2)))) false _ A42.out).mono ?_); rintro e w48 ⟨rfl, hb⟩; have n0_ := Aside0.mk (below_step (by repeat (first | (with_reducible first | exact HB.out | apply below_alloc | apply pw_below_drewN | apply below_drew1) | exact HB.out)) hb); clear HB; have HB := n0_; clear n0_; (try clear hb); (try clear hb2); (try clear hk); (try clear hi)) | (go_at_call 32; (with_reducible refine (ttl_Tell.calls kj34 (wrap64 (a0)) (wrap64 (a1)) (wrap64 ((wrap64 ((wrap64 (a0)) + (wrap64 (a1)))) + (wrap64 (a2)))) t122 _ A46.out).mono ?_); rintro e w49 ⟨rfl, hb⟩; have n0_ := Aside0.mk (below_step (by repeat (first | (with_reducible first | exact HB.out | apply below_alloc | apply pw_below_drewN | apply below_drew1) | exact HB.out)) hb); clear HB; have HB := n0_; clear n0_; (try clear hb); (try clear hb2); (try clear hk); (try clear hi)))
                  go_ret
                  exact ⟨by first | rfl | (simp [errW_none, errW_some] <;> rfl) | (simp [*, errW_none, errW_some] <;> rfl), by repeat (first | (with_reducible first | exact HB.out | apply below_alloc | apply pw_below_drewN | apply below_drew1) | exact HB.out)⟩

/-- THE ONE PURE STATEMENT of gazetteerlaw12_TtlRuns: yours. -/
def gazetteerlaw12_TtlRuns.Pure : Prop := ∀ (a0 : Int) (a1 : Int) (a2 : Int) (a3 : Int), (Lit.int .u32 a0).wf = true → (Lit.int .u16 a1).wf = true → (Lit.int .u16 a2).wf = true → (Lit.int .u16 a3).wf = true → ∃ k, gazetteerlaw12_TtlRuns.f k a0 a1 a2 a3 = some true
theorem gazetteerlaw12_TtlRuns.walk (P : gazetteerlaw12_TtlRuns.Pure) (a0 : Int) (a1 : Int) (a2 : Int) (a3 : Int) (w : World) (w0 : (Lit.int .u32 a0).wf = true) (w1 : (Lit.int .u16 a1).wf = true) (w2 : (Lit.int .u16 a2).wf = true) (w3 : (Lit.int .u16 a3).wf = true) :
    Calls Try.prog 10 #[.int .u32 a0, .int .u16 a1, .int .u16 a2, .int .u16 a3] w fun e w' => e = .returned (.bool true) ∧ Below w.heap.size w w' := by
  obtain ⟨k, h⟩ := P a0 a1 a2 a3 w0 w1 w2 w3
  refine (gazetteerlaw12_TtlRuns.calls k a0 a1 a2 a3 true w h).mono ?_
  rintro e w' ⟨rfl, hd⟩
  exact ⟨rfl, hd⟩

end Go.Proofs.Ytaappkompmdjnaa.PTtlRuns
