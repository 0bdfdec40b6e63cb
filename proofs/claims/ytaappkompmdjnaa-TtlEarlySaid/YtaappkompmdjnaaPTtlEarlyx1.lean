-- PRINTED BY print.sh 35421559b90ae4d0a3588c463048766b98c2df88dd9212a6774a882060cdf62d: not written by this session
import Derived.Test.YtaappkompmdjnaaPTtlEarlyx0
namespace Go.Proofs.Ytaappkompmdjnaa.PTtlEarly
open Go.RowKit Go.Proofs.YtaappkompmdjnaaW.PrintWords Go.Proofs.YtaappkompmdjnaaW.PrintLast Go.Proofs.YtaappkompmdjnaaW.PrintMore
attribute [local go_sem] max2_int min2_int max_two min_two max_three min_three max_four min_four   -- for this text's walks alone
set_option linter.unusedVariables false
set_option linter.unusedSimpArgs false

/-! ### ttl_Time: function 37 -/
def ttl_Time.f (a0 : Int) : Option (Bool) := if a0 ≥ 0 then (some (decide (a0 ≤ 36028797018963968))) else (some false)
set_option maxHeartbeats 8000000 in
set_option maxRecDepth 100000 in
theorem ttl_Time.calls (a0 : Int) (r : Bool) (w : World) (h : ttl_Time.f a0 = some r) :
    Calls Try.prog 37 #[.int .i64 a0] w fun e w' => e = .returned (.bool r) ∧ Drawn0 w w' := by
  have H : (if a0 ≥ 0 then (some (decide (a0 ≤ 36028797018963968))) else (some false)) = some r := h
  clear h
  by_cases c2 : a0 ≥ 0
  · rw [if_pos c2] at H
    have c2b0 : decide (0 ≤ a0) = true := decide_eq_true c2
    clear c2
    obtain rfl := Option.some.inj H
    go_enter Try.func37, Try.ntmps37
    go_wp2
    go_ret
    exact ⟨by first | rfl | (simp; done) | (simp [*]; done), by repeat (first | exact Drawn0.refl _ | apply Drawn0.step)⟩
  · rw [if_neg c2] at H
    have c2b0 : decide (0 ≤ a0) = false := decide_eq_false c2
    clear c2
    obtain rfl := Option.some.inj H
    go_enter Try.func37, Try.ntmps37
    go_wp2
    go_ret
    exact ⟨by first | rfl | (simp; done) | (simp [*]; done), by repeat (first | exact Drawn0.refl _ | apply Drawn0.step)⟩

/-! ### ttl_Left: function 16 -/
def ttl_Left.f (a0 : Int) (a1 : Int) (a2 : Int) : Option (Int) := (ttl_Time.f a0).bind fun t101 => (if t101 = true then ((ttl_Time.f a1).bind fun t102 => (if t102 = true then ((ttl_Time.f a2).bind fun t103 => (if t103 = true then (some (mx (wrap64 (a1 - (mx (wrap64 (a2 - a0)) 0))) 0)) else (some 0))) else (some 0))) else (some 0))
set_option maxHeartbeats 8000000 in
set_option maxRecDepth 100000 in
theorem ttl_Left.calls (a0 : Int) (a1 : Int) (a2 : Int) (r : Int) (w : World) (h : ttl_Left.f a0 a1 a2 = some r) :
    Calls Try.prog 16 #[.int .i64 a0, .int .i64 a1, .int .i64 a2] w fun e w' => e = .returned (.int .i64 r) ∧ Below w.heap.size w w' := by
  have HB := Aside0.mk (Below.refl w.heap.size w)
  have H : ((ttl_Time.f a0).bind fun t101 => (if t101 = true then ((ttl_Time.f a1).bind fun t102 => (if t102 = true then ((ttl_Time.f a2).bind fun t103 => (if t103 = true then (some (mx (wrap64 (a1 - (mx (wrap64 (a2 - a0)) 0))) 0)) else (some 0))) else (some 0))) else (some 0))) = some r := h
  clear h
  replace H := Option.bind_eq_some_iff.mp H
  obtain ⟨t101, A40, H⟩ := H
  replace H : (if t101 = true then ((ttl_Time.f a1).bind fun t102 => (if t102 = true then ((ttl_Time.f a2).bind fun t103 => (if t103 = true then (some (mx (wrap64 (a1 - (mx (wrap64 (a2 - a0)) 0))) 0)) else (some 0))) else (some 0))) else (some 0)) = some r := H
  have A4 := Aside0.mk A40
  clear A40
  by_cases c5 : t101 = true
  · subst c5
    have H1 : ((ttl_Time.f a1).bind fun t102 => (if t102 = true then ((ttl_Time.f a2).bind fun t103 => (if t103 = true then (some (mx (wrap64 (a1 - (mx (wrap64 (a2 - a0)) 0))) 0)) else (some 0))) else (some 0))) = some r := by rw [if_pos rfl] at H; exact H
    clear H
    have H := H1
    clear H1
    replace H := Option.bind_eq_some_iff.mp H
    obtain ⟨t102, A60, H⟩ := H
    replace H : (if t102 = true then ((ttl_Time.f a2).bind fun t103 => (if t103 = true then (some (mx (wrap64 (a1 - (mx (wrap64 (a2 - a0)) 0))) 0)) else (some 0))) else (some 0)) = some r := H
    have A6 := Aside0.mk A60
    clear A60
    by_cases c7 : t102 = true
    · subst c7
      have H1 : ((ttl_Time.f a2).bind fun t103 => (if t103 = true then (some (mx (wrap64 (a1 - (mx (wrap64 (a2 - a0)) 0))) 0)) else (some 0))) = some r := by rw [if_pos rfl] at H; exact H
      clear H
      have H := H1
      clear H1
      replace H := Option.bind_eq_some_iff.mp H
      obtain ⟨t103, A80, H⟩ := H
      replace H : (if t103 = true then (some (mx (wrap64 (a1 - (mx (wrap64 (a2 - a0)) 0))) 0)) else (some 0)) = some r := H
      have A8 := Aside0.mk A80
      clear A80
      by_cases c9 : t103 = true
      · subst c9
        have H1 : (some (mx (wrap64 (a1 - (mx (wrap64 (a2 - a0)) 0))) 0)) = some r := by rw [if_pos rfl] at H; exact H
        clear H
        have H := H1
        clear H1
        obtain ⟨ji10, hji10⟩ : ∃ j_ : Int, (mx (wrap64 (a2 - a0)) 0) = j_ := ⟨_, rfl⟩
        replace H : (some (mx (wrap64 (a1 - (ji10))) 0)) = some r := by first | (rw [hji10] at H; exact H) | (simp only [hji10] at H ⊢; exact H)
        (try rw [hji10] at A4)
        (try rw [hji10] at A6)
        (try rw [hji10] at A8)
        (try (have hji10l : 0 ≤ ji10 := by (rw [← hji10]; unfold mx; (repeat' split) <;> omega)))
        (try (have hji10m : 0 ≤ ji10 := by omega))
        have hji10_ : (if (wrap64 (a2 - a0)) < 0 then 0 else (wrap64 (a2 - a0))) = ji10 := hji10
        obtain ⟨ji11, hji11⟩ : ∃ j_ : Int, (mx (wrap64 (a1 - (ji10))) 0) = j_ := ⟨_, rfl⟩
        replace H : (some ji11) = some r := by first | (rw [hji11] at H; exact H) | (simp only [hji11] at H ⊢; exact H)
        (try rw [hji11] at A4)
        (try rw [hji11] at A6)
        (try rw [hji11] at A8)
        have hji11_ : (if (wrap64 (a1 - (ji10))) < 0 then 0 else (wrap64 (a1 - (ji10)))) = ji11 := hji11
        obtain rfl := Option.some.inj H
        go_enter Try.func16, Try.ntmps16
        go_wp2_with (first | ((with_reducible refine gate_callee (f := 37) rfl ?_); refine goesL_ (some 8) rfl rfl Try.func37 (by kernel_rfl) rfl #[.int .i64 a0] rfl (by (try simp only [List.map_toArray, List.map_cons, List.map_nil]); first | done | rfl | (simp only [List.length_drop, List.length_take]; rfl)) ?_; (with_reducible refine (ttl_Time.calls a0 true _ A4.out).mono ?_); rintro e w' ⟨rfl, ⟨nd, rfl⟩⟩; refine ⟨_, rfl, ?_⟩) | (go_at_call 37; (with_reducible refine (ttl_Time.calls a1 true _ A6.out).mono ?_); rintro e w' ⟨rfl, ⟨nd, rfl⟩⟩) | (go_at_call 37; (with_reducible refine (ttl_Time.calls a2 true _ A8.out).mono ?_); rintro e w' ⟨rfl, ⟨nd, rfl⟩⟩))
        go_ret
        exact ⟨by first | rfl | (simp [errW_none, errW_some] <;> rfl) | (simp only [← hji10, ← hji11]; first | rfl | (simp [errW_none, errW_some] <;> rfl)) | (simp [*, errW_none, errW_some] <;> rfl), by repeat (first | (with_reducible first | exact HB.out | apply below_alloc | apply pw_below_drewN | apply below_drew1) | exact HB.out)⟩
      · replace c9 := Bool.eq_false_iff.mpr c9
        subst c9
        have H1 : (some 0) = some r := by rw [if_neg (show ¬ (false = true) by decide)] at H; exact H
        clear H
        have H := H1
        clear H1
        obtain rfl := Option.some.inj H
        go_enter Try.func16, Try.ntmps16
        go_wp2_with (first | ((with_reducible refine gate_callee (f := 37) rfl ?_); refine goesL_ (some 8) rfl rfl Try.func37 (by kernel_rfl) rfl #[.int .i64 a0] rfl (by (try simp only [List.map_toArray, List.map_cons, List.map_nil]); first | done | rfl | (simp only [List.length_drop, List.length_take]; rfl)) ?_; (with_reducible refine (ttl_Time.calls a0 true _ A4.out).mono ?_); rintro e w' ⟨rfl, ⟨nd, rfl⟩⟩; refine ⟨_, rfl, ?_⟩) | (go_at_call 37; (with_reducible refine (ttl_Time.calls a1 true _ A6.out).mono ?_); rintro e w' ⟨rfl, ⟨nd, rfl⟩⟩) | (go_at_call 37; (with_reducible refine (ttl_Time.calls a2 false _ A8.out).mono ?_); rintro e w' ⟨rfl, ⟨nd, rfl⟩⟩))
        go_ret
        exact ⟨by first | rfl | (simp [errW_none, errW_some] <;> rfl) | (simp [*, errW_none, errW_some] <;> rfl), by repeat (first | (with_reducible first | exact HB.out | apply below_alloc | apply pw_below_drewN | apply below_drew1) | exact HB.out)⟩
    · replace c7 := Bool.eq_false_iff.mpr c7
      subst c7
      have H1 : (some 0) = some r := by rw [if_neg (show ¬ (false = true) by decide)] at H; exact H
      clear H
      have H := H1
      clear H1
      obtain rfl := Option.some.inj H
      go_enter Try.func16, Try.ntmps16
      go_wp2_with (first | ((with_reducible refine gate_callee (f := 37) rfl ?_); refine goesL_ (some 8) rfl rfl Try.func37 (by kernel_rfl) rfl #[.int .i64 a0] rfl (by (try simp only [List.map_toArray, List.map_cons, List.map_nil]); first | done | rfl | (simp only [List.length_drop, List.length_take]; rfl)) ?_; (with_reducible refine (ttl_Time.calls a0 true _ A4.out).mono ?_); rintro e w' ⟨rfl, ⟨nd, rfl⟩⟩; refine ⟨_, rfl, ?_⟩) | (go_at_call 37; (with_reducible refine (ttl_Time.calls a1 false _ A6.out).mono ?_); rintro e w' ⟨rfl, ⟨nd, rfl⟩⟩))
      go_ret
      exact ⟨by first | rfl | (simp [errW_none, errW_some] <;> rfl) | (simp [*, errW_none, errW_some] <;> rfl), by repeat (first | (with_reducible first | exact HB.out | apply below_alloc | apply pw_below_drewN | apply below_drew1) | exact HB.out)⟩
  · replace c5 := Bool.eq_false_iff.mpr c5
    subst c5
    have H1 : (some 0) = some r := by rw [if_neg (show ¬ (false = true) by decide)] at H; exact H
    clear H
    have H := H1
    clear H1
    obtain rfl := Option.some.inj H
    go_enter Try.func16, Try.ntmps16
    go_wp2_with (first | ((with_reducible refine gate_callee (f := 37) rfl ?_); refine goesL_ (some 8) rfl rfl Try.func37 (by kernel_rfl) rfl #[.int .i64 a0] rfl (by (try simp only [List.map_toArray, List.map_cons, List.map_nil]); first | done | rfl | (simp only [List.length_drop, List.length_take]; rfl)) ?_; (with_reducible refine (ttl_Time.calls a0 false _ A4.out).mono ?_); rintro e w' ⟨rfl, ⟨nd, rfl⟩⟩; refine ⟨_, rfl, ?_⟩))
    go_ret
    exact ⟨by first | rfl | (simp [errW_none, errW_some] <;> rfl) | (simp [*, errW_none, errW_some] <;> rfl), by repeat (first | (with_reducible first | exact HB.out | apply below_alloc | apply pw_below_drewN | apply below_drew1) | exact HB.out)⟩

/-! ### gazetteerlaw12_answers: function 15 -/
def gazetteerlaw12_answers.f  : Option (Bool) := (ttl_Left.f 10 5 12).bind fun t104 => (some (t104 == 3))
set_option maxHeartbeats 8000000 in
set_option maxRecDepth 100000 in
theorem gazetteerlaw12_answers.calls  (r : Bool) (w : World) (h : gazetteerlaw12_answers.f  = some r) :
    Calls Try.prog 15 #[] w fun e w' => e = .returned (.bool r) ∧ Below w.heap.size w w' := by
  have HB := Aside0.mk (Below.refl w.heap.size w)
  have H : ((ttl_Left.f 10 5 12).bind fun t104 => (some (t104 == 3))) = some r := h
  clear h
  replace H := Option.bind_eq_some_iff.mp H
  obtain ⟨t104, A10, H⟩ := H
  replace H : (some (t104 == 3)) = some r := H
  have A1 := Aside0.mk A10
  clear A10
  obtain rfl := Option.some.inj H
  go_enter Try.func15, Try.ntmps15
  go_wp2_with (first | ((with_reducible refine gate_callee (f := 16) rfl ?_); refine goesL_ (some 1) rfl rfl Try.func16 (by kernel_rfl) rfl #[.int .i64 10, .int .i64 5, .int .i64 12] rfl (by (try simp only [List.map_toArray, List.map_cons, List.map_nil]); first | done | rfl | (simp only [List.length_drop, List.length_take]; rfl)) ?_; (with_reducible refine (ttl_Left.calls 10 5 12 t104 _ A1.out).mono ?_); rintro e w2 ⟨rfl, hb⟩; refine ⟨_, rfl, ?_⟩; have n0_ := Aside0.mk (below_step (by repeat (first | (with_reducible first | exact HB.out | apply below_alloc | apply pw_below_drewN | apply below_drew1) | exact HB.out)) hb); clear HB; have HB := n0_; clear n0_; (try clear hb); (try clear hb2); (try clear hk); (try clear hi)))
  go_ret
  exact ⟨by first | rfl | (simp [errW_none, errW_some] <;> rfl) | (simp [*, errW_none, errW_some] <;> rfl), by repeat (first | (with_reducible first | exact HB.out | apply below_alloc | apply pw_below_drewN | apply below_drew1) | exact HB.out)⟩

/-! ### ttl_Fresh: function 17 -/
def ttl_Fresh.f (a0 : Int) (a1 : Int) (a2 : Int) : Option (Bool) := (ttl_Left.f a0 a1 a2).bind fun t105 => (some (decide (t105 > 0)))
set_option maxHeartbeats 8000000 in
set_option maxRecDepth 100000 in
theorem ttl_Fresh.calls (a0 : Int) (a1 : Int) (a2 : Int) (r : Bool) (w : World) (h : ttl_Fresh.f a0 a1 a2 = some r) :
    Calls Try.prog 17 #[.int .i64 a0, .int .i64 a1, .int .i64 a2] w fun e w' => e = .returned (.bool r) ∧ Below w.heap.size w w' := by
  have HB := Aside0.mk (Below.refl w.heap.size w)
  have H : ((ttl_Left.f a0 a1 a2).bind fun t105 => (some (decide (t105 > 0)))) = some r := h
  clear h
  replace H := Option.bind_eq_some_iff.mp H
  obtain ⟨t105, A40, H⟩ := H
  replace H : (some (decide (t105 > 0))) = some r := H
  have A4 := Aside0.mk A40
  clear A40
  obtain rfl := Option.some.inj H
  go_enter Try.func17, Try.ntmps17
  go_wp2_with (first | ((with_reducible refine gate_callee (f := 16) rfl ?_); refine goesL_ (some 10) rfl rfl Try.func16 (by kernel_rfl) rfl #[.int .i64 a0, .int .i64 a1, .int .i64 a2] rfl (by (try simp only [List.map_toArray, List.map_cons, List.map_nil]); first | done | rfl | (simp only [List.length_drop, List.length_take]; rfl)) ?_; (with_reducible refine (ttl_Left.calls a0 a1 a2 t105 _ A4.out).mono ?_); rintro e w5 ⟨rfl, hb⟩; refine ⟨_, rfl, ?_⟩; have n0_ := Aside0.mk (below_step (by repeat (first | (with_reducible first | exact HB.out | apply below_alloc | apply pw_below_drewN | apply below_drew1) | exact HB.out)) hb); clear HB; have HB := n0_; clear n0_; (try clear hb); (try clear hb2); (try clear hk); (try clear hi)))
  go_ret
  exact ⟨by first | rfl | (simp [errW_none, errW_some] <;> rfl) | (simp [*, errW_none, errW_some] <;> rfl), by repeat (first | (with_reducible first | exact HB.out | apply below_alloc | apply pw_below_drewN | apply below_drew1) | exact HB.out)⟩

/-! ### gazetteerlaw12_TtlEarly: function 3 -/
def gazetteerlaw12_TtlEarly.f (a0 : Int) (a1 : Int) (a2 : Int) : Option (Bool) := if (wrap64 ((wrap64 (a0)) + 1)) = 0 then (none) else ((gazetteerlaw12_answers.f).bind fun t106 => (if t106 = true then ((ttl_Left.f (wrap64 (a0)) (wrap64 (a1)) (wrap64 ((wrap64 (a0)) - (Int.tmod (wrap64 (a2)) (wrap64 ((wrap64 (a0)) + 1)))))).bind fun t107 => (if t107 = (wrap64 (a1)) then ((ttl_Fresh.f (wrap64 (a0)) (wrap64 (a1)) (wrap64 ((wrap64 (a0)) - (Int.tmod (wrap64 (a2)) (wrap64 ((wrap64 (a0)) + 1)))))).bind fun t108 => (some (t108 == (decide (a1 > 0))))) else (some false))) else (some false)))
set_option maxHeartbeats 8000000 in
set_option maxRecDepth 100000 in
theorem gazetteerlaw12_TtlEarly.calls (a0 : Int) (a1 : Int) (a2 : Int) (r : Bool) (w : World) (h : gazetteerlaw12_TtlEarly.f a0 a1 a2 = some r) :
    Calls Try.prog 3 #[.int .u32 a0, .int .u16 a1, .int .u32 a2] w fun e w' => e = .returned (.bool r) ∧ Below w.heap.size w w' := by
  have HB := Aside0.mk (Below.refl w.heap.size w)
  have H : (if (wrap64 ((wrap64 (a0)) + 1)) = 0 then (none) else ((gazetteerlaw12_answers.f).bind fun t106 => (if t106 = true then ((ttl_Left.f (wrap64 (a0)) (wrap64 (a1)) (wrap64 ((wrap64 (a0)) - (Int.tmod (wrap64 (a2)) (wrap64 ((wrap64 (a0)) + 1)))))).bind fun t107 => (if t107 = (wrap64 (a1)) then ((ttl_Fresh.f (wrap64 (a0)) (wrap64 (a1)) (wrap64 ((wrap64 (a0)) - (Int.tmod (wrap64 (a2)) (wrap64 ((wrap64 (a0)) + 1)))))).bind fun t108 => (some (t108 == (decide (a1 > 0))))) else (some false))) else (some false)))) = some r := h
  clear h
  by_cases c4 : (wrap64 ((wrap64 (a0)) + 1)) = 0
  · rw [if_pos c4] at H
    exact absurd H (by simp)
  · rw [if_neg c4] at H
    have c4b0 : ((wrap64 ((wrap64 (a0)) + 1)) == 0) = false := beq_eq_false_iff_ne.mpr c4
    have c4b1 : ((wrap64 ((wrap64 (a0)) + 1)) != 0) = true := bne_iff_ne.mpr c4
    replace H := Option.bind_eq_some_iff.mp H
    obtain ⟨t106, A50, H⟩ := H
    replace H : (if t106 = true then ((ttl_Left.f (wrap64 (a0)) (wrap64 (a1)) (wrap64 ((wrap64 (a0)) - (Int.tmod (wrap64 (a2)) (wrap64 ((wrap64 (a0)) + 1)))))).bind fun t107 => (if t107 = (wrap64 (a1)) then ((ttl_Fresh.f (wrap64 (a0)) (wrap64 (a1)) (wrap64 ((wrap64 (a0)) - (Int.tmod (wrap64 (a2)) (wrap64 ((wrap64 (a0)) + 1)))))).bind fun t108 => (some (t108 == (decide (a1 > 0))))) else (some false))) else (some false)) = some r := H
    have A5 := Aside0.mk A50
    clear A50
    by_cases c6 : t106 = true
    · subst c6
      have H1 : ((ttl_Left.f (wrap64 (a0)) (wrap64 (a1)) (wrap64 ((wrap64 (a0)) - (Int.tmod (wrap64 (a2)) (wrap64 ((wrap64 (a0)) + 1)))))).bind fun t107 => (if t107 = (wrap64 (a1)) then ((ttl_Fresh.f (wrap64 (a0)) (wrap64 (a1)) (wrap64 ((wrap64 (a0)) - (Int.tmod (wrap64 (a2)) (wrap64 ((wrap64 (a0)) + 1)))))).bind fun t108 => (some (t108 == (decide (a1 > 0))))) else (some false))) = some r := by rw [if_pos rfl] at H; exact H
      clear H
      have H := H1
      clear H1
      replace H := Option.bind_eq_some_iff.mp H
      obtain ⟨t107, A70, H⟩ := H
      replace H : (if t107 = (wrap64 (a1)) then ((ttl_Fresh.f (wrap64 (a0)) (wrap64 (a1)) (wrap64 ((wrap64 (a0)) - (Int.tmod (wrap64 (a2)) (wrap64 ((wrap64 (a0)) + 1)))))).bind fun t108 => (some (t108 == (decide (a1 > 0))))) else (some false)) = some r := H
      have A7 := Aside0.mk A70
      clear A70
      by_cases c8 : t107 = (wrap64 (a1))
      · rw [if_pos c8] at H
        have c8b0 : (t107 == (wrap64 (a1))) = true := beq_iff_eq.mpr c8
        have c8b1 : (t107 != (wrap64 (a1))) = false := bne_eq_false_iff_eq.mpr c8
        clear c8
        replace H := Option.bind_eq_some_iff.mp H
        obtain ⟨t108, A90, H⟩ := H
        replace H : (some (t108 == (decide (a1 > 0)))) = some r := H
        have A9 := Aside0.mk A90
        clear A90
        obtain rfl := Option.some.inj H
        go_enter Try.func3, Try.ntmps3
        go_wp2_with (first | ((with_reducible refine gate_callee (f := 15) rfl ?_); refine goesL_ (some 17) rfl rfl Try.func15 (by kernel_rfl) rfl #[] rfl (by (try simp only [List.map_toArray, List.map_cons, List.map_nil]); first | done | rfl | (simp only [List.length_drop, List.length_take]; rfl)) ?_; (with_reducible refine (gazetteerlaw12_answers.calls  true _ A5.out).mono ?_); rintro e w10 ⟨rfl, hb⟩; refine ⟨_, rfl, ?_⟩; have n0_ := Aside0.mk (below_step (by repeat (first | (with_reducible first | exact HB.out | apply below_alloc | apply pw_below_drewN | apply below_drew1) | exact HB.out)) hb); clear HB; have HB := n0_; clear n0_; (try clear hb); (try clear hb2); (try clear hk); (try clear hi)) | (go_at_call 16; (with_reducible refine (ttl_Left.calls (wrap64 (a0)) (wrap64 (a1)) (wrap64 ((wrap64 (a0)) - (Int.tmod (wrap64 (a2)) (wrap64 ((wrap64 (a0)) + 1))))) t107 _ A7.out).mono ?_); rintro e w11 ⟨rfl, hb⟩; have n0_ := Aside0.mk (below_step (by repeat (first | (with_reducible first | exact HB.out | apply below_alloc | apply pw_below_drewN | apply below_drew1) | exact HB.out)) hb); clear HB; have HB := n0_; clear n0_; (try clear hb); (try clear hb2); (try clear hk); (try clear hi)) | (go_at_call 17; (with_reducible refine (ttl_Fresh.calls (wrap64 (a0)) (wrap64 (a1)) (wrap64 ((wrap64 (a0)) - (Int.tmod (wrap64 (a2)) (wrap64 ((wrap64 (a0)) + 1))))) t108 _ A9.out).mono ?_); rintro e w12 ⟨rfl, hb⟩; have n0_ := Aside0.mk (below_step (by repeat (first | (with_reducible first | exact HB.out | apply below_alloc | apply pw_below_drewN | apply below_drew1) | exact HB.out)) hb); clear HB; have HB := n0_; clear n0_; (try clear hb); (try clear hb2); (try clear hk); (try clear hi)))
        go_ret
        exact ⟨by first | rfl | (simp [errW_none, errW_some] <;> rfl) | (simp [*, errW_none, errW_some] <;> rfl), by repeat (first | (with_reducible first | exact HB.out | apply below_alloc | apply pw_below_drewN | apply below_drew1) | exact HB.out)⟩
      · rw [if_neg c8] at H
        have c8b0 : (t107 == (wrap64 (a1))) = false := beq_eq_false_iff_ne.mpr c8
        have c8b1 : (t107 != (wrap64 (a1))) = true := bne_iff_ne.mpr c8
        obtain rfl := Option.some.inj H
        go_enter Try.func3, Try.ntmps3
        go_wp2_with (first | ((with_reducible refine gate_callee (f := 15) rfl ?_); refine goesL_ (some 17) rfl rfl Try.func15 (by kernel_rfl) rfl #[] rfl (by (try simp only [List.map_toArray, List.map_cons, List.map_nil]); first | done | rfl | (simp only [List.length_drop, List.length_take]; rfl)) ?_; (with_reducible refine (gazetteerlaw12_answers.calls  true _ A5.out).mono ?_); rintro e w13 ⟨rfl, hb⟩; refine ⟨_, rfl, ?_⟩; have n0_ := Aside0.mk (below_step (by repeat (first | (with_reducible first | exact HB.out | apply below_alloc | apply pw_below_drewN | apply below_drew1) | exact HB.out)) hb); clear HB; have HB := n0_; clear n0_; (try clear hb); (try clear hb2); (try clear hk); (try clear hi)) | (go_at_call 16; (with_reducible refine (ttl_Left.calls (wrap64 (a0)) (wrap64 (a1)) (wrap64 ((wrap64 (a0)) - (Int.tmod (wrap64 (a2)) (wrap64 ((wrap64 (a0)) + 1))))) t107 _ A7.out).mono ?_); rintro e w14 ⟨rfl, hb⟩; have n0_ := Aside0.mk (below_step (by repeat (first | (with_reducible first | exact HB.out | apply below_alloc | apply pw_below_drewN | apply below_drew1) | exact HB.out)) hb); clear HB; have HB := n0_; clear n0_; (try clear hb); (try clear hb2); (try clear hk); (try clear hi)))
        go_ret
        exact ⟨by first | rfl | (simp [errW_none, errW_some] <;> rfl) | (simp [*, errW_none, errW_some] <;> rfl), by repeat (first | (with_reducible first | exact HB.out | apply below_alloc | apply pw_below_drewN | apply below_drew1) | exact HB.out)⟩
    · replace c6 := Bool.eq_false_iff.mpr c6
      subst c6
      have H1 : (some false) = some r := by rw [if_neg (show ¬ (false = true) by decide)] at H; exact H
      clear H
      have H := H1
      clear H1
      obtain rfl := Option.some.inj H
      go_enter Try.func3, Try.ntmps3
      go_wp2_with (first | ((with_reducible refine gate_callee (f := 15) rfl ?_); refine goesL_ (some 17) rfl rfl Try.func15 (by kernel_rfl) rfl #[] rfl (by (try simp only [List.map_toArray, List.map_cons, List.map_nil]); first | done | rfl | (simp only [List.length_drop, List.length_take]; rfl)) ?_; (with_reducible refine (gazetteerlaw12_answers.calls  false _ A5.out).mono ?_); rintro e w15 ⟨rfl, hb⟩; refine ⟨_, rfl, ?_⟩; have n0_ := Aside0.mk (below_step (by repeat (first | (with_reducible first | exact HB.out | apply below_alloc | apply pw_below_drewN | apply below_drew1) | exact HB.out)) hb); clear HB; have HB := n0_; clear n0_; (try clear hb); (try clear hb2); (try clear hk); (try clear hi)))
      go_ret
      exact ⟨by first | rfl | (simp [errW_none, errW_some] <;> rfl) | (simp [*, errW_none, errW_some] <;> rfl), by repeat (first | (with_reducible first | exact HB.out | apply below_alloc | apply pw_below_drewN | apply below_drew1) | exact HB.out)⟩

/-- THE ONE PURE STATEMENT of gazetteerlaw12_TtlEarly: yours. -/
def gazetteerlaw12_TtlEarly.Pure : Prop := ∀ (a0 : Int) (a1 : Int) (a2 : Int), (Lit.int .u32 a0).wf = true → (Lit.int .u16 a1).wf = true → (Lit.int .u32 a2).wf = true → gazetteerlaw12_TtlEarly.f a0 a1 a2 = some true
theorem gazetteerlaw12_TtlEarly.walk (P : gazetteerlaw12_TtlEarly.Pure) (a0 : Int) (a1 : Int) (a2 : Int) (w : World) (w0 : (Lit.int .u32 a0).wf = true) (w1 : (Lit.int .u16 a1).wf = true) (w2 : (Lit.int .u32 a2).wf = true) :
    Calls Try.prog 3 #[.int .u32 a0, .int .u16 a1, .int .u32 a2] w fun e w' => e = .returned (.bool true) ∧ Below w.heap.size w w' := by
  have h := P a0 a1 a2 w0 w1 w2
  refine (gazetteerlaw12_TtlEarly.calls a0 a1 a2 true w h).mono ?_
  rintro e w' ⟨rfl, hd⟩
  exact ⟨rfl, hd⟩

end Go.Proofs.Ytaappkompmdjnaa.PTtlEarly
