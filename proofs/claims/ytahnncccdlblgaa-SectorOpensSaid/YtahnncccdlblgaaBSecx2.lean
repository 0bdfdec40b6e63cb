-- Written by a program of this session (wip/given.py) for this claim.
import Derived.Test.YtahnncccdlblgaaBSecx0
import Derived.Test.YtahnncccdlblgaaBSecx1
namespace Go.Proofs.Ytahnncccdlblgaa.BSec
open Go.RowKit Go.Proofs.Ytahnncccdlblgaa.G Go.Proofs.YtahnncccdlblgaaW.PrintWords Go.Proofs.YtahnncccdlblgaaW.PrintLast Go.Proofs.YtahnncccdlblgaaW.PrintMore
attribute [local go_sem] max2_int min2_int max_two min_two max_three min_three max_four min_four   -- for this text's walks alone
set_option linter.unusedVariables false
set_option linter.unusedSimpArgs false
set_option maxRecDepth 100000

/-! ### gazetteerref08_Seal: function 15 -/
mutual
def gazetteerref08_Seal.j0 : Nat → Int → Int → Int → Int → Int → List Int → Bool → Option (List Int × Int)
  | 0, _, _, _, _, _, _, _ => none
  | k + 1, x0, x1, x2, x3, x4, x5, x50 => if x50 = true then (some (([] : List Int), 15)) else (if (x5.length : Int) > 496 then (some (([] : List Int), 4)) else ((gazetteerref01_Put.f ([] : List Int) x0 1).bind fun t137 => ((gazetteerref01_Put.f t137 x1 4).bind fun t140 => ((gazetteerref01_Put.f t140 x2 7).bind fun t143 => ((gazetteerref01_Put.f t143 x3 1).bind fun t146 => ((gazetteerref01_Put.f t146 x4 1).bind fun t149 => ((gazetteerref01_Put.f t149 (x5.length : Int) 2).bind fun t152 => (if t152.length + x5.length < 140737488355328 then (gazetteerref08_Seal.l0 k (t152 ++ x5)) else (none)))))))))
def gazetteerref08_Seal.l0 : Nat → List Int → Option (List Int × Int)
  | 0, _ => none
  | k + 1, x14 => if (x14.length : Int) < 512 then (if x14.length < 140737488355328 then (gazetteerref08_Seal.l0 k (x14 ++ [0])) else (none)) else (some (x14, 0))
end
def gazetteerref08_Seal.f (k : Nat) (a0 : Int) (a1 : Int) (a2 : Int) (a3 : Int) (a4 : Int) (l5 : List Int) : Option (List Int × Int) := (gazetteerref01_Fits.f a0 1).bind fun t132 => (if t132 = true then ((gazetteerref01_Fits.f a1 4).bind fun t133 => (if t133 = true then ((gazetteerref01_Fits.f a2 7).bind fun t134 => (if t134 = true then ((gazetteerref01_Fits.f a3 1).bind fun t135 => (if t135 = true then ((gazetteerref01_Fits.f a4 1).bind fun t136 => (if t136 = true then (if a0 = 0 then (gazetteerref08_Seal.j0 k a0 a1 a2 a3 a4 l5 true) else (if a4 = 0 then (gazetteerref08_Seal.j0 k a0 a1 a2 a3 a4 l5 true) else (gazetteerref08_Seal.j0 k a0 a1 a2 a3 a4 l5 (decide (a3 ≥ a4))))) else (gazetteerref08_Seal.j0 k a0 a1 a2 a3 a4 l5 true))) else (gazetteerref08_Seal.j0 k a0 a1 a2 a3 a4 l5 true))) else (gazetteerref08_Seal.j0 k a0 a1 a2 a3 a4 l5 true))) else (gazetteerref08_Seal.j0 k a0 a1 a2 a3 a4 l5 true))) else (gazetteerref08_Seal.j0 k a0 a1 a2 a3 a4 l5 true))
theorem gazetteerref08_Seal.mono_l : ∀ k, (∀ y0 y1 y2 y3 y4 y5 y6, LeO (gazetteerref08_Seal.j0 k y0 y1 y2 y3 y4 y5 y6) (gazetteerref08_Seal.j0 (k + 1) y0 y1 y2 y3 y4 y5 y6)) ∧ (∀ y0, LeO (gazetteerref08_Seal.l0 k y0) (gazetteerref08_Seal.l0 (k + 1) y0))
  | 0 => ⟨fun _ _ _ _ _ _ _ r h => by simp [gazetteerref08_Seal.j0] at h, fun _ r h => by simp [gazetteerref08_Seal.l0] at h⟩
  | k + 1 => by
    obtain ⟨ih0, ih1⟩ := gazetteerref08_Seal.mono_l k
    refine ⟨?_, ?_⟩
    · intro y0 y1 y2 y3 y4 y5 y6
      unfold gazetteerref08_Seal.j0
      repeat' first
      | (with_reducible exact ih0 _ _ _ _ _ _ _)
      | (with_reducible exact ih1 _)
      | (with_reducible exact LeO.refl _)
      | (with_reducible exact LeO.none _)
      | (with_reducible refine LeO.ite ?_ ?_)
      | (with_reducible refine LeO.bind ?_ (fun _ => ?_))
      | exact ih0 _ _ _ _ _ _ _
      | exact ih1 _
      | exact LeO.none _
      | refine LeO.ite ?_ ?_
      | refine LeO.bind ?_ (fun _ => ?_)
    · intro y0
      unfold gazetteerref08_Seal.l0
      repeat' first
      | (with_reducible exact ih0 _ _ _ _ _ _ _)
      | (with_reducible exact ih1 _)
      | (with_reducible exact LeO.refl _)
      | (with_reducible exact LeO.none _)
      | (with_reducible refine LeO.ite ?_ ?_)
      | (with_reducible refine LeO.bind ?_ (fun _ => ?_))
      | exact ih0 _ _ _ _ _ _ _
      | exact ih1 _
      | exact LeO.none _
      | refine LeO.ite ?_ ?_
      | refine LeO.bind ?_ (fun _ => ?_)
theorem gazetteerref08_Seal.mono : ∀ a0 a1 a2 a3 a4 a5 k, LeO (gazetteerref08_Seal.f k a0 a1 a2 a3 a4 a5) (gazetteerref08_Seal.f (k + 1) a0 a1 a2 a3 a4 a5) := by
  intro a0 a1 a2 a3 a4 a5 k
  obtain ⟨ih0, ih1⟩ := gazetteerref08_Seal.mono_l k
  unfold gazetteerref08_Seal.f
  repeat' first
      | (with_reducible exact ih0 _ _ _ _ _ _ _)
      | (with_reducible exact ih1 _)
      | (with_reducible exact LeO.refl _)
      | (with_reducible exact LeO.none _)
      | (with_reducible refine LeO.ite ?_ ?_)
      | (with_reducible refine LeO.bind ?_ (fun _ => ?_))
      | exact ih0 _ _ _ _ _ _ _
      | exact ih1 _
      | exact LeO.none _
      | refine LeO.ite ?_ ?_
      | refine LeO.bind ?_ (fun _ => ?_)
set_option maxHeartbeats 8000000 in
set_option maxRecDepth 100000 in
theorem gazetteerref08_Seal.calls (k : Nat) (a0 : Int) (a1 : Int) (a2 : Int) (a3 : Int) (a4 : Int) (A5 : Option Addr) (c5 : Nat) (l5 : List Int) (r1 : List Int) (r2 : Int) (w : World) (hr5 : Kd.C (Kd.int .u8) w A5 l5.length l5) (hc5 : l5.length ≤ c5) (h : gazetteerref08_Seal.f k a0 a1 a2 a3 a4 l5 = some (r1, r2)) :
    Calls Try.prog 15 #[.int .i64 a0, .int .i64 a1, .int .i64 a2, .int .i64 a3, .int .i64 a4, .slice A5 l5.length c5] w fun e w' => ∃ v0_ : Value, e = .returned (.tuple #[v0_, .int .i64 r2]) ∧ Kd.R (Kd.int .u8) 5 w' w.heap.size (fun _ => True) v0_ r1 ∧ Below w.heap.size w w' := by
  have HR5 := Aside0.mk hr5
  have HC5 := Aside0.mk hc5
  clear hr5 hc5
  have HB := Aside0.mk (Below.refl w.heap.size w)
  have H : ((gazetteerref01_Fits.f a0 1).bind fun t132 => (if t132 = true then ((gazetteerref01_Fits.f a1 4).bind fun t133 => (if t133 = true then ((gazetteerref01_Fits.f a2 7).bind fun t134 => (if t134 = true then ((gazetteerref01_Fits.f a3 1).bind fun t135 => (if t135 = true then ((gazetteerref01_Fits.f a4 1).bind fun t136 => (if t136 = true then (if a0 = 0 then (gazetteerref08_Seal.j0 k a0 a1 a2 a3 a4 l5 true) else (if a4 = 0 then (gazetteerref08_Seal.j0 k a0 a1 a2 a3 a4 l5 true) else (gazetteerref08_Seal.j0 k a0 a1 a2 a3 a4 l5 (decide (a3 ≥ a4))))) else (gazetteerref08_Seal.j0 k a0 a1 a2 a3 a4 l5 true))) else (gazetteerref08_Seal.j0 k a0 a1 a2 a3 a4 l5 true))) else (gazetteerref08_Seal.j0 k a0 a1 a2 a3 a4 l5 true))) else (gazetteerref08_Seal.j0 k a0 a1 a2 a3 a4 l5 true))) else (gazetteerref08_Seal.j0 k a0 a1 a2 a3 a4 l5 true))) = some (r1, r2) := h
  clear h
  have HC7 := Aside0.mk H
  clear H
  go_enter Try.func15, Try.ntmps15
  go_upto_region 1 with (fail)
  go_cut [50] (fun v50 wc => ∃ (kq : Nat) (x50_6 : Bool), v50 = .bool x50_6 ∧ Aside0 (gazetteerref08_Seal.j0 kq a0 a1 a2 a3 a4 l5 x50_6 = some (r1, r2)) ∧ Aside0 (kq ≤ k) ∧ Aside0 (Below w.heap.size w wc))
  case first =>
    have H := HC7.out
    clear HC7
    replace H := Option.bind_eq_some_iff.mp H
    obtain ⟨t132, A80, H⟩ := H
    replace H : (if t132 = true then ((gazetteerref01_Fits.f a1 4).bind fun t133 => (if t133 = true then ((gazetteerref01_Fits.f a2 7).bind fun t134 => (if t134 = true then ((gazetteerref01_Fits.f a3 1).bind fun t135 => (if t135 = true then ((gazetteerref01_Fits.f a4 1).bind fun t136 => (if t136 = true then (if a0 = 0 then (gazetteerref08_Seal.j0 k a0 a1 a2 a3 a4 l5 true) else (if a4 = 0 then (gazetteerref08_Seal.j0 k a0 a1 a2 a3 a4 l5 true) else (gazetteerref08_Seal.j0 k a0 a1 a2 a3 a4 l5 (decide (a3 ≥ a4))))) else (gazetteerref08_Seal.j0 k a0 a1 a2 a3 a4 l5 true))) else (gazetteerref08_Seal.j0 k a0 a1 a2 a3 a4 l5 true))) else (gazetteerref08_Seal.j0 k a0 a1 a2 a3 a4 l5 true))) else (gazetteerref08_Seal.j0 k a0 a1 a2 a3 a4 l5 true))) else (gazetteerref08_Seal.j0 k a0 a1 a2 a3 a4 l5 true)) = some (r1, r2) := H
    have A8 := Aside0.mk A80
    clear A80
    by_cases c9 : t132 = true
    · subst c9
      have H1 : ((gazetteerref01_Fits.f a1 4).bind fun t133 => (if t133 = true then ((gazetteerref01_Fits.f a2 7).bind fun t134 => (if t134 = true then ((gazetteerref01_Fits.f a3 1).bind fun t135 => (if t135 = true then ((gazetteerref01_Fits.f a4 1).bind fun t136 => (if t136 = true then (if a0 = 0 then (gazetteerref08_Seal.j0 k a0 a1 a2 a3 a4 l5 true) else (if a4 = 0 then (gazetteerref08_Seal.j0 k a0 a1 a2 a3 a4 l5 true) else (gazetteerref08_Seal.j0 k a0 a1 a2 a3 a4 l5 (decide (a3 ≥ a4))))) else (gazetteerref08_Seal.j0 k a0 a1 a2 a3 a4 l5 true))) else (gazetteerref08_Seal.j0 k a0 a1 a2 a3 a4 l5 true))) else (gazetteerref08_Seal.j0 k a0 a1 a2 a3 a4 l5 true))) else (gazetteerref08_Seal.j0 k a0 a1 a2 a3 a4 l5 true))) = some (r1, r2) := by rw [if_pos rfl] at H; exact H
      clear H
      have H := H1
      clear H1
      replace H := Option.bind_eq_some_iff.mp H
      obtain ⟨t133, A100, H⟩ := H
      replace H : (if t133 = true then ((gazetteerref01_Fits.f a2 7).bind fun t134 => (if t134 = true then ((gazetteerref01_Fits.f a3 1).bind fun t135 => (if t135 = true then ((gazetteerref01_Fits.f a4 1).bind fun t136 => (if t136 = true then (if a0 = 0 then (gazetteerref08_Seal.j0 k a0 a1 a2 a3 a4 l5 true) else (if a4 = 0 then (gazetteerref08_Seal.j0 k a0 a1 a2 a3 a4 l5 true) else (gazetteerref08_Seal.j0 k a0 a1 a2 a3 a4 l5 (decide (a3 ≥ a4))))) else (gazetteerref08_Seal.j0 k a0 a1 a2 a3 a4 l5 true))) else (gazetteerref08_Seal.j0 k a0 a1 a2 a3 a4 l5 true))) else (gazetteerref08_Seal.j0 k a0 a1 a2 a3 a4 l5 true))) else (gazetteerref08_Seal.j0 k a0 a1 a2 a3 a4 l5 true)) = some (r1, r2) := H
      have A10 := Aside0.mk A100
      clear A100
      by_cases c11 : t133 = true
      · subst c11
        have H1 : ((gazetteerref01_Fits.f a2 7).bind fun t134 => (if t134 = true then ((gazetteerref01_Fits.f a3 1).bind fun t135 => (if t135 = true then ((gazetteerref01_Fits.f a4 1).bind fun t136 => (if t136 = true then (if a0 = 0 then (gazetteerref08_Seal.j0 k a0 a1 a2 a3 a4 l5 true) else (if a4 = 0 then (gazetteerref08_Seal.j0 k a0 a1 a2 a3 a4 l5 true) else (gazetteerref08_Seal.j0 k a0 a1 a2 a3 a4 l5 (decide (a3 ≥ a4))))) else (gazetteerref08_Seal.j0 k a0 a1 a2 a3 a4 l5 true))) else (gazetteerref08_Seal.j0 k a0 a1 a2 a3 a4 l5 true))) else (gazetteerref08_Seal.j0 k a0 a1 a2 a3 a4 l5 true))) = some (r1, r2) := by rw [if_pos rfl] at H; exact H
        clear H
        have H := H1
        clear H1
        replace H := Option.bind_eq_some_iff.mp H
        obtain ⟨t134, A120, H⟩ := H
        replace H : (if t134 = true then ((gazetteerref01_Fits.f a3 1).bind fun t135 => (if t135 = true then ((gazetteerref01_Fits.f a4 1).bind fun t136 => (if t136 = true then (if a0 = 0 then (gazetteerref08_Seal.j0 k a0 a1 a2 a3 a4 l5 true) else (if a4 = 0 then (gazetteerref08_Seal.j0 k a0 a1 a2 a3 a4 l5 true) else (gazetteerref08_Seal.j0 k a0 a1 a2 a3 a4 l5 (decide (a3 ≥ a4))))) else (gazetteerref08_Seal.j0 k a0 a1 a2 a3 a4 l5 true))) else (gazetteerref08_Seal.j0 k a0 a1 a2 a3 a4 l5 true))) else (gazetteerref08_Seal.j0 k a0 a1 a2 a3 a4 l5 true)) = some (r1, r2) := H
        have A12 := Aside0.mk A120
        clear A120
        by_cases c13 : t134 = true
        · subst c13
          have H1 : ((gazetteerref01_Fits.f a3 1).bind fun t135 => (if t135 = true then ((gazetteerref01_Fits.f a4 1).bind fun t136 => (if t136 = true then (if a0 = 0 then (gazetteerref08_Seal.j0 k a0 a1 a2 a3 a4 l5 true) else (if a4 = 0 then (gazetteerref08_Seal.j0 k a0 a1 a2 a3 a4 l5 true) else (gazetteerref08_Seal.j0 k a0 a1 a2 a3 a4 l5 (decide (a3 ≥ a4))))) else (gazetteerref08_Seal.j0 k a0 a1 a2 a3 a4 l5 true))) else (gazetteerref08_Seal.j0 k a0 a1 a2 a3 a4 l5 true))) = some (r1, r2) := by rw [if_pos rfl] at H; exact H
          clear H
          have H := H1
          clear H1
          replace H := Option.bind_eq_some_iff.mp H
          obtain ⟨t135, A140, H⟩ := H
          replace H : (if t135 = true then ((gazetteerref01_Fits.f a4 1).bind fun t136 => (if t136 = true then (if a0 = 0 then (gazetteerref08_Seal.j0 k a0 a1 a2 a3 a4 l5 true) else (if a4 = 0 then (gazetteerref08_Seal.j0 k a0 a1 a2 a3 a4 l5 true) else (gazetteerref08_Seal.j0 k a0 a1 a2 a3 a4 l5 (decide (a3 ≥ a4))))) else (gazetteerref08_Seal.j0 k a0 a1 a2 a3 a4 l5 true))) else (gazetteerref08_Seal.j0 k a0 a1 a2 a3 a4 l5 true)) = some (r1, r2) := H
          have A14 := Aside0.mk A140
          clear A140
          by_cases c15 : t135 = true
          · subst c15
            have H1 : ((gazetteerref01_Fits.f a4 1).bind fun t136 => (if t136 = true then (if a0 = 0 then (gazetteerref08_Seal.j0 k a0 a1 a2 a3 a4 l5 true) else (if a4 = 0 then (gazetteerref08_Seal.j0 k a0 a1 a2 a3 a4 l5 true) else (gazetteerref08_Seal.j0 k a0 a1 a2 a3 a4 l5 (decide (a3 ≥ a4))))) else (gazetteerref08_Seal.j0 k a0 a1 a2 a3 a4 l5 true))) = some (r1, r2) := by rw [if_pos rfl] at H; exact H
            clear H
            have H := H1
            clear H1
            replace H := Option.bind_eq_some_iff.mp H
            obtain ⟨t136, A160, H⟩ := H
            replace H : (if t136 = true then (if a0 = 0 then (gazetteerref08_Seal.j0 k a0 a1 a2 a3 a4 l5 true) else (if a4 = 0 then (gazetteerref08_Seal.j0 k a0 a1 a2 a3 a4 l5 true) else (gazetteerref08_Seal.j0 k a0 a1 a2 a3 a4 l5 (decide (a3 ≥ a4))))) else (gazetteerref08_Seal.j0 k a0 a1 a2 a3 a4 l5 true)) = some (r1, r2) := H
            have A16 := Aside0.mk A160
            clear A160
            by_cases c17 : t136 = true
            · subst c17
              have H1 : (if a0 = 0 then (gazetteerref08_Seal.j0 k a0 a1 a2 a3 a4 l5 true) else (if a4 = 0 then (gazetteerref08_Seal.j0 k a0 a1 a2 a3 a4 l5 true) else (gazetteerref08_Seal.j0 k a0 a1 a2 a3 a4 l5 (decide (a3 ≥ a4))))) = some (r1, r2) := by rw [if_pos rfl] at H; exact H
              clear H
              have H := H1
              clear H1
              by_cases c18 : a0 = 0
              · rw [if_pos c18] at H
                have c18b0 : (a0 == 0) = true := beq_iff_eq.mpr c18
                have c18b1 : (a0 != 0) = false := bne_eq_false_iff_eq.mpr c18
                clear c18
                (first | rw [c18b0] | (simp only [i64_w, i32_w]; rw [c18b0]) | skip)
                have H' := Aside0.mk H
                clear H
                go_wp2_with (first | ((with_reducible refine gate_callee (f := 36) rfl ?_); refine goesL_ (some 16) rfl rfl Try.func36 (by kernel_rfl) rfl #[.int .i64 a0, .int .i64 1] rfl (by (try simp only [List.map_toArray, List.map_cons, List.map_nil]); first | done | rfl | (simp only [List.length_drop, List.length_take]; rfl)) ?_; (with_reducible refine (gazetteerref01_Fits.calls a0 1 true _ A8.out).mono ?_); rintro e w' ⟨rfl, ⟨nd, rfl⟩⟩; refine ⟨_, rfl, ?_⟩) | (go_at_call 36; (with_reducible refine (gazetteerref01_Fits.calls a1 4 true _ A10.out).mono ?_); rintro e w' ⟨rfl, ⟨nd, rfl⟩⟩) | (go_at_call 36; (with_reducible refine (gazetteerref01_Fits.calls a2 7 true _ A12.out).mono ?_); rintro e w' ⟨rfl, ⟨nd, rfl⟩⟩) | (go_at_call 36; (with_reducible refine (gazetteerref01_Fits.calls a3 1 true _ A14.out).mono ?_); rintro e w' ⟨rfl, ⟨nd, rfl⟩⟩) | (go_at_call 36; (with_reducible refine (gazetteerref01_Fits.calls a4 1 true _ A16.out).mono ?_); rintro e w' ⟨rfl, ⟨nd, rfl⟩⟩))
                go_meet
                case rel => exact ⟨_, (true), (by first | rfl | (simp; done) | (simp [*]; done)), H', ⟨by first | omega | exact Nat.le_refl _⟩, ⟨by repeat (first | (with_reducible first | exact HB.out | apply below_alloc | apply pw_below_drewN | apply below_drew1) | exact HB.out)⟩⟩
              · rw [if_neg c18] at H
                have c18b0 : (a0 == 0) = false := beq_eq_false_iff_ne.mpr c18
                have c18b1 : (a0 != 0) = true := bne_iff_ne.mpr c18
                (first | rw [c18b0] | (simp only [i64_w, i32_w]; rw [c18b0]) | skip)
                by_cases c19 : a4 = 0
                · rw [if_pos c19] at H
                  have c19b0 : (a4 == 0) = true := beq_iff_eq.mpr c19
                  have c19b1 : (a4 != 0) = false := bne_eq_false_iff_eq.mpr c19
                  clear c19
                  have H' := Aside0.mk H
                  clear H
                  go_wp2_with (first | ((with_reducible refine gate_callee (f := 36) rfl ?_); refine goesL_ (some 16) rfl rfl Try.func36 (by kernel_rfl) rfl #[.int .i64 a0, .int .i64 1] rfl (by (try simp only [List.map_toArray, List.map_cons, List.map_nil]); first | done | rfl | (simp only [List.length_drop, List.length_take]; rfl)) ?_; (with_reducible refine (gazetteerref01_Fits.calls a0 1 true _ A8.out).mono ?_); rintro e w' ⟨rfl, ⟨nd, rfl⟩⟩; refine ⟨_, rfl, ?_⟩) | (go_at_call 36; (with_reducible refine (gazetteerref01_Fits.calls a1 4 true _ A10.out).mono ?_); rintro e w' ⟨rfl, ⟨nd, rfl⟩⟩) | (go_at_call 36; (with_reducible refine (gazetteerref01_Fits.calls a2 7 true _ A12.out).mono ?_); rintro e w' ⟨rfl, ⟨nd, rfl⟩⟩) | (go_at_call 36; (with_reducible refine (gazetteerref01_Fits.calls a3 1 true _ A14.out).mono ?_); rintro e w' ⟨rfl, ⟨nd, rfl⟩⟩) | (go_at_call 36; (with_reducible refine (gazetteerref01_Fits.calls a4 1 true _ A16.out).mono ?_); rintro e w' ⟨rfl, ⟨nd, rfl⟩⟩))
                  go_meet
                  case rel => exact ⟨_, (true), (by first | rfl | (simp; done) | (simp [*]; done)), H', ⟨by first | omega | exact Nat.le_refl _⟩, ⟨by repeat (first | (with_reducible first | exact HB.out | apply below_alloc | apply pw_below_drewN | apply below_drew1) | exact HB.out)⟩⟩
                · rw [if_neg c19] at H
                  have c19b0 : (a4 == 0) = false := beq_eq_false_iff_ne.mpr c19
                  have c19b1 : (a4 != 0) = true := bne_iff_ne.mpr c19
                  have H' := Aside0.mk H
                  clear H
                  go_wp2_with (first | ((with_reducible refine gate_callee (f := 36) rfl ?_); refine goesL_ (some 16) rfl rfl Try.func36 (by kernel_rfl) rfl #[.int .i64 a0, .int .i64 1] rfl (by (try simp only [List.map_toArray, List.map_cons, List.map_nil]); first | done | rfl | (simp only [List.length_drop, List.length_take]; rfl)) ?_; (with_reducible refine (gazetteerref01_Fits.calls a0 1 true _ A8.out).mono ?_); rintro e w' ⟨rfl, ⟨nd, rfl⟩⟩; refine ⟨_, rfl, ?_⟩) | (go_at_call 36; (with_reducible refine (gazetteerref01_Fits.calls a1 4 true _ A10.out).mono ?_); rintro e w' ⟨rfl, ⟨nd, rfl⟩⟩) | (go_at_call 36; (with_reducible refine (gazetteerref01_Fits.calls a2 7 true _ A12.out).mono ?_); rintro e w' ⟨rfl, ⟨nd, rfl⟩⟩) | (go_at_call 36; (with_reducible refine (gazetteerref01_Fits.calls a3 1 true _ A14.out).mono ?_); rintro e w' ⟨rfl, ⟨nd, rfl⟩⟩) | (go_at_call 36; (with_reducible refine (gazetteerref01_Fits.calls a4 1 true _ A16.out).mono ?_); rintro e w' ⟨rfl, ⟨nd, rfl⟩⟩))
                  go_meet
                  case rel => exact ⟨_, (decide (a3 ≥ a4)), (by first | rfl | (simp; done) | (simp [*]; done)), H', ⟨by first | omega | exact Nat.le_refl _⟩, ⟨by repeat (first | (with_reducible first | exact HB.out | apply below_alloc | apply pw_below_drewN | apply below_drew1) | exact HB.out)⟩⟩
            · replace c17 := Bool.eq_false_iff.mpr c17
              subst c17
              have H1 : (gazetteerref08_Seal.j0 k a0 a1 a2 a3 a4 l5 true) = some (r1, r2) := by rw [if_neg (show ¬ (false = true) by decide)] at H; exact H
              clear H
              have H := H1
              clear H1
              have H' := Aside0.mk H
              clear H
              go_wp2_with (first | ((with_reducible refine gate_callee (f := 36) rfl ?_); refine goesL_ (some 16) rfl rfl Try.func36 (by kernel_rfl) rfl #[.int .i64 a0, .int .i64 1] rfl (by (try simp only [List.map_toArray, List.map_cons, List.map_nil]); first | done | rfl | (simp only [List.length_drop, List.length_take]; rfl)) ?_; (with_reducible refine (gazetteerref01_Fits.calls a0 1 true _ A8.out).mono ?_); rintro e w' ⟨rfl, ⟨nd, rfl⟩⟩; refine ⟨_, rfl, ?_⟩) | (go_at_call 36; (with_reducible refine (gazetteerref01_Fits.calls a1 4 true _ A10.out).mono ?_); rintro e w' ⟨rfl, ⟨nd, rfl⟩⟩) | (go_at_call 36; (with_reducible refine (gazetteerref01_Fits.calls a2 7 true _ A12.out).mono ?_); rintro e w' ⟨rfl, ⟨nd, rfl⟩⟩) | (go_at_call 36; (with_reducible refine (gazetteerref01_Fits.calls a3 1 true _ A14.out).mono ?_); rintro e w' ⟨rfl, ⟨nd, rfl⟩⟩) | (go_at_call 36; (with_reducible refine (gazetteerref01_Fits.calls a4 1 false _ A16.out).mono ?_); rintro e w' ⟨rfl, ⟨nd, rfl⟩⟩))
              go_meet
              case rel => exact ⟨_, (true), (by first | rfl | (simp; done) | (simp [*]; done)), H', ⟨by first | omega | exact Nat.le_refl _⟩, ⟨by repeat (first | (with_reducible first | exact HB.out | apply below_alloc | apply pw_below_drewN | apply below_drew1) | exact HB.out)⟩⟩
          · replace c15 := Bool.eq_false_iff.mpr c15
            subst c15
            have H1 : (gazetteerref08_Seal.j0 k a0 a1 a2 a3 a4 l5 true) = some (r1, r2) := by rw [if_neg (show ¬ (false = true) by decide)] at H; exact H
            clear H
            have H := H1
            clear H1
            have H' := Aside0.mk H
            clear H
            go_wp2_with (first | ((with_reducible refine gate_callee (f := 36) rfl ?_); refine goesL_ (some 16) rfl rfl Try.func36 (by kernel_rfl) rfl #[.int .i64 a0, .int .i64 1] rfl (by (try simp only [List.map_toArray, List.map_cons, List.map_nil]); first | done | rfl | (simp only [List.length_drop, List.length_take]; rfl)) ?_; (with_reducible refine (gazetteerref01_Fits.calls a0 1 true _ A8.out).mono ?_); rintro e w' ⟨rfl, ⟨nd, rfl⟩⟩; refine ⟨_, rfl, ?_⟩) | (go_at_call 36; (with_reducible refine (gazetteerref01_Fits.calls a1 4 true _ A10.out).mono ?_); rintro e w' ⟨rfl, ⟨nd, rfl⟩⟩) | (go_at_call 36; (with_reducible refine (gazetteerref01_Fits.calls a2 7 true _ A12.out).mono ?_); rintro e w' ⟨rfl, ⟨nd, rfl⟩⟩) | (go_at_call 36; (with_reducible refine (gazetteerref01_Fits.calls a3 1 false _ A14.out).mono ?_); rintro e w' ⟨rfl, ⟨nd, rfl⟩⟩))
            go_meet
            case rel => exact ⟨_, (true), (by first | rfl | (simp; done) | (simp [*]; done)), H', ⟨by first | omega | exact Nat.le_refl _⟩, ⟨by repeat (first | (with_reducible first | exact HB.out | apply below_alloc | apply pw_below_drewN | apply below_drew1) | exact HB.out)⟩⟩
        · replace c13 := Bool.eq_false_iff.mpr c13
          subst c13
          have H1 : (gazetteerref08_Seal.j0 k a0 a1 a2 a3 a4 l5 true) = some (r1, r2) := by rw [if_neg (show ¬ (false = true) by decide)] at H; exact H
          clear H
          have H := H1
          clear H1
          have H' := Aside0.mk H
          clear H
          go_wp2_with (first | ((with_reducible refine gate_callee (f := 36) rfl ?_); refine goesL_ (some 16) rfl rfl Try.func36 (by kernel_rfl) rfl #[.int .i64 a0, .int .i64 1] rfl (by (try simp only [List.map_toArray, List.map_cons, List.map_nil]); first | done | rfl | (simp only [List.length_drop, List.length_take]; rfl)) ?_; (with_reducible refine (gazetteerref01_Fits.calls a0 1 true _ A8.out).mono ?_); rintro e w' ⟨rfl, ⟨nd, rfl⟩⟩; refine ⟨_, rfl, ?_⟩) | (go_at_call 36; (with_reducible refine (gazetteerref01_Fits.calls a1 4 true _ A10.out).mono ?_); rintro e w' ⟨rfl, ⟨nd, rfl⟩⟩) | (go_at_call 36; (with_reducible refine (gazetteerref01_Fits.calls a2 7 false _ A12.out).mono ?_); rintro e w' ⟨rfl, ⟨nd, rfl⟩⟩))
          go_meet
          case rel => exact ⟨_, (true), (by first | rfl | (simp; done) | (simp [*]; done)), H', ⟨by first | omega | exact Nat.le_refl _⟩, ⟨by repeat (first | (with_reducible first | exact HB.out | apply below_alloc | apply pw_below_drewN | apply below_drew1) | exact HB.out)⟩⟩
      · replace c11 := Bool.eq_false_iff.mpr c11
        subst c11
        have H1 : (gazetteerref08_Seal.j0 k a0 a1 a2 a3 a4 l5 true) = some (r1, r2) := by rw [if_neg (show ¬ (false = true) by decide)] at H; exact H
        clear H
        have H := H1
        clear H1
        have H' := Aside0.mk H
        clear H
        go_wp2_with (first | ((with_reducible refine gate_callee (f := 36) rfl ?_); refine goesL_ (some 16) rfl rfl Try.func36 (by kernel_rfl) rfl #[.int .i64 a0, .int .i64 1] rfl (by (try simp only [List.map_toArray, List.map_cons, List.map_nil]); first | done | rfl | (simp only [List.length_drop, List.length_take]; rfl)) ?_; (with_reducible refine (gazetteerref01_Fits.calls a0 1 true _ A8.out).mono ?_); rintro e w' ⟨rfl, ⟨nd, rfl⟩⟩; refine ⟨_, rfl, ?_⟩) | (go_at_call 36; (with_reducible refine (gazetteerref01_Fits.calls a1 4 false _ A10.out).mono ?_); rintro e w' ⟨rfl, ⟨nd, rfl⟩⟩))
        go_meet
        case rel => exact ⟨_, (true), (by first | rfl | (simp; done) | (simp [*]; done)), H', ⟨by first | omega | exact Nat.le_refl _⟩, ⟨by repeat (first | (with_reducible first | exact HB.out | apply below_alloc | apply pw_below_drewN | apply below_drew1) | exact HB.out)⟩⟩
    · replace c9 := Bool.eq_false_iff.mpr c9
      subst c9
      have H1 : (gazetteerref08_Seal.j0 k a0 a1 a2 a3 a4 l5 true) = some (r1, r2) := by rw [if_neg (show ¬ (false = true) by decide)] at H; exact H
      clear H
      have H := H1
      clear H1
      have H' := Aside0.mk H
      clear H
      go_wp2_with (first | ((with_reducible refine gate_callee (f := 36) rfl ?_); refine goesL_ (some 16) rfl rfl Try.func36 (by kernel_rfl) rfl #[.int .i64 a0, .int .i64 1] rfl (by (try simp only [List.map_toArray, List.map_cons, List.map_nil]); first | done | rfl | (simp only [List.length_drop, List.length_take]; rfl)) ?_; (with_reducible refine (gazetteerref01_Fits.calls a0 1 false _ A8.out).mono ?_); rintro e w' ⟨rfl, ⟨nd, rfl⟩⟩; refine ⟨_, rfl, ?_⟩))
      go_meet
      case rel => exact ⟨_, (true), (by first | rfl | (simp; done) | (simp [*]; done)), H', ⟨by first | omega | exact Nat.le_refl _⟩, ⟨by repeat (first | (with_reducible first | exact HB.out | apply below_alloc | apply pw_below_drewN | apply below_drew1) | exact HB.out)⟩⟩
  case rest =>
    clear HC7
    try clear c1
    try clear p2
    try clear c3
    try clear c5
    try clear c9
    try clear c11
    try clear c13
    try clear c15
    try clear c17
    try clear c18
    try clear c18b0
    try clear c18b1
    try clear c19
    try clear c19b0
    try clear c19b1
    obtain ⟨kq, x50_6, rfl, HA, HJ6, HB⟩ := hcut
    cases kq with
    | zero => exact absurd HA.out (by simp [gazetteerref08_Seal.j0])
    | succ kj6 =>
      have H := HA.out
      clear HA
      simp only [gazetteerref08_Seal.j0] at H
      by_cases c20 : x50_6 = true
      · subst c20
        have H1 : (some (([] : List Int), 15)) = some (r1, r2) := by rw [if_pos rfl] at H; exact H
        clear H
        have H := H1
        clear H1
        simp only [Option.some.injEq, Prod.mk.injEq] at H
        obtain ⟨rfl, rfl⟩ := H
        go_wp2
        go_ret2
        exact ⟨_, by first | rfl | (simp [errW_none, errW_some] <;> rfl) | (simp [*, errW_none, errW_some] <;> rfl), by first | exact Kd.R_nil _ _ _ _ _ | exact Kd.N_nil _ _ _ _ _ | exact Kd.V_nil _ _ _ _ _ | exact Kd.Q_nil _ _ _ _ _ | exact Kd.S_nil _ _ _ _ _, by repeat (first | (with_reducible first | exact HB.out | apply below_alloc | apply pw_below_drewN | apply below_drew1) | exact HB.out)⟩
      · replace c20 := Bool.eq_false_iff.mpr c20
        subst c20
        have H1 : (if (l5.length : Int) > 496 then (some (([] : List Int), 4)) else ((gazetteerref01_Put.f ([] : List Int) a0 1).bind fun t137 => ((gazetteerref01_Put.f t137 a1 4).bind fun t140 => ((gazetteerref01_Put.f t140 a2 7).bind fun t143 => ((gazetteerref01_Put.f t143 a3 1).bind fun t146 => ((gazetteerref01_Put.f t146 a4 1).bind fun t149 => ((gazetteerref01_Put.f t149 (l5.length : Int) 2).bind fun t152 => (if t152.length + l5.length < 140737488355328 then (gazetteerref08_Seal.l0 kj6 (t152 ++ l5)) else (none))))))))) = some (r1, r2) := by rw [if_neg (show ¬ (false = true) by decide)] at H; exact H
        clear H
        have H := H1
        clear H1
        by_cases c21 : (l5.length : Int) > 496
        · rw [if_pos c21] at H
          have c21b0 : decide (496 < (l5.length : Int)) = true := decide_eq_true c21
          have c21b1 : decide (496 < l5.length) = true := decide_eq_true (by omega)
          clear c21
          simp only [Option.some.injEq, Prod.mk.injEq] at H
          obtain ⟨rfl, rfl⟩ := H
          go_wp2
          go_ret2
          exact ⟨_, by first | rfl | (simp [errW_none, errW_some] <;> rfl) | (simp [*, errW_none, errW_some] <;> rfl), by first | exact Kd.R_nil _ _ _ _ _ | exact Kd.N_nil _ _ _ _ _ | exact Kd.V_nil _ _ _ _ _ | exact Kd.Q_nil _ _ _ _ _ | exact Kd.S_nil _ _ _ _ _, by repeat (first | (with_reducible first | exact HB.out | apply below_alloc | apply pw_below_drewN | apply below_drew1) | exact HB.out)⟩
        · rw [if_neg c21] at H
          have c21b0 : decide (496 < (l5.length : Int)) = false := decide_eq_false c21
          have c21b1 : decide (496 < l5.length) = false := decide_eq_false (by omega)
          clear c21
          replace H := Option.bind_eq_some_iff.mp H
          obtain ⟨t137, A220, H⟩ := H
          replace H : ((gazetteerref01_Put.f t137 a1 4).bind fun t140 => ((gazetteerref01_Put.f t140 a2 7).bind fun t143 => ((gazetteerref01_Put.f t143 a3 1).bind fun t146 => ((gazetteerref01_Put.f t146 a4 1).bind fun t149 => ((gazetteerref01_Put.f t149 (l5.length : Int) 2).bind fun t152 => (if t152.length + l5.length < 140737488355328 then (gazetteerref08_Seal.l0 kj6 (t152 ++ l5)) else (none))))))) = some (r1, r2) := H
          have A22 := Aside0.mk A220
          clear A220
          replace H := Option.bind_eq_some_iff.mp H
          obtain ⟨t140, A230, H⟩ := H
          replace H : ((gazetteerref01_Put.f t140 a2 7).bind fun t143 => ((gazetteerref01_Put.f t143 a3 1).bind fun t146 => ((gazetteerref01_Put.f t146 a4 1).bind fun t149 => ((gazetteerref01_Put.f t149 (l5.length : Int) 2).bind fun t152 => (if t152.length + l5.length < 140737488355328 then (gazetteerref08_Seal.l0 kj6 (t152 ++ l5)) else (none)))))) = some (r1, r2) := H
          have A23 := Aside0.mk A230
          clear A230
          replace H := Option.bind_eq_some_iff.mp H
          obtain ⟨t143, A240, H⟩ := H
          replace H : ((gazetteerref01_Put.f t143 a3 1).bind fun t146 => ((gazetteerref01_Put.f t146 a4 1).bind fun t149 => ((gazetteerref01_Put.f t149 (l5.length : Int) 2).bind fun t152 => (if t152.length + l5.length < 140737488355328 then (gazetteerref08_Seal.l0 kj6 (t152 ++ l5)) else (none))))) = some (r1, r2) := H
          have A24 := Aside0.mk A240
          clear A240
          replace H := Option.bind_eq_some_iff.mp H
          obtain ⟨t146, A250, H⟩ := H
          replace H : ((gazetteerref01_Put.f t146 a4 1).bind fun t149 => ((gazetteerref01_Put.f t149 (l5.length : Int) 2).bind fun t152 => (if t152.length + l5.length < 140737488355328 then (gazetteerref08_Seal.l0 kj6 (t152 ++ l5)) else (none)))) = some (r1, r2) := H
          have A25 := Aside0.mk A250
          clear A250
          replace H := Option.bind_eq_some_iff.mp H
          obtain ⟨t149, A260, H⟩ := H
          replace H : ((gazetteerref01_Put.f t149 (l5.length : Int) 2).bind fun t152 => (if t152.length + l5.length < 140737488355328 then (gazetteerref08_Seal.l0 kj6 (t152 ++ l5)) else (none))) = some (r1, r2) := H
          have A26 := Aside0.mk A260
          clear A260
          replace H := Option.bind_eq_some_iff.mp H
          obtain ⟨t152, A270, H⟩ := H
          replace H : (if t152.length + l5.length < 140737488355328 then (gazetteerref08_Seal.l0 kj6 (t152 ++ l5)) else (none)) = some (r1, r2) := H
          have A27 := Aside0.mk A270
          clear A270
          by_cases c28 : t152.length + l5.length < 140737488355328
          · rw [if_pos c28] at H
            have LMc28 := Aside0.mk c28
            clear c28
            obtain ⟨y155, hy155⟩ : ∃ y_ : List Int, y_ = (t152 ++ l5) := ⟨_, rfl⟩
            replace H : (gazetteerref08_Seal.l0 kj6 y155) = some (r1, r2) := by first | (rw [hy155]; with_reducible exact H) | (have H2_ := (Option.bind_some _ _).symm.trans H; rw [hy155]; with_reducible exact H2_) | (have H2_ := (Option.bind_some _ _).symm.trans H; with_reducible exact H2_) | with_reducible exact H | (rw [hy155]; exact H) | exact H
            have Ny155 := Aside0.mk hy155
            clear hy155
            have H' := Aside0.mk H
            clear H
            go_wp2_with (first | ((with_reducible refine gate_callee (f := 37) rfl ?_); refine goesL_ (some 55) rfl rfl Try.func37 (by kernel_rfl) rfl #[.slice none 0 0, .int .i64 a0, .int .i64 1] rfl (by (try simp only [List.map_toArray, List.map_cons, List.map_nil]); first | done | rfl | (simp only [List.length_drop, List.length_take]; rfl)) ?_; (refine (gazetteerref01_Put.calls _ _ ([] : List Int) a0 1 t137 _ ?side1 ?side2 A22.out).mono ?_); (case side1 => exact Kd.C_nil _ _); (case side2 => exact Nat.le_refl _); rintro e w29 ⟨v138, rfl, ho0, hb⟩; refine ⟨_, rfl, ?_⟩; have n0_ := Aside0.mk (Kd.R_lower ho0 (below_size (by repeat (first | (with_reducible first | exact HB.out | apply below_alloc | apply pw_below_drewN | apply below_drew1) | exact HB.out)))); have n1_ := Aside0.mk (below_step (by repeat (first | (with_reducible first | exact HB.out | apply below_alloc | apply pw_below_drewN | apply below_drew1) | exact HB.out)) hb); clear HB; have HO139 := n0_; have HB := n1_; clear n0_ n1_; (try clear hb); (try clear hb2); (try clear hk); (try clear hi); (try clear ho0); obtain ⟨Ao30, co30, eo30⟩ := Kd.R_slice HO139.out; subst eo30) | ((with_reducible refine gate_callee (f := 37) rfl ?_); refine goesL_ (some 58) rfl rfl Try.func37 (by kernel_rfl) rfl #[.slice Ao30 t137.length co30, .int .i64 a1, .int .i64 4] rfl (by (try simp only [List.map_toArray, List.map_cons, List.map_nil]); first | done | rfl | (simp only [List.length_drop, List.length_take]; rfl)) ?_; (with_reducible refine (gazetteerref01_Put.calls _ _ t137 a1 4 t140 _ ?side1 ?side2 A23.out).mono ?_); (case side1 => repeat (first | exact (Kd.R_reads' HO139.out).2.2 | (with_reducible refine Kd.C_alloc ?_ _) | (with_reducible refine Kd.C_drewN ?_ _) | (with_reducible refine Kd.C_drew ?_))); (case side2 => exact (Kd.R_reads' HO139.out).2.1); rintro e w31 ⟨v141, rfl, ho0, hb⟩; refine ⟨_, rfl, ?_⟩; have n0_ := Aside0.mk (Kd.R_elder' (by (with_reducible repeat (first | apply Kd.R_alloc | apply Kd.R_drewN | apply Kd.R_drew)); exact HO139.out) (Kd.R_base ho0) hb); have n1_ := Aside0.mk (Kd.R_lower (Kd.R_new' ho0 (Kd.R_lt (by (with_reducible repeat (first | apply Kd.R_alloc | apply Kd.R_drewN | apply Kd.R_drew)); exact HO139.out))) (below_size (by repeat (first | (with_reducible first | exact HB.out | apply below_alloc | apply pw_below_drewN | apply below_drew1) | exact HB.out)))); have n2_ := Aside0.mk (below_step (by repeat (first | (with_reducible first | exact HB.out | apply below_alloc | apply pw_below_drewN | apply below_drew1) | exact HB.out)) hb); clear HO139; clear HB; have HO139 := n0_; have HO142 := n1_; have HB := n2_; clear n0_ n1_ n2_; (try clear hb); (try clear hb2); (try clear hk); (try clear hi); (try clear ho0); obtain ⟨Ao32, co32, eo32⟩ := Kd.R_slice HO142.out; subst eo32) | ((with_reducible refine gate_callee (f := 37) rfl ?_); refine goesL_ (some 61) rfl rfl Try.func37 (by kernel_rfl) rfl #[.slice Ao32 t140.length co32, .int .i64 a2, .int .i64 7] rfl (by (try simp only [List.map_toArray, List.map_cons, List.map_nil]); first | done | rfl | (simp only [List.length_drop, List.length_take]; rfl)) ?_; (with_reducible refine (gazetteerref01_Put.calls _ _ t140 a2 7 t143 _ ?side1 ?side2 A24.out).mono ?_); (case side1 => repeat (first | exact (Kd.R_reads' HO142.out).2.2 | (with_reducible refine Kd.C_alloc ?_ _) | (with_reducible refine Kd.C_drewN ?_ _) | (with_reducible refine Kd.C_drew ?_))); (case side2 => exact (Kd.R_reads' HO142.out).2.1); rintro e w33 ⟨v144, rfl, ho0, hb⟩; refine ⟨_, rfl, ?_⟩; have n0_ := Aside0.mk (Kd.R_elder' (by (with_reducible repeat (first | apply Kd.R_alloc | apply Kd.R_drewN | apply Kd.R_drew)); exact HO139.out) (Kd.R_base ho0) hb); have n1_ := Aside0.mk (Kd.R_elder' (by (with_reducible repeat (first | apply Kd.R_alloc | apply Kd.R_drewN | apply Kd.R_drew)); exact HO142.out) (Kd.R_base ho0) hb); have n2_ := Aside0.mk (Kd.R_lower (Kd.R_new' (Kd.R_new' ho0 (Kd.R_lt (by (with_reducible repeat (first | apply Kd.R_alloc | apply Kd.R_drewN | apply Kd.R_drew)); exact HO139.out))) (Kd.R_lt (by (with_reducible repeat (first | apply Kd.R_alloc | apply Kd.R_drewN | apply Kd.R_drew)); exact HO142.out))) (below_size (by repeat (first | (with_reducible first | exact HB.out | apply below_alloc | apply pw_below_drewN | apply below_drew1) | exact HB.out)))); have n3_ := Aside0.mk (below_step (by repeat (first | (with_reducible first | exact HB.out | apply below_alloc | apply pw_below_drewN | apply below_drew1) | exact HB.out)) hb); clear HO139; clear HO142; clear HB; have HO139 := n0_; have HO142 := n1_; have HO145 := n2_; have HB := n3_; clear n0_ n1_ n2_ n3_; (try clear hb); (try clear hb2); (try clear hk); (try clear hi); (try clear ho0); obtain ⟨Ao34, co34, eo34⟩ := Kd.R_slice HO145.out; subst eo34) | ((with_reducible refine gate_callee (f := 37) rfl ?_); refine goesL_ (some 64) rfl rfl Try.func37 (by kernel_rfl) rfl #[.slice Ao34 t143.length co34, .int .i64 a3, .int .i64 1] rfl (by (try simp only [List.map_toArray, List.map_cons, List.map_nil]); first | done | rfl | (simp only [List.length_drop, List.length_take]; rfl)) ?_; (with_reducible refine (gazetteerref01_Put.calls _ _ t143 a3 1 t146 _ ?side1 ?side2 A25.out).mono ?_); (case side1 => repeat (first | exact (Kd.R_reads' HO145.out).2.2 | (with_reducible refine Kd.C_alloc ?_ _) | (with_reducible refine Kd.C_drewN ?_ _) | (with_reducible refine Kd.C_drew ?_))); (case side2 => exact (Kd.R_reads' HO145.out).2.1); rintro e w35 ⟨v147, rfl, ho0, hb⟩; refine ⟨_, rfl, ?_⟩; have n0_ := Aside0.mk (Kd.R_elder' (by (with_reducible repeat (first | apply Kd.R_alloc | apply Kd.R_drewN | apply Kd.R_drew)); exact HO139.out) (Kd.R_base ho0) hb); have n1_ := Aside0.mk (Kd.R_elder' (by (with_reducible repeat (first | apply Kd.R_alloc | apply Kd.R_drewN | apply Kd.R_drew)); exact HO142.out) (Kd.R_base ho0) hb); have n2_ := Aside0.mk (Kd.R_elder' (by (with_reducible repeat (first | apply Kd.R_alloc | apply Kd.R_drewN | apply Kd.R_drew)); exact HO145.out) (Kd.R_base ho0) hb); have n3_ := Aside0.mk (Kd.R_lower (Kd.R_new' (Kd.R_new' (Kd.R_new' ho0 (Kd.R_lt (by (with_reducible repeat (first | apply Kd.R_alloc | apply Kd.R_drewN | apply Kd.R_drew)); exact HO139.out))) (Kd.R_lt (by (with_reducible repeat (first | apply Kd.R_alloc | apply Kd.R_drewN | apply Kd.R_drew)); exact HO142.out))) (Kd.R_lt (by (with_reducible repeat (first | apply Kd.R_alloc | apply Kd.R_drewN | apply Kd.R_drew)); exact HO145.out))) (below_size (by repeat (first | (with_reducible first | exact HB.out | apply below_alloc | apply pw_below_drewN | apply below_drew1) | exact HB.out)))); have n4_ := Aside0.mk (below_step (by repeat (first | (with_reducible first | exact HB.out | apply below_alloc | apply pw_below_drewN | apply below_drew1) | exact HB.out)) hb); clear HO139; clear HO142; clear HO145; clear HB; have HO139 := n0_; have HO142 := n1_; have HO145 := n2_; have HO148 := n3_; have HB := n4_; clear n0_ n1_ n2_ n3_ n4_; (try clear hb); (try clear hb2); (try clear hk); (try clear hi); (try clear ho0); obtain ⟨Ao36, co36, eo36⟩ := Kd.R_slice HO148.out; subst eo36) | ((with_reducible refine gate_callee (f := 37) rfl ?_); refine goesL_ (some 67) rfl rfl Try.func37 (by kernel_rfl) rfl #[.slice Ao36 t146.length co36, .int .i64 a4, .int .i64 1] rfl (by (try simp only [List.map_toArray, List.map_cons, List.map_nil]); first | done | rfl | (simp only [List.length_drop, List.length_take]; rfl)) ?_; (with_reducible refine (gazetteerref01_Put.calls _ _ t146 a4 1 t149 _ ?side1 ?side2 A26.out).mono ?_); (case side1 => repeat (first | exact (Kd.R_reads' HO148.out).2.2 | (with_reducible refine Kd.C_alloc ?_ _) | (with_reducible refine Kd.C_drewN ?_ _) | (with_reducible refine Kd.C_drew ?_))); (case side2 => exact (Kd.R_reads' HO148.out).2.1); rintro e w37 ⟨v150, rfl, ho0, hb⟩; refine ⟨_, rfl, ?_⟩; have n0_ := Aside0.mk (Kd.R_elder' (by (with_reducible repeat (first | apply Kd.R_alloc | apply Kd.R_drewN | apply Kd.R_drew)); exact HO139.out) (Kd.R_base ho0) hb); have n1_ := Aside0.mk (Kd.R_elder' (by (with_reducible repeat (first | apply Kd.R_alloc | apply Kd.R_drewN | apply Kd.R_drew)); exact HO142.out) (Kd.R_base ho0) hb); have n2_ := Aside0.mk (Kd.R_elder' (by (with_reducible repeat (first | apply Kd.R_alloc | apply Kd.R_drewN | apply Kd.R_drew)); exact HO145.out) (Kd.R_base ho0) hb); have n3_ := Aside0.mk (Kd.R_elder' (by (with_reducible repeat (first | apply Kd.R_alloc | apply Kd.R_drewN | apply Kd.R_drew)); exact HO148.out) (Kd.R_base ho0) hb); have n4_ := Aside0.mk (Kd.R_lower (Kd.R_new' (Kd.R_new' (Kd.R_new' (Kd.R_new' ho0 (Kd.R_lt (by (with_reducible repeat (first | apply Kd.R_alloc | apply Kd.R_drewN | apply Kd.R_drew)); exact HO139.out))) (Kd.R_lt (by (with_reducible repeat (first | apply Kd.R_alloc | apply Kd.R_drewN | apply Kd.R_drew)); exact HO142.out))) (Kd.R_lt (by (with_reducible repeat (first | apply Kd.R_alloc | apply Kd.R_drewN | apply Kd.R_drew)); exact HO145.out))) (Kd.R_lt (by (with_reducible repeat (first | apply Kd.R_alloc | apply Kd.R_drewN | apply Kd.R_drew)); exact HO148.out))) (below_size (by repeat (first | (with_reducible first | exact HB.out | apply below_alloc | apply pw_below_drewN | apply below_drew1) | exact HB.out)))); have n5_ := Aside0.mk (below_step (by repeat (first | (with_reducible first | exact HB.out | apply below_alloc | apply pw_below_drewN | apply below_drew1) | exact HB.out)) hb); clear HO139; clear HO142; clear HO145; clear HO148; clear HB; have HO139 := n0_; have HO142 := n1_; have HO145 := n2_; have HO148 := n3_; have HO151 := n4_; have HB := n5_; clear n0_ n1_ n2_ n3_ n4_ n5_; (try clear hb); (try clear hb2); (try clear hk); (try clear hi); (try clear ho0); obtain ⟨Ao38, co38, eo38⟩ := Kd.R_slice HO151.out; subst eo38) | ((with_reducible refine gate_callee (f := 37) rfl ?_); refine goesL_ (some 71) rfl rfl Try.func37 (by kernel_rfl) rfl #[.slice Ao38 t149.length co38, .int .i64 (l5.length : Int), .int .i64 2] rfl (by (try simp only [List.map_toArray, List.map_cons, List.map_nil]); first | done | rfl | (simp only [List.length_drop, List.length_take]; rfl)) ?_; (with_reducible refine (gazetteerref01_Put.calls _ _ t149 (l5.length : Int) 2 t152 _ ?side1 ?side2 A27.out).mono ?_); (case side1 => repeat (first | exact (Kd.R_reads' HO151.out).2.2 | (with_reducible refine Kd.C_alloc ?_ _) | (with_reducible refine Kd.C_drewN ?_ _) | (with_reducible refine Kd.C_drew ?_))); (case side2 => exact (Kd.R_reads' HO151.out).2.1); rintro e w39 ⟨v153, rfl, ho0, hb⟩; refine ⟨_, rfl, ?_⟩; have n0_ := Aside0.mk (Kd.R_elder' (by (with_reducible repeat (first | apply Kd.R_alloc | apply Kd.R_drewN | apply Kd.R_drew)); exact HO139.out) (Kd.R_base ho0) hb); have n1_ := Aside0.mk (Kd.R_elder' (by (with_reducible repeat (first | apply Kd.R_alloc | apply Kd.R_drewN | apply Kd.R_drew)); exact HO142.out) (Kd.R_base ho0) hb); have n2_ := Aside0.mk (Kd.R_elder' (by (with_reducible repeat (first | apply Kd.R_alloc | apply Kd.R_drewN | apply Kd.R_drew)); exact HO145.out) (Kd.R_base ho0) hb); have n3_ := Aside0.mk (Kd.R_elder' (by (with_reducible repeat (first | apply Kd.R_alloc | apply Kd.R_drewN | apply Kd.R_drew)); exact HO148.out) (Kd.R_base ho0) hb); have n4_ := Aside0.mk (Kd.R_elder' (by (with_reducible repeat (first | apply Kd.R_alloc | apply Kd.R_drewN | apply Kd.R_drew)); exact HO151.out) (Kd.R_base ho0) hb); have n5_ := Aside0.mk (Kd.R_lower (Kd.R_new' (Kd.R_new' (Kd.R_new' (Kd.R_new' (Kd.R_new' ho0 (Kd.R_lt (by (with_reducible repeat (first | apply Kd.R_alloc | apply Kd.R_drewN | apply Kd.R_drew)); exact HO139.out))) (Kd.R_lt (by (with_reducible repeat (first | apply Kd.R_alloc | apply Kd.R_drewN | apply Kd.R_drew)); exact HO142.out))) (Kd.R_lt (by (with_reducible repeat (first | apply Kd.R_alloc | apply Kd.R_drewN | apply Kd.R_drew)); exact HO145.out))) (Kd.R_lt (by (with_reducible repeat (first | apply Kd.R_alloc | apply Kd.R_drewN | apply Kd.R_drew)); exact HO148.out))) (Kd.R_lt (by (with_reducible repeat (first | apply Kd.R_alloc | apply Kd.R_drewN | apply Kd.R_drew)); exact HO151.out))) (below_size (by repeat (first | (with_reducible first | exact HB.out | apply below_alloc | apply pw_below_drewN | apply below_drew1) | exact HB.out)))); have n6_ := Aside0.mk (below_step (by repeat (first | (with_reducible first | exact HB.out | apply below_alloc | apply pw_below_drewN | apply below_drew1) | exact HB.out)) hb); clear HO139; clear HO142; clear HO145; clear HO148; clear HO151; clear HB; have HO139 := n0_; have HO142 := n1_; have HO145 := n2_; have HO148 := n3_; have HO151 := n4_; have HO154 := n5_; have HB := n6_; clear n0_ n1_ n2_ n3_ n4_ n5_ n6_; (try clear hb); (try clear hb2); (try clear hk); (try clear hi); (try clear ho0)) | ((with_reducible refine gate_builtin (b := .append) (xs := #[.tmp 72, .tmp 73]) rfl ?_); at_builtin; refine Kd.R_append_rows (Kd.int .u8) (w0 := w) w.heap.size rfl (.tmp 72) (.tmp 73) 24 5 (.int .u8 0) 1 rfl Try.underlying24 info5 rfl (by decide) (by omega) v153 t152 l5 _ _ _ (fun k_ => some k_ ≠ (.slice Ao30 t137.length co30 : Value).ownBlock ∧ some k_ ≠ (.slice Ao32 t140.length co32 : Value).ownBlock ∧ some k_ ≠ (.slice Ao34 t143.length co34 : Value).ownBlock ∧ some k_ ≠ (.slice Ao36 t146.length co36 : Value).ownBlock ∧ some k_ ≠ (.slice Ao38 t149.length co38 : Value).ownBlock) (fun _ => False) rfl rfl ?aO ?aR (fun _ _ h => h) (fun _ h => h.elim) ?aF ?aB ?aS ?aL ?_; (case aR => repeat (first | exact (Kd.C_below HR5.out HB.out) | (with_reducible refine Kd.C_alloc ?_ _) | (with_reducible refine Kd.C_drewN ?_ _) | (with_reducible refine Kd.C_drew ?_))); (case aB => exact (by repeat (first | (with_reducible first | exact HB.out | apply below_alloc | apply pw_below_drewN | apply below_drew1) | exact HB.out))); (case aF => exact (fun k_ hk => ⟨Kd.fresh' (Kd.R_lt (by (with_reducible repeat (first | apply Kd.R_alloc | apply Kd.R_drewN | apply Kd.R_drew)); exact HO139.out)) k_ hk, Kd.fresh' (Kd.R_lt (by (with_reducible repeat (first | apply Kd.R_alloc | apply Kd.R_drewN | apply Kd.R_drew)); exact HO142.out)) k_ hk, Kd.fresh' (Kd.R_lt (by (with_reducible repeat (first | apply Kd.R_alloc | apply Kd.R_drewN | apply Kd.R_drew)); exact HO145.out)) k_ hk, Kd.fresh' (Kd.R_lt (by (with_reducible repeat (first | apply Kd.R_alloc | apply Kd.R_drewN | apply Kd.R_drew)); exact HO148.out)) k_ hk, Kd.fresh' (Kd.R_lt (by (with_reducible repeat (first | apply Kd.R_alloc | apply Kd.R_drewN | apply Kd.R_drew)); exact HO151.out)) k_ hk⟩)); (case aO => exact (by (with_reducible repeat (first | apply Kd.R_alloc | apply Kd.R_drewN | apply Kd.R_drew)); exact Kd.R_mono HO154.out (fun _ hk => ⟨hk.1.1.1.1.2, ⟨hk.1.1.1.2, ⟨hk.1.1.2, ⟨hk.1.2, hk.2⟩⟩⟩⟩))); (case aS => exact (below_size (by repeat (first | (with_reducible first | exact HB.out | apply below_alloc | apply pw_below_drewN | apply below_drew1) | exact HB.out)))); (case aL => have := LMc28.out; omega); intro v156 w40 ho hb hg hat; rw [← Ny155.out] at ho; have n0_ := Aside0.mk (Kd.R_after (ok := (fun k_ => some k_ ≠ (.slice Ao32 t140.length co32 : Value).ownBlock ∧ some k_ ≠ (.slice Ao34 t143.length co34 : Value).ownBlock ∧ some k_ ≠ (.slice Ao36 t146.length co36 : Value).ownBlock ∧ some k_ ≠ (.slice Ao38 t149.length co38 : Value).ownBlock)) (by (with_reducible repeat (first | apply Kd.R_alloc | apply Kd.R_drewN | apply Kd.R_drew)); exact Kd.R_mono HO139.out (fun _ hk => ⟨⟨hk.1.1.1.1.2, ⟨hk.1.1.1.2, ⟨hk.1.1.2, hk.1.2⟩⟩⟩, hk.2⟩)) hg hat); have n1_ := Aside0.mk (Kd.R_after (ok := (fun k_ => some k_ ≠ (.slice Ao30 t137.length co30 : Value).ownBlock ∧ some k_ ≠ (.slice Ao34 t143.length co34 : Value).ownBlock ∧ some k_ ≠ (.slice Ao36 t146.length co36 : Value).ownBlock ∧ some k_ ≠ (.slice Ao38 t149.length co38 : Value).ownBlock)) (by (with_reducible repeat (first | apply Kd.R_alloc | apply Kd.R_drewN | apply Kd.R_drew)); exact Kd.R_mono HO142.out (fun _ hk => ⟨⟨hk.1.1.1.1.2, ⟨hk.1.1.1.2, ⟨hk.1.1.2, hk.1.2⟩⟩⟩, hk.2⟩)) hg hat); have n2_ := Aside0.mk (Kd.R_after (ok := (fun k_ => some k_ ≠ (.slice Ao30 t137.length co30 : Value).ownBlock ∧ some k_ ≠ (.slice Ao32 t140.length co32 : Value).ownBlock ∧ some k_ ≠ (.slice Ao36 t146.length co36 : Value).ownBlock ∧ some k_ ≠ (.slice Ao38 t149.length co38 : Value).ownBlock)) (by (with_reducible repeat (first | apply Kd.R_alloc | apply Kd.R_drewN | apply Kd.R_drew)); exact Kd.R_mono HO145.out (fun _ hk => ⟨⟨hk.1.1.1.1.2, ⟨hk.1.1.1.2, ⟨hk.1.1.2, hk.1.2⟩⟩⟩, hk.2⟩)) hg hat); have n3_ := Aside0.mk (Kd.R_after (ok := (fun k_ => some k_ ≠ (.slice Ao30 t137.length co30 : Value).ownBlock ∧ some k_ ≠ (.slice Ao32 t140.length co32 : Value).ownBlock ∧ some k_ ≠ (.slice Ao34 t143.length co34 : Value).ownBlock ∧ some k_ ≠ (.slice Ao38 t149.length co38 : Value).ownBlock)) (by (with_reducible repeat (first | apply Kd.R_alloc | apply Kd.R_drewN | apply Kd.R_drew)); exact Kd.R_mono HO148.out (fun _ hk => ⟨⟨hk.1.1.1.1.2, ⟨hk.1.1.1.2, ⟨hk.1.1.2, hk.1.2⟩⟩⟩, hk.2⟩)) hg hat); have n4_ := Aside0.mk (Kd.R_after (ok := (fun k_ => some k_ ≠ (.slice Ao30 t137.length co30 : Value).ownBlock ∧ some k_ ≠ (.slice Ao32 t140.length co32 : Value).ownBlock ∧ some k_ ≠ (.slice Ao34 t143.length co34 : Value).ownBlock ∧ some k_ ≠ (.slice Ao36 t146.length co36 : Value).ownBlock)) (by (with_reducible repeat (first | apply Kd.R_alloc | apply Kd.R_drewN | apply Kd.R_drew)); exact Kd.R_mono HO151.out (fun _ hk => ⟨⟨hk.1.1.1.1.2, ⟨hk.1.1.1.2, ⟨hk.1.1.2, hk.1.2⟩⟩⟩, hk.2⟩)) hg hat); have n5_ := Aside0.mk (hb); have n6_ := Aside0.mk (ho); clear HO139; clear HO142; clear HO145; clear HO148; clear HO151; clear HB; clear HO154; have HO139 := n0_; have HO142 := n1_; have HO145 := n2_; have HO148 := n3_; have HO151 := n4_; have HB := n5_; have HO157 := n6_; clear n0_ n1_ n2_ n3_ n4_ n5_ n6_; clear ho hb hg hat))
            go_loopg [14] kj6 (fun kq v14 w' => ∃ (x14_2 : List Int), Aside0 (gazetteerref08_Seal.l0 kq x14_2 = some (r1, r2)) ∧ Aside0 (kq ≤ kj6) ∧ Aside0 (Kd.R (Kd.int .u8) 5 w' w.heap.size (fun _ => True) v14 x14_2) ∧ Aside0 (Below w.heap.size w w'))
            case atStart => exact ⟨(y155), H', ⟨Nat.le_refl _⟩, ⟨by (with_reducible repeat (first | apply Kd.R_alloc | apply Kd.R_drewN | apply Kd.R_drew)); exact Kd.R_mono HO157.out (fun _ hk => trivial)⟩, ⟨by repeat (first | (with_reducible first | exact HB.out | apply below_alloc | apply pw_below_drewN | apply below_drew1) | exact HB.out)⟩⟩
            case round =>
              clear H'
              try clear c1
              try clear c2
              try clear p2
              try clear c3
              try clear c5
              try clear c9
              try clear c11
              try clear c13
              try clear c15
              try clear c17
              try clear c18
              try clear c18b0
              try clear c18b1
              try clear c19
              try clear c19b0
              try clear c19b1
              try clear c20
              try clear c21
              try clear c21b0
              try clear c21b1
              try clear c28
              try clear c36
              try clear c37
              try clear p2
              obtain ⟨x14_2, HA, HK2, HO_14, HB⟩ := hrel
              cases gk with
              | zero => exact absurd HA.out (by simp [gazetteerref08_Seal.l0])
              | succ k2 =>
                have H := HA.out
                clear HA
                simp only [gazetteerref08_Seal.l0] at H
                by_cases c41 : (x14_2.length : Int) < 512
                · rw [if_pos c41] at H
                  have c41b0 : decide ((x14_2.length : Int) < 512) = true := decide_eq_true c41
                  have c41b1 : decide (x14_2.length < 512) = true := decide_eq_true (by omega)
                  clear c41
                  by_cases c42 : x14_2.length < 140737488355328
                  · rw [if_pos c42] at H
                    have LMc42 := Aside0.mk c42
                    clear c42
                    obtain ⟨y158, hy158⟩ : ∃ y_ : List Int, y_ = (x14_2 ++ [0]) := ⟨_, rfl⟩
                    replace H : (gazetteerref08_Seal.l0 k2 y158) = some (r1, r2) := by first | (rw [hy158]; with_reducible exact H) | (have H2_ := (Option.bind_some _ _).symm.trans H; rw [hy158]; with_reducible exact H2_) | (have H2_ := (Option.bind_some _ _).symm.trans H; with_reducible exact H2_) | with_reducible exact H | (rw [hy158]; exact H) | exact H
                    have Ny158 := Aside0.mk hy158
                    clear hy158
                    have H' := Aside0.mk H
                    clear H
                    obtain ⟨Ao43, co43, eo43⟩ := Kd.R_slice HO_14.out
                    subst eo43
                    go_wp2_with (first | ((with_reducible refine gate_builtin (b := .append) (xs := #[.tmp 78, .tmp 79]) rfl ?_); at_builtin; refine Kd.R_append (Kd.int .u8) (w0 := w) w.heap.size rfl (.tmp 78) (.tmp 79) 24 5 (.int .u8 0) 1 rfl Try.underlying24 info5 rfl (by decide) (by omega) (.slice Ao43 x14_2.length co43) x14_2 0 [.int .u8 0] (fun _ => True) (fun _ => False) rfl rfl ?aP (fun _ hk => hk.elim) ?aF ?aO ?aB ?aS ?aL ?_; (case aP => exact rfl); (case aB => exact (by repeat (first | (with_reducible first | exact HB.out | apply below_alloc | apply pw_below_drewN | apply below_drew1) | exact HB.out))); (case aF => exact (fun _ _ => trivial)); (case aO => exact (by (with_reducible repeat (first | apply Kd.R_alloc | apply Kd.R_drewN | apply Kd.R_drew)); exact HO_14.out)); (case aS => exact (below_size (by repeat (first | (with_reducible first | exact HB.out | apply below_alloc | apply pw_below_drewN | apply below_drew1) | exact HB.out)))); (case aL => have := LMc42.out; omega); intro v159 w44 ho hb hg hat; rw [← Ny158.out] at ho; have n0_ := Aside0.mk (hb); have n1_ := Aside0.mk (ho); clear HB; clear HO_14; have HB := n0_; have HO160 := n1_; clear n0_ n1_; clear ho hb hg hat))
                    go_roundg k2
                    case measure => have := HJ6.out; have := HK2.out; omega
                    case rel => exact ⟨(y158), H', ⟨by have := HJ6.out; have := HK2.out; omega⟩, ⟨by (with_reducible repeat (first | apply Kd.R_alloc | apply Kd.R_drewN | apply Kd.R_drew)); exact HO160.out⟩, ⟨by repeat (first | (with_reducible first | exact HB.out | apply below_alloc | apply pw_below_drewN | apply below_drew1) | exact HB.out)⟩⟩
                  · rw [if_neg c42] at H
                    exact absurd H (by simp)
                · rw [if_neg c41] at H
                  have c41b0 : decide ((x14_2.length : Int) < 512) = false := decide_eq_false c41
                  have c41b1 : decide (x14_2.length < 512) = false := decide_eq_false (by omega)
                  clear c41
                  simp only [Option.some.injEq, Prod.mk.injEq] at H
                  obtain ⟨rfl, rfl⟩ := H
                  obtain ⟨Ao45, co45, eo45⟩ := Kd.R_slice HO_14.out
                  subst eo45
                  go_wp2
                  go_ret2
                  exact ⟨_, by first | rfl | (simp [errW_none, errW_some] <;> rfl) | (simp [*, errW_none, errW_some] <;> rfl), by (with_reducible repeat (first | apply Kd.R_alloc | apply Kd.R_drewN | apply Kd.R_drew)); exact HO_14.out, by repeat (first | (with_reducible first | exact HB.out | apply below_alloc | apply pw_below_drewN | apply below_drew1) | exact HB.out)⟩
          · rw [if_neg c28] at H
            exact absurd H (by simp)

/-! ### gazetteerlaw09_answers: function 13 -/
def gazetteerlaw09_answers.f (k : Nat)  : Option (Bool) := (sector_Seal.f k 1 0 0 0 1 (([9] : List Int))).bind fun bt164 => (if bt164.2 = 0 then (if (bt164.1.length : Int) = 512 then (if 0 < (bt164.1.length : Int) then (if (rd bt164.1 0) = 1 then (if 16 < (bt164.1.length : Int) then (some ((rd bt164.1 16) == 9)) else (none)) else (some false)) else (none)) else (some false)) else (some false))
theorem gazetteerlaw09_answers.mono : ∀ k, LeO (gazetteerlaw09_answers.f k ) (gazetteerlaw09_answers.f (k + 1) ) := by
  intro  k
  unfold gazetteerlaw09_answers.f
  repeat' first
      | (with_reducible exact sector_Seal.mono _ _ _ _ _ _ _)
      | (with_reducible exact LeO.refl _)
      | (with_reducible exact LeO.none _)
      | (with_reducible refine LeO.ite ?_ ?_)
      | (with_reducible refine LeO.bind ?_ (fun _ => ?_))
      | exact sector_Seal.mono _ _ _ _ _ _ _
      | exact LeO.none _
      | refine LeO.ite ?_ ?_
      | refine LeO.bind ?_ (fun _ => ?_)
set_option maxHeartbeats 8000000 in
set_option maxRecDepth 100000 in
theorem gazetteerlaw09_answers.calls (k : Nat)  (r : Bool) (w : World) (h : gazetteerlaw09_answers.f k  = some r) :
    Calls Try.prog 13 #[] w fun e w' => e = .returned (.bool r) ∧ Below w.heap.size w w' := by
  have hu23 := Try.underlying23
  have HB := Aside0.mk (Below.refl w.heap.size w)
  have H : ((sector_Seal.f k 1 0 0 0 1 (([9] : List Int))).bind fun bt164 => (if bt164.2 = 0 then (if (bt164.1.length : Int) = 512 then (if 0 < (bt164.1.length : Int) then (if (rd bt164.1 0) = 1 then (if 16 < (bt164.1.length : Int) then (some ((rd bt164.1 16) == 9)) else (none)) else (some false)) else (none)) else (some false)) else (some false))) = some r := h
  clear h
  obtain ⟨y161, hy161⟩ : ∃ y_ : List Int, y_ = (([9] : List Int)) := ⟨_, rfl⟩
  replace H : ((sector_Seal.f k 1 0 0 0 1 y161).bind fun bt164 => (if bt164.2 = 0 then (if (bt164.1.length : Int) = 512 then (if 0 < (bt164.1.length : Int) then (if (rd bt164.1 0) = 1 then (if 16 < (bt164.1.length : Int) then (some ((rd bt164.1 16) == 9)) else (none)) else (some false)) else (none)) else (some false)) else (some false))) = some r := by first | (rw [hy161]; with_reducible exact H) | (have H2_ := (Option.bind_some _ _).symm.trans H; rw [hy161]; with_reducible exact H2_) | (have H2_ := (Option.bind_some _ _).symm.trans H; with_reducible exact H2_) | with_reducible exact H | (rw [hy161]; exact H) | exact H
  have Ny161 := Aside0.mk hy161
  clear hy161
  replace H := Option.bind_eq_some_iff.mp H
  obtain ⟨⟨t164, t167⟩, A10, H⟩ := H
  replace H : (if t167 = 0 then (if (t164.length : Int) = 512 then (if 0 < (t164.length : Int) then (if (rd t164 0) = 1 then (if 16 < (t164.length : Int) then (some ((rd t164 16) == 9)) else (none)) else (some false)) else (none)) else (some false)) else (some false)) = some r := H
  have A1 := Aside0.mk A10
  clear A10
  by_cases c2 : t167 = 0
  · rw [if_pos c2] at H
    have c2b0 : (t167 == 0) = true := beq_iff_eq.mpr c2
    have c2b1 : (t167 != 0) = false := bne_eq_false_iff_eq.mpr c2
    clear c2
    by_cases c3 : (t164.length : Int) = 512
    · rw [if_pos c3] at H
      have c3b0 : ((t164.length : Int) == 512) = true := beq_iff_eq.mpr c3
      have c3b1 : ((t164.length : Int) != 512) = false := bne_eq_false_iff_eq.mpr c3
      clear c3
      by_cases c4 : 0 < (t164.length : Int)
      · rw [if_pos c4] at H
        have c4b0 : decide (0 < (t164.length : Int)) = true := decide_eq_true c4
        have c4b1 : decide (0 < t164.length) = true := decide_eq_true (by omega)
        clear c4
        by_cases c5 : (rd t164 0) = 1
        · rw [if_pos c5] at H
          have c5b0 : ((rd t164 0) == 1) = true := beq_iff_eq.mpr c5
          have c5b1 : ((rd t164 0) != 1) = false := bne_eq_false_iff_eq.mpr c5
          clear c5
          by_cases c6 : 16 < (t164.length : Int)
          · rw [if_pos c6] at H
            have c6b0 : decide (16 < (t164.length : Int)) = true := decide_eq_true c6
            have c6b1 : decide (16 < t164.length) = true := decide_eq_true (by omega)
            clear c6
            obtain rfl := Option.some.inj H
            go_enter Try.func13, Try.ntmps13
            go_wp2_with (first | ((with_reducible refine gate_dst (N := 5) rfl ?_); (try (refine gate_guard (by rfl) ?_; dsimp only)); refine Kd.R_lit (Kd.int .u8) _ 5 ?hg (N := 5) ?hd (xs := ([9] : List Int)) (inner := [.int .u8 9]) (ok := fun _ => True) (okp := fun _ => True) ?hr ?hp (fun _ hk => hk) trivial (Below.refl _ _) (Nat.le_refl _) (by simp) ?_; (case hd => rfl); (case hg => rfl); (case hr => first | (go_simp; done) | (go_simp; rfl)); (case hp => exact (Reps.one (show Kd.M (Kd.int .u8) _ _ _ 9 [.int .u8 9] from rfl) (Reps.none _ _))); intro v162 w7 ho8 hb hg_ hnew_; clear hg_ hnew_; (first | rw [← Ny161.out] at ho8 | (simp only [Int.reduceToNat] at ho8; rw [← Ny161.out] at ho8)); have n0_ := Aside0.mk (Kd.R_lower ho8 (below_size (by repeat (first | (with_reducible first | exact HB.out | apply below_alloc | apply pw_below_drewN | apply below_drew1) | exact HB.out)))); have n1_ := Aside0.mk (below_step (by repeat (first | (with_reducible first | exact HB.out | apply below_alloc | apply pw_below_drewN | apply below_drew1) | exact HB.out)) hb); clear HB; have HO163 := n0_; have HB := n1_; clear n0_ n1_; clear hb ho8; obtain ⟨Ao9, co9, eo9⟩ := Kd.R_slice HO163.out; subst eo9) | ((with_reducible refine gate_callee (f := 14) rfl ?_); refine goesL_ (some 6) rfl rfl Try.func14 (by kernel_rfl) rfl #[.agg #[.int .i64 1, .int .i64 0, .int .i64 0, .int .i64 0, .int .i64 1], .slice Ao9 y161.length co9] rfl (by (try simp only [List.map_toArray, List.map_cons, List.map_nil]); first | done | rfl | (simp only [List.length_drop, List.length_take]; rfl)) ?_; (with_reducible refine (sector_Seal.calls k 1 0 0 0 1 _ _ y161 t164 t167 _ ?side1 ?side2 A1.out).mono ?_); (case side1 => repeat (first | exact (Kd.R_reads' HO163.out).2.2 | (with_reducible refine Kd.C_alloc ?_ _) | (with_reducible refine Kd.C_drewN ?_ _) | (with_reducible refine Kd.C_drew ?_))); (case side2 => exact (Kd.R_reads' HO163.out).2.1); rintro e w10 ⟨v165, rfl, ho0, hb⟩; refine ⟨_, rfl, ?_⟩; have n0_ := Aside0.mk (Kd.R_elder' (by (with_reducible repeat (first | apply Kd.R_alloc | apply Kd.R_drewN | apply Kd.R_drew)); exact HO163.out) (Kd.R_base ho0) hb); have n1_ := Aside0.mk (Kd.R_lower (Kd.R_new' ho0 (Kd.R_lt (by (with_reducible repeat (first | apply Kd.R_alloc | apply Kd.R_drewN | apply Kd.R_drew)); exact HO163.out))) (below_size (by repeat (first | (with_reducible first | exact HB.out | apply below_alloc | apply pw_below_drewN | apply below_drew1) | exact HB.out)))); have n2_ := Aside0.mk (below_step (by repeat (first | (with_reducible first | exact HB.out | apply below_alloc | apply pw_below_drewN | apply below_drew1) | exact HB.out)) hb); clear HO163; clear HB; have HO163 := n0_; have HO166 := n1_; have HB := n2_; clear n0_ n1_ n2_; (try clear hb); (try clear hb2); (try clear hk); (try clear hi); (try clear ho0); obtain ⟨Ao11, co11, eo11⟩ := Kd.R_slice HO166.out; subst eo11; have p168 : 0 ≤ (0 : Int) := (by omega); have q168 : 0 < (t164.length : Int) := of_decide_eq_true (by first | (with_reducible assumption) | assumption); obtain ⟨ad168, e168, hx168_0⟩ := Kd.at_int (Kd.R_reads' HO166.out).2.2 0 p168 q168; cases e168; have qi168 : (0 < t164.length) = True := eq_true (by omega); (try rw [show ((0 : Int)).toNat = 0 from rfl] at hx168_0); (try rw [Addr.add_zero'] at hx168_0); replace p168 := eq_true p168; replace q168 := eq_true q168; have p169 : 0 ≤ (16 : Int) := (by omega); have q169 : 16 < (t164.length : Int) := of_decide_eq_true (by first | (with_reducible assumption) | assumption); obtain ⟨ad169, e169, hx169_0⟩ := Kd.at_int (Kd.R_reads' HO166.out).2.2 16 p169 q169; obtain rfl : ad168 = ad169 := (by injection e169); (try simp only [show (16 : Int).toNat = 16 from rfl, Nat.reduceMul, Nat.reduceEqDiff, Go.Addr.add, ↓reduceIte] at hx169_0); have qi169 : (16 < t164.length) = True := eq_true (by omega); (try rw [show ((16 : Int)).toNat = 16 from rfl] at hx169_0); replace p169 := eq_true p169; replace q169 := eq_true q169))
            go_ret
            exact ⟨by first | rfl | (simp [errW_none, errW_some] <;> rfl) | (simp [*, errW_none, errW_some] <;> rfl), by repeat (first | (with_reducible first | exact HB.out | apply below_alloc | apply pw_below_drewN | apply below_drew1) | exact HB.out)⟩
          · rw [if_neg c6] at H
            exact absurd H (by simp)
        · rw [if_neg c5] at H
          have c5b0 : ((rd t164 0) == 1) = false := beq_eq_false_iff_ne.mpr c5
          have c5b1 : ((rd t164 0) != 1) = true := bne_iff_ne.mpr c5
          obtain rfl := Option.some.inj H
          go_enter Try.func13, Try.ntmps13
          go_wp2_with (first | ((with_reducible refine gate_dst (N := 5) rfl ?_); (try (refine gate_guard (by rfl) ?_; dsimp only)); refine Kd.R_lit (Kd.int .u8) _ 5 ?hg (N := 5) ?hd (xs := ([9] : List Int)) (inner := [.int .u8 9]) (ok := fun _ => True) (okp := fun _ => True) ?hr ?hp (fun _ hk => hk) trivial (Below.refl _ _) (Nat.le_refl _) (by simp) ?_; (case hd => rfl); (case hg => rfl); (case hr => first | (go_simp; done) | (go_simp; rfl)); (case hp => exact (Reps.one (show Kd.M (Kd.int .u8) _ _ _ 9 [.int .u8 9] from rfl) (Reps.none _ _))); intro v162 w12 ho13 hb hg_ hnew_; clear hg_ hnew_; (first | rw [← Ny161.out] at ho13 | (simp only [Int.reduceToNat] at ho13; rw [← Ny161.out] at ho13)); have n0_ := Aside0.mk (Kd.R_lower ho13 (below_size (by repeat (first | (with_reducible first | exact HB.out | apply below_alloc | apply pw_below_drewN | apply below_drew1) | exact HB.out)))); have n1_ := Aside0.mk (below_step (by repeat (first | (with_reducible first | exact HB.out | apply below_alloc | apply pw_below_drewN | apply below_drew1) | exact HB.out)) hb); clear HB; have HO163 := n0_; have HB := n1_; clear n0_ n1_; clear hb ho13; obtain ⟨Ao14, co14, eo14⟩ := Kd.R_slice HO163.out; subst eo14) | ((with_reducible refine gate_callee (f := 14) rfl ?_); refine goesL_ (some 6) rfl rfl Try.func14 (by kernel_rfl) rfl #[.agg #[.int .i64 1, .int .i64 0, .int .i64 0, .int .i64 0, .int .i64 1], .slice Ao14 y161.length co14] rfl (by (try simp only [List.map_toArray, List.map_cons, List.map_nil]); first | done | rfl | (simp only [List.length_drop, List.length_take]; rfl)) ?_; (with_reducible refine (sector_Seal.calls k 1 0 0 0 1 _ _ y161 t164 t167 _ ?side1 ?side2 A1.out).mono ?_); (case side1 => repeat (first | exact (Kd.R_reads' HO163.out).2.2 | (with_reducible refine Kd.C_alloc ?_ _) | (with_reducible refine Kd.C_drewN ?_ _) | (with_reducible refine Kd.C_drew ?_))); (case side2 => exact (Kd.R_reads' HO163.out).2.1); rintro e w15 ⟨v165, rfl, ho0, hb⟩; refine ⟨_, rfl, ?_⟩; have n0_ := Aside0.mk (Kd.R_elder' (by (with_reducible repeat (first | apply Kd.R_alloc | apply Kd.R_drewN | apply Kd.R_drew)); exact HO163.out) (Kd.R_base ho0) hb); have n1_ := Aside0.mk (Kd.R_lower (Kd.R_new' ho0 (Kd.R_lt (by (with_reducible repeat (first | apply Kd.R_alloc | apply Kd.R_drewN | apply Kd.R_drew)); exact HO163.out))) (below_size (by repeat (first | (with_reducible first | exact HB.out | apply below_alloc | apply pw_below_drewN | apply below_drew1) | exact HB.out)))); have n2_ := Aside0.mk (below_step (by repeat (first | (with_reducible first | exact HB.out | apply below_alloc | apply pw_below_drewN | apply below_drew1) | exact HB.out)) hb); clear HO163; clear HB; have HO163 := n0_; have HO166 := n1_; have HB := n2_; clear n0_ n1_ n2_; (try clear hb); (try clear hb2); (try clear hk); (try clear hi); (try clear ho0); obtain ⟨Ao16, co16, eo16⟩ := Kd.R_slice HO166.out; subst eo16; have p168 : 0 ≤ (0 : Int) := (by omega); have q168 : 0 < (t164.length : Int) := of_decide_eq_true (by first | (with_reducible assumption) | assumption); obtain ⟨ad168, e168, hx168_0⟩ := Kd.at_int (Kd.R_reads' HO166.out).2.2 0 p168 q168; cases e168; have qi168 : (0 < t164.length) = True := eq_true (by omega); (try rw [show ((0 : Int)).toNat = 0 from rfl] at hx168_0); (try rw [Addr.add_zero'] at hx168_0); replace p168 := eq_true p168; replace q168 := eq_true q168))
          go_ret
          exact ⟨by first | rfl | (simp [errW_none, errW_some] <;> rfl) | (simp [*, errW_none, errW_some] <;> rfl), by repeat (first | (with_reducible first | exact HB.out | apply below_alloc | apply pw_below_drewN | apply below_drew1) | exact HB.out)⟩
      · rw [if_neg c4] at H
        exact absurd H (by simp)
    · rw [if_neg c3] at H
      have c3b0 : ((t164.length : Int) == 512) = false := beq_eq_false_iff_ne.mpr c3
      have c3b1 : ((t164.length : Int) != 512) = true := bne_iff_ne.mpr c3
      obtain rfl := Option.some.inj H
      go_enter Try.func13, Try.ntmps13
      go_wp2_with (first | ((with_reducible refine gate_dst (N := 5) rfl ?_); (try (refine gate_guard (by rfl) ?_; dsimp only)); refine Kd.R_lit (Kd.int .u8) _ 5 ?hg (N := 5) ?hd (xs := ([9] : List Int)) (inner := [.int .u8 9]) (ok := fun _ => True) (okp := fun _ => True) ?hr ?hp (fun _ hk => hk) trivial (Below.refl _ _) (Nat.le_refl _) (by simp) ?_; (case hd => rfl); (case hg => rfl); (case hr => first | (go_simp; done) | (go_simp; rfl)); (case hp => exact (Reps.one (show Kd.M (Kd.int .u8) _ _ _ 9 [.int .u8 9] from rfl) (Reps.none _ _))); intro v162 w17 ho18 hb hg_ hnew_; clear hg_ hnew_; (first | rw [← Ny161.out] at ho18 | (simp only [Int.reduceToNat] at ho18; rw [← Ny161.out] at ho18)); have n0_ := Aside0.mk (Kd.R_lower ho18 (below_size (by repeat (first | (with_reducible first | exact HB.out | apply below_alloc | apply pw_below_drewN | apply below_drew1) | exact HB.out)))); have n1_ := Aside0.mk (below_step (by repeat (first | (with_reducible first | exact HB.out | apply below_alloc | apply pw_below_drewN | apply below_drew1) | exact HB.out)) hb); clear HB; have HO163 := n0_; have HB := n1_; clear n0_ n1_; clear hb ho18; obtain ⟨Ao19, co19, eo19⟩ := Kd.R_slice HO163.out; subst eo19) | ((with_reducible refine gate_callee (f := 14) rfl ?_); refine goesL_ (some 6) rfl rfl Try.func14 (by kernel_rfl) rfl #[.agg #[.int .i64 1, .int .i64 0, .int .i64 0, .int .i64 0, .int .i64 1], .slice Ao19 y161.length co19] rfl (by (try simp only [List.map_toArray, List.map_cons, List.map_nil]); first | done | rfl | (simp only [List.length_drop, List.length_take]; rfl)) ?_; (with_reducible refine (sector_Seal.calls k 1 0 0 0 1 _ _ y161 t164 t167 _ ?side1 ?side2 A1.out).mono ?_); (case side1 => repeat (first | exact (Kd.R_reads' HO163.out).2.2 | (with_reducible refine Kd.C_alloc ?_ _) | (with_reducible refine Kd.C_drewN ?_ _) | (with_reducible refine Kd.C_drew ?_))); (case side2 => exact (Kd.R_reads' HO163.out).2.1); rintro e w20 ⟨v165, rfl, ho0, hb⟩; refine ⟨_, rfl, ?_⟩; have n0_ := Aside0.mk (Kd.R_elder' (by (with_reducible repeat (first | apply Kd.R_alloc | apply Kd.R_drewN | apply Kd.R_drew)); exact HO163.out) (Kd.R_base ho0) hb); have n1_ := Aside0.mk (Kd.R_lower (Kd.R_new' ho0 (Kd.R_lt (by (with_reducible repeat (first | apply Kd.R_alloc | apply Kd.R_drewN | apply Kd.R_drew)); exact HO163.out))) (below_size (by repeat (first | (with_reducible first | exact HB.out | apply below_alloc | apply pw_below_drewN | apply below_drew1) | exact HB.out)))); have n2_ := Aside0.mk (below_step (by repeat (first | (with_reducible first | exact HB.out | apply below_alloc | apply pw_below_drewN | apply below_drew1) | exact HB.out)) hb); clear HO163; clear HB; have HO163 := n0_; have HO166 := n1_; have HB := n2_; clear n0_ n1_ n2_; (try clear hb); (try clear hb2); (try clear hk); (try clear hi); (try clear ho0); obtain ⟨Ao21, co21, eo21⟩ := Kd.R_slice HO166.out; subst eo21))
      go_ret
      exact ⟨by first | rfl | (simp [errW_none, errW_some] <;> rfl) | (simp [*, errW_none, errW_some] <;> rfl), by repeat (first | (with_reducible first | exact HB.out | apply below_alloc | apply pw_below_drewN | apply below_drew1) | exact HB.out)⟩
  · rw [if_neg c2] at H
    have c2b0 : (t167 == 0) = false := beq_eq_false_iff_ne.mpr c2
    have c2b1 : (t167 != 0) = true := bne_iff_ne.mpr c2
    obtain rfl := Option.some.inj H
    go_enter Try.func13, Try.ntmps13
    go_wp2_with (first | ((with_reducible refine gate_dst (N := 5) rfl ?_); (try (refine gate_guard (by rfl) ?_; dsimp only)); refine Kd.R_lit (Kd.int .u8) _ 5 ?hg (N := 5) ?hd (xs := ([9] : List Int)) (inner := [.int .u8 9]) (ok := fun _ => True) (okp := fun _ => True) ?hr ?hp (fun _ hk => hk) trivial (Below.refl _ _) (Nat.le_refl _) (by simp) ?_; (case hd => rfl); (case hg => rfl); (case hr => first | (go_simp; done) | (go_simp; rfl)); (case hp => exact (Reps.one (show Kd.M (Kd.int .u8) _ _ _ 9 [.int .u8 9] from rfl) (Reps.none _ _))); intro v162 w22 ho23 hb hg_ hnew_; clear hg_ hnew_; (first | rw [← Ny161.out] at ho23 | (simp only [Int.reduceToNat] at ho23; rw [← Ny161.out] at ho23)); have n0_ := Aside0.mk (Kd.R_lower ho23 (below_size (by repeat (first | (with_reducible first | exact HB.out | apply below_alloc | apply pw_below_drewN | apply below_drew1) | exact HB.out)))); have n1_ := Aside0.mk (below_step (by repeat (first | (with_reducible first | exact HB.out | apply below_alloc | apply pw_below_drewN | apply below_drew1) | exact HB.out)) hb); clear HB; have HO163 := n0_; have HB := n1_; clear n0_ n1_; clear hb ho23; obtain ⟨Ao24, co24, eo24⟩ := Kd.R_slice HO163.out; subst eo24) | ((with_reducible refine gate_callee (f := 14) rfl ?_); refine goesL_ (some 6) rfl rfl Try.func14 (by kernel_rfl) rfl #[.agg #[.int .i64 1, .int .i64 0, .int .i64 0, .int .i64 0, .int .i64 1], .slice Ao24 y161.length co24] rfl (by (try simp only [List.map_toArray, List.map_cons, List.map_nil]); first | done | rfl | (simp only [List.length_drop, List.length_take]; rfl)) ?_; (with_reducible refine (sector_Seal.calls k 1 0 0 0 1 _ _ y161 t164 t167 _ ?side1 ?side2 A1.out).mono ?_); (case side1 => repeat (first | exact (Kd.R_reads' HO163.out).2.2 | (with_reducible refine Kd.C_alloc ?_ _) | (with_reducible refine Kd.C_drewN ?_ _) | (with_reducible refine Kd.C_drew ?_))); (case side2 => exact (Kd.R_reads' HO163.out).2.1); rintro e w25 ⟨v165, rfl, ho0, hb⟩; refine ⟨_, rfl, ?_⟩; have n0_ := Aside0.mk (Kd.R_elder' (by (with_reducible repeat (first | apply Kd.R_alloc | apply Kd.R_drewN | apply Kd.R_drew)); exact HO163.out) (Kd.R_base ho0) hb); have n1_ := Aside0.mk (Kd.R_lower (Kd.R_new' ho0 (Kd.R_lt (by (with_reducible repeat (first | apply Kd.R_alloc | apply Kd.R_drewN | apply Kd.R_drew)); exact HO163.out))) (below_size (by repeat (first | (with_reducible first | exact HB.out | apply below_alloc | apply pw_below_drewN | apply below_drew1) | exact HB.out)))); have n2_ := Aside0.mk (below_step (by repeat (first | (with_reducible first | exact HB.out | apply below_alloc | apply pw_below_drewN | apply below_drew1) | exact HB.out)) hb); clear HO163; clear HB; have HO163 := n0_; have HO166 := n1_; have HB := n2_; clear n0_ n1_ n2_; (try clear hb); (try clear hb2); (try clear hk); (try clear hi); (try clear ho0)))
    go_ret
    exact ⟨by first | rfl | (simp [errW_none, errW_some] <;> rfl) | (simp [*, errW_none, errW_some] <;> rfl), by repeat (first | (with_reducible first | exact HB.out | apply below_alloc | apply pw_below_drewN | apply below_drew1) | exact HB.out)⟩

/-- THE ONE PURE STATEMENT of gazetteerlaw09_answers: yours. -/
def gazetteerlaw09_answers.Pure : Prop := ∃ k, gazetteerlaw09_answers.f k  = some true
theorem gazetteerlaw09_answers.walk (P : gazetteerlaw09_answers.Pure)  (w : World)  :
    Calls Try.prog 13 #[] w fun e w' => e = .returned (.bool true) ∧ Below w.heap.size w w' := by
  obtain ⟨k, h⟩ := P  
  refine (gazetteerlaw09_answers.calls k  true w h).mono ?_
  rintro e w' ⟨rfl, hd⟩
  exact ⟨rfl, hd⟩

end Go.Proofs.Ytahnncccdlblgaa.BSec
