-- Written by a program of this session (wip/given.py) for this claim.
import Derived.Test.YtaappkompmdjnaaHPickFairx0
import Derived.Test.YtaappkompmdjnaaHPickFairx1
namespace Go.Proofs.Ytaappkompmdjnaa.HPickFair
open Go.RowKit Go.Proofs.Ytaappkompmdjnaa.BPick Go.Proofs.YtaappkompmdjnaaW.PrintWords Go.Proofs.YtaappkompmdjnaaW.PrintLast Go.Proofs.YtaappkompmdjnaaW.PrintMore
attribute [local go_sem] max2_int min2_int max_two min_two max_three min_three max_four min_four   -- for this text's walks alone
set_option linter.unusedVariables false
set_option linter.unusedSimpArgs false

/-! ### gazetteerlaw19_PickFair: function 13 -/
mutual
def gazetteerlaw19_PickFair.l0 : Nat → List Int → Int → Int → List (S42) → Int → Option (Bool)
  | 0, _, _, _, _, _ => none
  | k + 1, x2, x7, x8, x9, x10 => if x10 < x7 then (if x9.length < 3518437208883 then (gazetteerlaw19_PickFair.l0 k x2 x7 x8 (x9 ++ [(⟨(([(x10) % 256] : List Int)), 0, false⟩ : S42)]) (wrap64 (x10 + 1))) else (none)) else ((gazetteerlaw19_answers.f).bind fun t111 => (if t111 = true then (gazetteerlaw19_PickFair.j1 k x2 x7 x8 x9 (decide ((x2.length : Int) > 200))) else (gazetteerlaw19_PickFair.j1 k x2 x7 x8 x9 true)))
def gazetteerlaw19_PickFair.j1 : Nat → List Int → Int → Int → List (S42) → Bool → Option (Bool)
  | 0, _, _, _, _, _ => none
  | k + 1, x2, x7, x8, x9, x41 => if x41 = true then ((gazetteerlaw19_answers.f).bind fun t112 => (some t112)) else (gazetteerlaw19_PickFair.l1 k x2 x7 x8 x9 0)
def gazetteerlaw19_PickFair.l1 : Nat → List Int → Int → Int → List (S42) → Int → Option (Bool)
  | 0, _, _, _, _, _ => none
  | k + 1, x2, x7, x8, x9, x11 => if x11 < (x2.length : Int) then ((G.gazetteerlaw19_own.f x9).bind fun t113 => (if 0 ≤ x11 then ((G.pick_Next.f t113 x8 (wrap64 (rd x2 x11))).bind fun t117 => (if ((t117 == (-1)) != (decide (x11 ≥ (wrap64 (x7 * x8))))) = true then (gazetteerlaw19_PickFair.j3 k x2 x7 x8 x9 x11 t117 true) else (gazetteerlaw19_PickFair.j3 k x2 x7 x8 x9 x11 t117 (decide (t117 ≥ x7))))) else (none))) else (some true)
def gazetteerlaw19_PickFair.j3 : Nat → List Int → Int → Int → List (S42) → Int → Int → Bool → Option (Bool)
  | 0, _, _, _, _, _, _, _ => none
  | k + 1, x2, x7, x8, x9, x11, x12, x70 => if x70 = true then (some false) else (if x12 = (-1) then (some true) else ((G.pick_Note.f x9 (([(x12) % 256] : List Int)) false).bind fun t121 => (gazetteerlaw19_PickFair.l2 k x2 x7 x8 t121 x11 0)))
def gazetteerlaw19_PickFair.l2 : Nat → List Int → Int → Int → List (S42) → Int → Int → Option (Bool)
  | 0, _, _, _, _, _, _ => none
  | k + 1, x2, x7, x8, x9, x11, x13 => if x13 < x7 then (gazetteerlaw19_PickFair.l3 k x2 x7 x8 x9 x11 x13 0) else (gazetteerlaw19_PickFair.l1 k x2 x7 x8 x9 (wrap64 (x11 + 1)))
def gazetteerlaw19_PickFair.l3 : Nat → List Int → Int → Int → List (S42) → Int → Int → Int → Option (Bool)
  | 0, _, _, _, _, _, _, _ => none
  | k + 1, x2, x7, x8, x9, x11, x13, x14 => if x14 < x7 then (if 0 ≤ x13 then (if x13 < (x9.length : Int) then (if 0 ≤ x14 then (if x14 < (x9.length : Int) then (if ((rd_T42 x9 x13).f1) > (wrap64 (((rd_T42 x9 x14).f1) + 1)) then (some false) else (if ((rd_T42 x9 x13).f1) > x8 then (some false) else (gazetteerlaw19_PickFair.l3 k x2 x7 x8 x9 x11 x13 (wrap64 (x14 + 1))))) else (none)) else (none)) else (none)) else (none)) else (gazetteerlaw19_PickFair.l2 k x2 x7 x8 x9 x11 (wrap64 (x13 + 1)))
end
def gazetteerlaw19_PickFair.f (k : Nat) (a0 : Int) (a1 : Int) (l2 : List Int) : Option (Bool) := gazetteerlaw19_PickFair.l0 k l2 (wrap64 ((wrap64 (Int.tmod a0 9)) + 1)) (wrap64 ((wrap64 (Int.tmod a1 5)) + 1)) ([] : List (S42)) 0
theorem gazetteerlaw19_PickFair.mono_l : ∀ k, (∀ y0 y1 y2 y3 y4, LeO (gazetteerlaw19_PickFair.l0 k y0 y1 y2 y3 y4) (gazetteerlaw19_PickFair.l0 (k + 1) y0 y1 y2 y3 y4)) ∧ (∀ y0 y1 y2 y3 y4, LeO (gazetteerlaw19_PickFair.j1 k y0 y1 y2 y3 y4) (gazetteerlaw19_PickFair.j1 (k + 1) y0 y1 y2 y3 y4)) ∧ (∀ y0 y1 y2 y3 y4, LeO (gazetteerlaw19_PickFair.l1 k y0 y1 y2 y3 y4) (gazetteerlaw19_PickFair.l1 (k + 1) y0 y1 y2 y3 y4)) ∧ (∀ y0 y1 y2 y3 y4 y5 y6, LeO (gazetteerlaw19_PickFair.j3 k y0 y1 y2 y3 y4 y5 y6) (gazetteerlaw19_PickFair.j3 (k + 1) y0 y1 y2 y3 y4 y5 y6)) ∧ (∀ y0 y1 y2 y3 y4 y5, LeO (gazetteerlaw19_PickFair.l2 k y0 y1 y2 y3 y4 y5) (gazetteerlaw19_PickFair.l2 (k + 1) y0 y1 y2 y3 y4 y5)) ∧ (∀ y0 y1 y2 y3 y4 y5 y6, LeO (gazetteerlaw19_PickFair.l3 k y0 y1 y2 y3 y4 y5 y6) (gazetteerlaw19_PickFair.l3 (k + 1) y0 y1 y2 y3 y4 y5 y6))
  | 0 => ⟨fun _ _ _ _ _ r h => by simp [gazetteerlaw19_PickFair.l0] at h, fun _ _ _ _ _ r h => by simp [gazetteerlaw19_PickFair.j1] at h, fun _ _ _ _ _ r h => by simp [gazetteerlaw19_PickFair.l1] at h, fun _ _ _ _ _ _ _ r h => by simp [gazetteerlaw19_PickFair.j3] at h, fun _ _ _ _ _ _ r h => by simp [gazetteerlaw19_PickFair.l2] at h, fun _ _ _ _ _ _ _ r h => by simp [gazetteerlaw19_PickFair.l3] at h⟩
  | k + 1 => by
    obtain ⟨ih0, ih1, ih2, ih3, ih4, ih5⟩ := gazetteerlaw19_PickFair.mono_l k
    refine ⟨?_, ?_, ?_, ?_, ?_, ?_⟩
    · intro y0 y1 y2 y3 y4
      unfold gazetteerlaw19_PickFair.l0
      repeat' first
      | (with_reducible exact ih0 _ _ _ _ _)
      | (with_reducible exact ih1 _ _ _ _ _)
      | (with_reducible exact ih2 _ _ _ _ _)
      | (with_reducible exact ih3 _ _ _ _ _ _ _)
      | (with_reducible exact ih4 _ _ _ _ _ _)
      | (with_reducible exact ih5 _ _ _ _ _ _ _)
      | (with_reducible exact LeO.refl _)
      | (with_reducible exact LeO.none _)
      | (with_reducible refine LeO.ite ?_ ?_)
      | (with_reducible refine LeO.bind ?_ (fun _ => ?_))
      | exact ih0 _ _ _ _ _
      | exact ih1 _ _ _ _ _
      | exact ih2 _ _ _ _ _
      | exact ih3 _ _ _ _ _ _ _
      | exact ih4 _ _ _ _ _ _
      | exact ih5 _ _ _ _ _ _ _
      | exact LeO.none _
      | refine LeO.ite ?_ ?_
      | refine LeO.bind ?_ (fun _ => ?_)
    · intro y0 y1 y2 y3 y4
      unfold gazetteerlaw19_PickFair.j1
      repeat' first
      | (with_reducible exact ih0 _ _ _ _ _)
      | (with_reducible exact ih1 _ _ _ _ _)
      | (with_reducible exact ih2 _ _ _ _ _)
      | (with_reducible exact ih3 _ _ _ _ _ _ _)
      | (with_reducible exact ih4 _ _ _ _ _ _)
      | (with_reducible exact ih5 _ _ _ _ _ _ _)
      | (with_reducible exact LeO.refl _)
      | (with_reducible exact LeO.none _)
      | (with_reducible refine LeO.ite ?_ ?_)
      | (with_reducible refine LeO.bind ?_ (fun _ => ?_))
      | exact ih0 _ _ _ _ _
      | exact ih1 _ _ _ _ _
      | exact ih2 _ _ _ _ _
      | exact ih3 _ _ _ _ _ _ _
      | exact ih4 _ _ _ _ _ _
      | exact ih5 _ _ _ _ _ _ _
      | exact LeO.none _
      | refine LeO.ite ?_ ?_
      | refine LeO.bind ?_ (fun _ => ?_)
    · intro y0 y1 y2 y3 y4
      unfold gazetteerlaw19_PickFair.l1
      repeat' first
      | (with_reducible exact ih0 _ _ _ _ _)
      | (with_reducible exact ih1 _ _ _ _ _)
      | (with_reducible exact ih2 _ _ _ _ _)
      | (with_reducible exact ih3 _ _ _ _ _ _ _)
      | (with_reducible exact ih4 _ _ _ _ _ _)
      | (with_reducible exact ih5 _ _ _ _ _ _ _)
      | (with_reducible exact LeO.refl _)
      | (with_reducible exact LeO.none _)
      | (with_reducible refine LeO.ite ?_ ?_)
      | (with_reducible refine LeO.bind ?_ (fun _ => ?_))
      | exact ih0 _ _ _ _ _
      | exact ih1 _ _ _ _ _
      | exact ih2 _ _ _ _ _
      | exact ih3 _ _ _ _ _ _ _
      | exact ih4 _ _ _ _ _ _
      | exact ih5 _ _ _ _ _ _ _
      | exact LeO.none _
      | refine LeO.ite ?_ ?_
      | refine LeO.bind ?_ (fun _ => ?_)
    · intro y0 y1 y2 y3 y4 y5 y6
      unfold gazetteerlaw19_PickFair.j3
      repeat' first
      | (with_reducible exact ih0 _ _ _ _ _)
      | (with_reducible exact ih1 _ _ _ _ _)
      | (with_reducible exact ih2 _ _ _ _ _)
      | (with_reducible exact ih3 _ _ _ _ _ _ _)
      | (with_reducible exact ih4 _ _ _ _ _ _)
      | (with_reducible exact ih5 _ _ _ _ _ _ _)
      | (with_reducible exact LeO.refl _)
      | (with_reducible exact LeO.none _)
      | (with_reducible refine LeO.ite ?_ ?_)
      | (with_reducible refine LeO.bind ?_ (fun _ => ?_))
      | exact ih0 _ _ _ _ _
      | exact ih1 _ _ _ _ _
      | exact ih2 _ _ _ _ _
      | exact ih3 _ _ _ _ _ _ _
      | exact ih4 _ _ _ _ _ _
      | exact ih5 _ _ _ _ _ _ _
      | exact LeO.none _
      | refine LeO.ite ?_ ?_
      | refine LeO.bind ?_ (fun _ => ?_)
    · intro y0 y1 y2 y3 y4 y5
      unfold gazetteerlaw19_PickFair.l2
      repeat' first
      | (with_reducible exact ih0 _ _ _ _ _)
      | (with_reducible exact ih1 _ _ _ _ _)
      | (with_reducible exact ih2 _ _ _ _ _)
      | (with_reducible exact ih3 _ _ _ _ _ _ _)
      | (with_reducible exact ih4 _ _ _ _ _ _)
      | (with_reducible exact ih5 _ _ _ _ _ _ _)
      | (with_reducible exact LeO.refl _)
      | (with_reducible exact LeO.none _)
      | (with_reducible refine LeO.ite ?_ ?_)
      | (with_reducible refine LeO.bind ?_ (fun _ => ?_))
      | exact ih0 _ _ _ _ _
      | exact ih1 _ _ _ _ _
      | exact ih2 _ _ _ _ _
      | exact ih3 _ _ _ _ _ _ _
      | exact ih4 _ _ _ _ _ _
      | exact ih5 _ _ _ _ _ _ _
      | exact LeO.none _
      | refine LeO.ite ?_ ?_
      | refine LeO.bind ?_ (fun _ => ?_)
    · intro y0 y1 y2 y3 y4 y5 y6
      unfold gazetteerlaw19_PickFair.l3
      repeat' first
      | (with_reducible exact ih0 _ _ _ _ _)
      | (with_reducible exact ih1 _ _ _ _ _)
      | (with_reducible exact ih2 _ _ _ _ _)
      | (with_reducible exact ih3 _ _ _ _ _ _ _)
      | (with_reducible exact ih4 _ _ _ _ _ _)
      | (with_reducible exact ih5 _ _ _ _ _ _ _)
      | (with_reducible exact LeO.refl _)
      | (with_reducible exact LeO.none _)
      | (with_reducible refine LeO.ite ?_ ?_)
      | (with_reducible refine LeO.bind ?_ (fun _ => ?_))
      | exact ih0 _ _ _ _ _
      | exact ih1 _ _ _ _ _
      | exact ih2 _ _ _ _ _
      | exact ih3 _ _ _ _ _ _ _
      | exact ih4 _ _ _ _ _ _
      | exact ih5 _ _ _ _ _ _ _
      | exact LeO.none _
      | refine LeO.ite ?_ ?_
      | refine LeO.bind ?_ (fun _ => ?_)
theorem gazetteerlaw19_PickFair.mono : ∀ a0 a1 a2 k, LeO (gazetteerlaw19_PickFair.f k a0 a1 a2) (gazetteerlaw19_PickFair.f (k + 1) a0 a1 a2) := by
  intro a0 a1 a2 k
  obtain ⟨ih0, ih1, ih2, ih3, ih4, ih5⟩ := gazetteerlaw19_PickFair.mono_l k
  unfold gazetteerlaw19_PickFair.f
  repeat' first
      | (with_reducible exact ih0 _ _ _ _ _)
      | (with_reducible exact ih1 _ _ _ _ _)
      | (with_reducible exact ih2 _ _ _ _ _)
      | (with_reducible exact ih3 _ _ _ _ _ _ _)
      | (with_reducible exact ih4 _ _ _ _ _ _)
      | (with_reducible exact ih5 _ _ _ _ _ _ _)
      | (with_reducible exact LeO.refl _)
      | (with_reducible exact LeO.none _)
      | (with_reducible refine LeO.ite ?_ ?_)
      | (with_reducible refine LeO.bind ?_ (fun _ => ?_))
      | exact ih0 _ _ _ _ _
      | exact ih1 _ _ _ _ _
      | exact ih2 _ _ _ _ _
      | exact ih3 _ _ _ _ _ _ _
      | exact ih4 _ _ _ _ _ _
      | exact ih5 _ _ _ _ _ _ _
      | exact LeO.none _
      | refine LeO.ite ?_ ?_
      | refine LeO.bind ?_ (fun _ => ?_)
def gazetteerlaw19_PickFair.T12 : Bool × List (List Nat × List Nat) := (true, [([], []), ([0], [0]), ([], []), ([], []), ([], []), ([3, 4], [3, 4]), ([5], [5]), ([6], [6]), ([1, 2, 7, 1], [1, 2, 7]), ([8, 8, 0, 1, 2, 3, 4, 5, 6, 7, 8], [8])])
def gazetteerlaw19_PickFair.B12 : List Nat := [0, 1, 0, 0, 0, 24, 56, 120, 255, 511]
theorem gazetteerlaw19_PickFair.tab12 : rtab .any (opsOf Try.f13 12) = gazetteerlaw19_PickFair.T12 := by kernel_rfl
theorem gazetteerlaw19_PickFair.bits12 : waitsOk gazetteerlaw19_PickFair.T12.2 gazetteerlaw19_PickFair.B12 = true := by kernel_rfl
def gazetteerlaw19_PickFair.T24 : Bool × List (List Nat × List Nat) := (true, [([], []), ([], []), ([0, 1], [0, 1]), ([2], [2]), ([3], [3]), ([], []), ([], []), ([5, 6], [5, 6]), ([7], [7]), ([8], [8]), ([9], [9]), ([4, 10], [4, 10]), ([11], [11]), ([12], [12]), ([12], [12]), ([13, 14, 12], [12, 13, 14]), ([15, 12], [12, 15]), ([16, 12], [12, 16]), ([12], [12]), ([17, 18, 12], [12, 17, 18]), ([12, 19], [12, 19])])
def gazetteerlaw19_PickFair.B24 : List Nat := [0, 0, 3, 7, 15, 0, 0, 96, 224, 480, 992, 2047, 4095, 8191, 8191, 32767, 65535, 131071, 8191, 524287, 1048575]
theorem gazetteerlaw19_PickFair.tab24 : rtab .any (opsOf Try.f13 24) = gazetteerlaw19_PickFair.T24 := by kernel_rfl
theorem gazetteerlaw19_PickFair.bits24 : waitsOk gazetteerlaw19_PickFair.T24.2 gazetteerlaw19_PickFair.B24 = true := by kernel_rfl
set_option maxHeartbeats 8000000 in
set_option maxRecDepth 100000 in
theorem gazetteerlaw19_PickFair.calls (k : Nat) (a0 : Int) (a1 : Int) (A2 : Option Addr) (c2 : Nat) (l2 : List Int) (r : Bool) (w : World) (hr2 : Kd.C (Kd.int .u16) w A2 l2.length l2) (hc2 : l2.length ≤ c2) (h : gazetteerlaw19_PickFair.f k a0 a1 l2 = some r) :
    Calls Try.prog 13 #[.int .u8 a0, .int .u8 a1, .slice A2 l2.length c2] w fun e w' => e = .returned (.bool r) ∧ Below w.heap.size w w' := by
  have hu42 := Try.underlying42
  have HR2 := Aside0.mk hr2
  have HC2 := Aside0.mk hc2
  clear hr2 hc2
  have HB := Aside0.mk (Below.refl w.heap.size w)
  have H : (gazetteerlaw19_PickFair.l0 k l2 (wrap64 ((wrap64 (Int.tmod a0 9)) + 1)) (wrap64 ((wrap64 (Int.tmod a1 5)) + 1)) ([] : List (S42)) 0) = some r := h
  clear h
  have H' := Aside0.mk H
  clear H
  go_enter Try.func13, Try.ntmps13
  go_wp2
  go_loopg [9, 10] k (fun kq v9 v10 w' => ∃ (x9_1 : List (S42)) (x10_1 : Int), v10 = .int .i64 x10_1 ∧ Aside0 (gazetteerlaw19_PickFair.l0 kq l2 (wrap64 ((wrap64 (Int.tmod a0 9)) + 1)) (wrap64 ((wrap64 (Int.tmod a1 5)) + 1)) x9_1 x10_1 = some r) ∧ Aside0 (kq ≤ k) ∧ Aside0 (Kd.S k42 42 w' w.heap.size (fun _ => True) v9 x9_1) ∧ Aside0 (Below w.heap.size w w'))
  case atStart => exact ⟨(([] : List (S42))), (0), (by first | rfl | (simp; done) | (simp [*]; done)), H', ⟨Nat.le_refl _⟩, ⟨by first | exact Kd.S_nil _ _ _ _ _ | exact Kd.N_nil _ _ _ _ _ | exact Kd.V_nil _ _ _ _ _ | exact Kd.Q_nil _ _ _ _ _ | exact Kd.R_nil _ _ _ _ _⟩, ⟨by repeat (first | (with_reducible first | exact HB.out | apply below_alloc | apply pw_below_drewN | apply below_drew1) | exact HB.out)⟩⟩
  case round =>
    clear H'
    try clear c1
    try clear c2
    try clear p2
    obtain ⟨x9_1, x10_1, rfl, HA, HK1, HO_9, HB⟩ := hrel
    cases gk with
    | zero => exact absurd HA.out (by simp [gazetteerlaw19_PickFair.l0])
    | succ k1 =>
      have H := HA.out
      clear HA
      simp only [gazetteerlaw19_PickFair.l0] at H
      by_cases c4 : x10_1 < (wrap64 ((wrap64 (Int.tmod a0 9)) + 1))
      · rw [if_pos c4] at H
        have c4b0 : decide (x10_1 < (wrap64 ((wrap64 (Int.tmod a0 9)) + 1))) = true := decide_eq_true c4
        clear c4
        obtain ⟨y105, hy105⟩ : ∃ y_ : List Int, y_ = (([(x10_1) % 256] : List Int)) := ⟨_, rfl⟩
        replace H : (if x9_1.length < 3518437208883 then (gazetteerlaw19_PickFair.l0 k1 l2 (wrap64 ((wrap64 (Int.tmod a0 9)) + 1)) (wrap64 ((wrap64 (Int.tmod a1 5)) + 1)) (x9_1 ++ [(⟨y105, 0, false⟩ : S42)]) (wrap64 (x10_1 + 1))) else (none)) = some r := by first | (rw [hy105]; with_reducible exact H) | (have H2_ := (Option.bind_some _ _).symm.trans H; rw [hy105]; with_reducible exact H2_) | (have H2_ := (Option.bind_some _ _).symm.trans H; with_reducible exact H2_) | with_reducible exact H | (rw [hy105]; exact H) | exact H
        have Ny105 := Aside0.mk hy105
        clear hy105
        by_cases c5 : x9_1.length < 3518437208883
        · rw [if_pos c5] at H
          have LMc5 := Aside0.mk c5
          clear c5
          obtain ⟨y108, hy108⟩ : ∃ y_ : List (S42), y_ = (x9_1 ++ [(⟨y105, 0, false⟩ : S42)]) := ⟨_, rfl⟩
          replace H : (gazetteerlaw19_PickFair.l0 k1 l2 (wrap64 ((wrap64 (Int.tmod a0 9)) + 1)) (wrap64 ((wrap64 (Int.tmod a1 5)) + 1)) y108 (wrap64 (x10_1 + 1))) = some r := by first | (rw [hy108]; with_reducible exact H) | (have H2_ := (Option.bind_some _ _).symm.trans H; rw [hy108]; with_reducible exact H2_) | (have H2_ := (Option.bind_some _ _).symm.trans H; with_reducible exact H2_) | with_reducible exact H | (rw [hy108]; exact H) | exact H
          have Ny108 := Aside0.mk hy108
          clear hy108
          have H' := Aside0.mk H
          clear H
          go_wp2_with (first | ((with_reducible refine gate_dst (N := 31) rfl ?_); (try (refine gate_guard (by rfl) ?_; dsimp only)); refine Kd.R_lit (Kd.int .u8) _ 5 ?hg (N := 31) ?hd (xs := ([(x10_1) % 256] : List Int)) (inner := [.int .u8 ((x10_1) % 256)]) (ok := fun _ => True) (okp := fun _ => True) ?hr ?hp (fun _ hk => hk) trivial (Below.refl _ _) (Nat.le_refl _) (by simp) ?_; (case hd => rfl); (case hg => rfl); (case hr => first | (go_simp; done) | (go_simp; rfl)); (case hp => exact (Reps.one (show Kd.M (Kd.int .u8) _ _ _ ((x10_1) % 256) [.int .u8 ((x10_1) % 256)] from rfl) (Reps.none _ _))); intro v106 w6 ho7 hb hg_ hnew_; clear hg_ hnew_; (first | rw [← Ny105.out] at ho7 | (simp only [Int.reduceToNat] at ho7; rw [← Ny105.out] at ho7)); have n0_ := Aside0.mk (Kd.S_elder' (by (with_reducible repeat (first | apply Kd.S_alloc | apply Kd.S_drewN | apply Kd.S_drew)); exact HO_9.out) (Kd.R_base ho7) hb); have n1_ := Aside0.mk (Kd.R_lower ho7 (below_size (by repeat (first | (with_reducible first | exact HB.out | apply below_alloc | apply pw_below_drewN | apply below_drew1) | exact HB.out)))); have n2_ := Aside0.mk (below_step (by repeat (first | (with_reducible first | exact HB.out | apply below_alloc | apply pw_below_drewN | apply below_drew1) | exact HB.out)) hb); clear HO_9; clear HB; have HO_9 := n0_; have HO107 := n1_; have HB := n2_; clear n0_ n1_ n2_; clear hb ho7; obtain ⟨Ao8, co8, eo8⟩ := Kd.R_slice HO107.out; subst eo8) | ((with_reducible refine gate_builtin (b := .append) (xs := #[.tmp 28, .tmp 33]) rfl ?_); (try (refine gate_guard (by rfl) ?_; dsimp only)); at_builtin; refine Kd.S_append k42 (w0 := w) w.heap.size rfl (.tmp 28) (.tmp 33) 37 42 (.agg #[(.slice none 0 0), (.int .i64 0), (.bool false)]) 40 rfl Try.underlying37 info42 rfl (by decide) (by omega) u9 x9_1 (⟨y105, 0, false⟩ : S42) [.slice Ao8 y105.length co8, .int .i64 0, .bool false] (fun _ => True) (fun k_ => some k_ = (.slice Ao8 y105.length co8 : Value).ownBlock) rfl rfl ?aP (fun k_ hk_ => ((Kd.R_mono (ok' := fun k_ => ((fun _ => True)) k_ ∧ some k_ ≠ (u9 : Value).ownBlock) (Kd.R_apart' (HO107.out) (Kd.S_typed HO_9.out) (by decide)) (fun k_ hk => ⟨trivial, hk.2⟩))).1 k_ hk_.symm) ?aF ?aO ?aB ?aS ?aL ?_; (case aP => exact k42_mkM _ _ _ (⟨y105, 0, false⟩ : S42) (Kd.R_mono (Kd.R_tight rfl (Kd.R_mono (ok' := fun k_ => ((fun _ => True)) k_ ∧ some k_ ≠ (u9 : Value).ownBlock) (Kd.R_apart' (HO107.out) (Kd.S_typed HO_9.out) (by decide)) (fun k_ hk => ⟨trivial, hk.2⟩))) (fun _ h_ => h_))); (case aB => exact (by repeat (first | (with_reducible first | exact HB.out | apply below_alloc | apply pw_below_drewN | apply below_drew1) | exact HB.out))); (case aF => exact (fun _ _ => trivial)); (case aO => exact (by (with_reducible repeat (first | apply Kd.S_alloc | apply Kd.S_drewN | apply Kd.S_drew)); exact Kd.S_mono HO_9.out (fun k_ hk => ⟨trivial, fun e_ => hk.2 e_⟩))); (case aS => exact (below_size (by repeat (first | (with_reducible first | exact HB.out | apply below_alloc | apply pw_below_drewN | apply below_drew1) | exact HB.out)))); (case aL => have := LMc5.out; omega); intro v109 w9 ho hb hg hat; rw [← Ny108.out] at ho; have n0_ := Aside0.mk (hb); have n1_ := Aside0.mk (ho); clear HB; clear HO_9; clear HO107; have HB := n0_; have HO110 := n1_; clear n0_ n1_; clear ho hb hg hat))
          go_roundg k1
          case measure => have := HK1.out; omega
          case rel => exact ⟨(y108), (wrap64 (x10_1 + 1)), (by first | rfl | (simp; done) | (simp [*]; done)), H', ⟨by have := HK1.out; omega⟩, ⟨by (with_reducible repeat (first | apply Kd.S_alloc | apply Kd.S_drewN | apply Kd.S_drew)); exact HO110.out⟩, ⟨by repeat (first | (with_reducible first | exact HB.out | apply below_alloc | apply pw_below_drewN | apply below_drew1) | exact HB.out)⟩⟩
        · rw [if_neg c5] at H
          exact absurd H (by simp)
      · rw [if_neg c4] at H
        have c4b0 : decide (x10_1 < (wrap64 ((wrap64 (Int.tmod a0 9)) + 1))) = false := decide_eq_false c4
        clear c4
        have HC10 := Aside0.mk H
        clear H
        go_upto_region 7 with (fail)
        go_cut [41] (fun v41 wc => ∃ (kq : Nat) (x41_9 : Bool), v41 = .bool x41_9 ∧ Aside0 (gazetteerlaw19_PickFair.j1 kq l2 (wrap64 ((wrap64 (Int.tmod a0 9)) + 1)) (wrap64 ((wrap64 (Int.tmod a1 5)) + 1)) x9_1 x41_9 = some r) ∧ Aside0 (kq ≤ k1) ∧ Aside0 (Kd.S k42 42 wc w.heap.size (fun _ => True) u9 x9_1) ∧ Aside0 (Below w.heap.size w wc))
        case first =>
          have H := HC10.out
          clear HC10
          replace H := Option.bind_eq_some_iff.mp H
          obtain ⟨t111, A110, H⟩ := H
          replace H : (if t111 = true then (gazetteerlaw19_PickFair.j1 k1 l2 (wrap64 ((wrap64 (Int.tmod a0 9)) + 1)) (wrap64 ((wrap64 (Int.tmod a1 5)) + 1)) x9_1 (decide ((l2.length : Int) > 200))) else (gazetteerlaw19_PickFair.j1 k1 l2 (wrap64 ((wrap64 (Int.tmod a0 9)) + 1)) (wrap64 ((wrap64 (Int.tmod a1 5)) + 1)) x9_1 true)) = some r := H
          have A11 := Aside0.mk A110
          clear A110
          by_cases c12 : t111 = true
          · subst c12
            have H1 : (gazetteerlaw19_PickFair.j1 k1 l2 (wrap64 ((wrap64 (Int.tmod a0 9)) + 1)) (wrap64 ((wrap64 (Int.tmod a1 5)) + 1)) x9_1 (decide ((l2.length : Int) > 200))) = some r := by rw [if_pos rfl] at H; exact H
            clear H
            have H := H1
            clear H1
            have H' := Aside0.mk H
            clear H
            go_wp2_with (first | ((with_reducible refine gate_callee (f := 26) rfl ?_); refine goesL_ (some 35) rfl rfl Try.func26 (by kernel_rfl) rfl #[] rfl (by (try simp only [List.map_toArray, List.map_cons, List.map_nil]); first | done | rfl | (simp only [List.length_drop, List.length_take]; rfl)) ?_; (with_reducible refine (gazetteerlaw19_answers.calls  true _ A11.out).mono ?_); rintro e w13 ⟨rfl, hb⟩; refine ⟨_, rfl, ?_⟩; have n0_ := Aside0.mk (Kd.S_below (by (with_reducible repeat (first | apply Kd.S_alloc | apply Kd.S_drewN | apply Kd.S_drew)); exact HO_9.out) hb); have n1_ := Aside0.mk (below_step (by repeat (first | (with_reducible first | exact HB.out | apply below_alloc | apply pw_below_drewN | apply below_drew1) | exact HB.out)) hb); clear HO_9; clear HB; have HO_9 := n0_; have HB := n1_; clear n0_ n1_; (try clear hb); (try clear hb2); (try clear hk); (try clear hi)))
            go_meet
            case rel => exact ⟨_, (decide ((l2.length : Int) > 200)), (by first | rfl | (simp; done) | (simp [*]; done)), H', ⟨by have := HK1.out; first | omega | exact Nat.le_refl _⟩, ⟨by (with_reducible repeat (first | apply Kd.S_alloc | apply Kd.S_drewN | apply Kd.S_drew)); exact HO_9.out⟩, ⟨by repeat (first | (with_reducible first | exact HB.out | apply below_alloc | apply pw_below_drewN | apply below_drew1) | exact HB.out)⟩⟩
          · replace c12 := Bool.eq_false_iff.mpr c12
            subst c12
            have H1 : (gazetteerlaw19_PickFair.j1 k1 l2 (wrap64 ((wrap64 (Int.tmod a0 9)) + 1)) (wrap64 ((wrap64 (Int.tmod a1 5)) + 1)) x9_1 true) = some r := by rw [if_neg (show ¬ (false = true) by decide)] at H; exact H
            clear H
            have H := H1
            clear H1
            have H' := Aside0.mk H
            clear H
            go_wp2_with (first | ((with_reducible refine gate_callee (f := 26) rfl ?_); refine goesL_ (some 35) rfl rfl Try.func26 (by kernel_rfl) rfl #[] rfl (by (try simp only [List.map_toArray, List.map_cons, List.map_nil]); first | done | rfl | (simp only [List.length_drop, List.length_take]; rfl)) ?_; (with_reducible refine (gazetteerlaw19_answers.calls  false _ A11.out).mono ?_); rintro e w14 ⟨rfl, hb⟩; refine ⟨_, rfl, ?_⟩; have n0_ := Aside0.mk (Kd.S_below (by (with_reducible repeat (first | apply Kd.S_alloc | apply Kd.S_drewN | apply Kd.S_drew)); exact HO_9.out) hb); have n1_ := Aside0.mk (below_step (by repeat (first | (with_reducible first | exact HB.out | apply below_alloc | apply pw_below_drewN | apply below_drew1) | exact HB.out)) hb); clear HO_9; clear HB; have HO_9 := n0_; have HB := n1_; clear n0_ n1_; (try clear hb); (try clear hb2); (try clear hk); (try clear hi)))
            go_meet
            case rel => exact ⟨_, (true), (by first | rfl | (simp; done) | (simp [*]; done)), H', ⟨by have := HK1.out; first | omega | exact Nat.le_refl _⟩, ⟨by (with_reducible repeat (first | apply Kd.S_alloc | apply Kd.S_drewN | apply Kd.S_drew)); exact HO_9.out⟩, ⟨by repeat (first | (with_reducible first | exact HB.out | apply below_alloc | apply pw_below_drewN | apply below_drew1) | exact HB.out)⟩⟩
        case rest =>
          clear HC10
          try clear c1
          try clear c2
          try clear p2
          try clear c4
          try clear c4b0
          try clear c5
          try clear p6
          try clear c12
          try clear c13
          try clear p2
          obtain ⟨kq, x41_9, rfl, HA, HJ9, HO_9, HB⟩ := hcut
          cases kq with
          | zero => exact absurd HA.out (by simp [gazetteerlaw19_PickFair.j1])
          | succ kj9 =>
            have H := HA.out
            clear HA
            simp only [gazetteerlaw19_PickFair.j1] at H
            by_cases c15 : x41_9 = true
            · subst c15
              have H1 : ((gazetteerlaw19_answers.f).bind fun t112 => (some t112)) = some r := by rw [if_pos rfl] at H; exact H
              clear H
              have H := H1
              clear H1
              replace H := Option.bind_eq_some_iff.mp H
              obtain ⟨t112, A160, H⟩ := H
              replace H : (some t112) = some r := H
              have A16 := Aside0.mk A160
              clear A160
              obtain rfl := Option.some.inj H
              go_wp2_with (first | ((with_reducible refine gate_callee (f := 26) rfl ?_); refine goesL_ (some 42) rfl rfl Try.func26 (by kernel_rfl) rfl #[] rfl (by (try simp only [List.map_toArray, List.map_cons, List.map_nil]); first | done | rfl | (simp only [List.length_drop, List.length_take]; rfl)) ?_; (with_reducible refine (gazetteerlaw19_answers.calls  t112 _ A16.out).mono ?_); rintro e w17 ⟨rfl, hb⟩; refine ⟨_, rfl, ?_⟩; have n0_ := Aside0.mk (Kd.S_below (by (with_reducible repeat (first | apply Kd.S_alloc | apply Kd.S_drewN | apply Kd.S_drew)); exact HO_9.out) hb); have n1_ := Aside0.mk (below_step (by repeat (first | (with_reducible first | exact HB.out | apply below_alloc | apply pw_below_drewN | apply below_drew1) | exact HB.out)) hb); clear HO_9; clear HB; have HO_9 := n0_; have HB := n1_; clear n0_ n1_; (try clear hb); (try clear hb2); (try clear hk); (try clear hi)))
              go_ret
              exact ⟨by first | rfl | (simp [errW_none, errW_some] <;> rfl) | (simp [*, errW_none, errW_some] <;> rfl), by repeat (first | (with_reducible first | exact HB.out | apply below_alloc | apply pw_below_drewN | apply below_drew1) | exact HB.out)⟩
            · replace c15 := Bool.eq_false_iff.mpr c15
              subst c15
              have H1 : (gazetteerlaw19_PickFair.l1 kj9 l2 (wrap64 ((wrap64 (Int.tmod a0 9)) + 1)) (wrap64 ((wrap64 (Int.tmod a1 5)) + 1)) x9_1 0) = some r := by rw [if_neg (show ¬ (false = true) by decide)] at H; exact H
              clear H
              have H := H1
              clear H1
              have H' := Aside0.mk H
              clear H
              go_wp2
              go_loopg [9, 11] kj9 (fun kq v9 v11 w' => ∃ (x9_3 : List (S42)) (x11_3 : Int), v11 = .int .i64 x11_3 ∧ Aside0 (gazetteerlaw19_PickFair.l1 kq l2 (wrap64 ((wrap64 (Int.tmod a0 9)) + 1)) (wrap64 ((wrap64 (Int.tmod a1 5)) + 1)) x9_3 x11_3 = some r) ∧ Aside0 (kq ≤ kj9) ∧ Aside0 (Kd.S k42 42 w' w.heap.size (fun _ => True) v9 x9_3) ∧ Aside0 (Below w.heap.size w w'))
              case atStart => exact ⟨(x9_1), (0), (by first | rfl | (simp; done) | (simp [*]; done)), H', ⟨Nat.le_refl _⟩, ⟨by (with_reducible repeat (first | apply Kd.S_alloc | apply Kd.S_drewN | apply Kd.S_drew)); exact HO_9.out⟩, ⟨by repeat (first | (with_reducible first | exact HB.out | apply below_alloc | apply pw_below_drewN | apply below_drew1) | exact HB.out)⟩⟩
              case round =>
                clear H'
                try clear c1
                try clear c2
                try clear p2
                try clear c4
                try clear c4b0
                try clear c5
                try clear p6
                try clear c12
                try clear c13
                try clear c15
                try clear p2
                try clear p6
                obtain ⟨x9_3, x11_3, rfl, HA, HK3, HO_9, HB⟩ := hrel
                cases gk with
                | zero => exact absurd HA.out (by simp [gazetteerlaw19_PickFair.l1])
                | succ k3 =>
                  have H := HA.out
                  clear HA
                  simp only [gazetteerlaw19_PickFair.l1] at H
                  by_cases c18 : x11_3 < (l2.length : Int)
                  · rw [if_pos c18] at H
                    have c18b0 : decide (x11_3 < (l2.length : Int)) = true := decide_eq_true c18
                    clear c18
                    replace H := Option.bind_eq_some_iff.mp H
                    obtain ⟨t113, A190, H⟩ := H
                    replace H : (if 0 ≤ x11_3 then ((G.pick_Next.f t113 (wrap64 ((wrap64 (Int.tmod a1 5)) + 1)) (wrap64 (rd l2 x11_3))).bind fun t117 => (if ((t117 == (-1)) != (decide (x11_3 ≥ (wrap64 ((wrap64 ((wrap64 (Int.tmod a0 9)) + 1)) * (wrap64 ((wrap64 (Int.tmod a1 5)) + 1))))))) = true then (gazetteerlaw19_PickFair.j3 k3 l2 (wrap64 ((wrap64 (Int.tmod a0 9)) + 1)) (wrap64 ((wrap64 (Int.tmod a1 5)) + 1)) x9_3 x11_3 t117 true) else (gazetteerlaw19_PickFair.j3 k3 l2 (wrap64 ((wrap64 (Int.tmod a0 9)) + 1)) (wrap64 ((wrap64 (Int.tmod a1 5)) + 1)) x9_3 x11_3 t117 (decide (t117 ≥ (wrap64 ((wrap64 (Int.tmod a0 9)) + 1))))))) else (none)) = some r := H
                    have A19 := Aside0.mk A190
                    clear A190
                    by_cases c20 : 0 ≤ x11_3
                    · rw [if_pos c20] at H
                      have c20b0 : decide (0 ≤ x11_3) = true := decide_eq_true c20
                      clear c20
                      replace H := Option.bind_eq_some_iff.mp H
                      obtain ⟨t117, A210, H⟩ := H
                      replace H : (if ((t117 == (-1)) != (decide (x11_3 ≥ (wrap64 ((wrap64 ((wrap64 (Int.tmod a0 9)) + 1)) * (wrap64 ((wrap64 (Int.tmod a1 5)) + 1))))))) = true then (gazetteerlaw19_PickFair.j3 k3 l2 (wrap64 ((wrap64 (Int.tmod a0 9)) + 1)) (wrap64 ((wrap64 (Int.tmod a1 5)) + 1)) x9_3 x11_3 t117 true) else (gazetteerlaw19_PickFair.j3 k3 l2 (wrap64 ((wrap64 (Int.tmod a0 9)) + 1)) (wrap64 ((wrap64 (Int.tmod a1 5)) + 1)) x9_3 x11_3 t117 (decide (t117 ≥ (wrap64 ((wrap64 (Int.tmod a0 9)) + 1)))))) = some r := H
                      have A21 := Aside0.mk A210
                      clear A210
                      have HC22 := Aside0.mk H
                      clear H
                      try go_wp2
                      have n0_ := Aside0.mk (Kd.S_drew HO_9.out)
                      have n1_ := Aside0.mk (below_drew1 HB.out)
                      clear HO_9
                      clear HB
                      have HO_9 := n0_
                      have HB := n1_
                      clear n0_ n1_
                      have p116 : 0 ≤ (x11_3 : Int) := of_decide_eq_true (by first | (with_reducible assumption) | assumption)
                      have q116 : x11_3 < (l2.length : Int) := of_decide_eq_true (by first | (with_reducible assumption) | assumption)
                      obtain ⟨ad116, e116, hx116_0⟩ := Kd.at_int HR2.out x11_3 p116 q116
                      have hw116_0 := hx116_0
                      cases e116
                      replace hx116_0 := (HB.out.cell (World.block_lt_of_cell? w _ hx116_0)).trans hx116_0
                      replace p116 := eq_true p116
                      replace q116 := eq_true q116
                      obtain ⟨Ao24, co24, eo24⟩ := Kd.S_slice HO_9.out
                      (first | subst eo24 | (injection eo24 with f1_ f2_ f3_; have f4_ := f1_.symm; have f5_ := f3_.symm; clear f1_ f2_ f3_; subst f4_; subst f5_))
                      refine start_ (n := 10) (S := fun w' => w'.cell? (ad116.add (x11_3).toNat) = some (.int .u16 (rd l2 x11_3))) (ds := []) #[false, false, false, false, false, false, false, false, false, false] (by kernel_rfl) rfl rfl (((HB.out.cell (World.block_lt_of_cell? w _ hw116_0)).trans hw116_0)) (fun hHeld => ?_); refine with_tabW gazetteerlaw19_PickFair.tab12 gazetteerlaw19_PickFair.bits12 (fun HT_ HW_ => ?_)
                      generalize wr.drew = w23 at HO_9 HB hx116_0 hHeld ⊢
                      refine pure_ (i := 0) (N := some 49) (v := ?_) (a' := ?_) #[true, false, false, false, false, false, false, false, false, false] rfl rfl (any_of HT_.out (by kernel_rfl)) (fun _ _ _ h => h) (Or.inl ⟨by rfl, ?_⟩) ?_ ?_
                      rotate_left
                      · intro w'
                        go_simp
                        with_reducible rfl
                      rotate_left
                      · simp only [Act.put, List.setIfInBounds_toArray, List.set_cons_zero, List.set_cons_succ, i64_w, i32_w]
                        rfl
                      refine pure_ (i := 2) (N := some 51) (v := ?_) (a' := ?_) #[true, false, true, false, false, false, false, false, false, false] rfl rfl (any_of HT_.out (by kernel_rfl)) (fun _ _ _ h => h) (Or.inl ⟨by rfl, ?_⟩) ?_ ?_
                      rotate_left
                      · intro w'
                        go_simp
                        with_reducible rfl
                      rotate_left
                      · simp only [Act.put, List.setIfInBounds_toArray, List.set_cons_zero, List.set_cons_succ, i64_w, i32_w]
                        rfl
                      refine pure_ (i := 3) (N := some 52) (v := ?_) (a' := ?_) #[true, false, true, true, false, false, false, false, false, false] rfl rfl (any_of HT_.out (by kernel_rfl)) (fun _ _ _ h => h) (Or.inl ⟨by rfl, ?_⟩) ?_ ?_
                      rotate_left
                      · intro w'
                        go_simp
                        with_reducible rfl
                      rotate_left
                      · simp only [Act.put, List.setIfInBounds_toArray, List.set_cons_zero, List.set_cons_succ, i64_w, i32_w]
                        rfl
                      refine pure_ (i := 4) (N := some 53) (v := ?_) (a' := ?_) #[true, false, true, true, true, false, false, false, false, false] rfl rfl (any_of HT_.out (by kernel_rfl)) (fun _ _ _ h => h) (Or.inl ⟨by rfl, ?_⟩) ?_ ?_
                      rotate_left
                      · intro w'
                        go_simp
                        with_reducible rfl
                      rotate_left
                      · simp only [Act.put, List.setIfInBounds_toArray, List.set_cons_zero, List.set_cons_succ, i64_w, i32_w]
                        rfl
                      refine pure_ (i := 5) (N := some 54) (v := ?_) (a' := ?_) #[true, false, true, true, true, true, false, false, false, false] rfl rfl (any_of HT_.out (by kernel_rfl)) (fun _ _ _ h => h) (Or.inl ⟨by rfl, ?_⟩) ?_ ?_
                      rotate_left
                      · intro w'
                        go_simp
                        with_reducible rfl
                      rotate_left
                      · simp only [Act.put, List.setIfInBounds_toArray, List.set_cons_zero, List.set_cons_succ, i64_w, i32_w]
                        rfl
                      refine take_ (i := 6) (N := some 55) (v := ?_) (a' := ?_) #[true, false, true, true, true, true, true, false, false, false] rfl rfl (take_ofW HT_.out HW_.out (by kernel_rfl)) (fun _ _ _ h => h) (Or.inl ⟨by rfl, ?_⟩) hHeld ?_ ?_
                      rotate_left
                      · intro w' s0
                        go_simp
                        with_reducible rfl
                      rotate_left
                      · simp only [Act.put, List.setIfInBounds_toArray, List.set_cons_zero, List.set_cons_succ, i64_w, i32_w]
                        rfl
                      refine pure_ (i := 7) (N := some 56) (v := ?_) (a' := ?_) #[true, false, true, true, true, true, true, true, false, false] rfl rfl (any_of HT_.out (by kernel_rfl)) (fun _ _ _ h => h) (Or.inl ⟨by rfl, ?_⟩) ?_ ?_
                      rotate_left
                      · intro w'
                        go_simp
                        with_reducible rfl
                      rotate_left
                      · simp only [Act.put, List.setIfInBounds_toArray, List.set_cons_zero, List.set_cons_succ, i64_w, i32_w]
                        rfl
                      refine one_ (i := 1) (N := some 50) #[true, true, true, true, true, true, true, true, false, false] rfl rfl (one_of HT_.out (by kernel_rfl)) (by decide) (fun K hK => ?_)
                      refine goes_ Try.func28 (by kernel_rfl) rfl #[.slice Ao24 x9_3.length co24] (by rfl) rfl rfl (by (try simp only [List.map_toArray, List.map_cons, List.map_nil]); first | done | rfl | (simp only [List.length_drop, List.length_take]; rfl)) ?_
                      with_reducible refine (G.gazetteerlaw19_own.calls _ _ x9_3 t113 _ ?side1 ?side2 A19.out).mono ?_
                      (case side1 => repeat (first | exact (Kd.S_reads' HO_9.out).2.2 | (with_reducible refine Kd.C_alloc ?_ _) | (with_reducible refine Kd.C_drewN ?_ _) | (with_reducible refine Kd.C_drew ?_)))
                      (case side2 => exact (Kd.S_reads' HO_9.out).2.1)
                      rintro e w25 ⟨v114, rfl, ho0, hb⟩
                      refine ⟨_, rfl, ?_⟩
                      have n0_ := Aside0.mk (Kd.S_elder' (by (with_reducible repeat (first | apply Kd.S_alloc | apply Kd.S_drewN | apply Kd.S_drew)); exact HO_9.out) (Kd.S_base ho0) hb)
                      have n1_ := Aside0.mk (Kd.S_lower (Kd.S_new' ho0 (Kd.S_lt (by (with_reducible repeat (first | apply Kd.S_alloc | apply Kd.S_drewN | apply Kd.S_drew)); exact HO_9.out))) (below_size (by repeat (first | (with_reducible first | exact HB.out | apply below_alloc | apply pw_below_drewN | apply below_drew1) | exact HB.out))))
                      have n2_ := Aside0.mk (below_step (by repeat (first | (with_reducible first | exact HB.out | apply below_alloc | apply pw_below_drewN | apply below_drew1) | exact HB.out)) hb)
                      clear HO_9
                      clear HB
                      have HO_9 := n0_
                      have HO115 := n1_
                      have HB := n2_
                      clear n0_ n1_ n2_
                      (try clear hb)
                      (try clear hb2)
                      (try clear hk)
                      (try clear hi)
                      (try clear ho0)
                      obtain ⟨Ao26, co26, eo26⟩ := Kd.S_slice HO115.out
                      (first | subst eo26 | (injection eo26 with f1_ f2_ f3_; have f4_ := f1_.symm; have f5_ := f3_.symm; clear f1_ f2_ f3_; subst f4_; subst f5_))
                      refine hK.out _ _ (((HB.out.cell (World.block_lt_of_cell? w _ hw116_0)).trans hw116_0)) (fun hHeld => ?_)
                      clear hK K
                      refine norm_ (a' := ?_) ?_ ?_
                      rotate_left
                      · show Act.put _ (some 50) _ = _
                        simp only [Act.put, List.setIfInBounds_toArray, List.set_cons_zero, List.set_cons_succ, i64_w, i32_w]
                        rfl
                      refine one_ (i := 8) (N := some 57) #[true, true, true, true, true, true, true, true, true, false] rfl rfl (one_of HT_.out (by kernel_rfl)) (by decide) (fun K hK => ?_)
                      refine goes_ Try.func27 (by kernel_rfl) rfl #[.slice Ao26 t113.length co26, .int .i64 (wrap64 ((wrap64 (Int.tmod a1 5)) + 1)), .int .i64 (wrap64 (rd l2 x11_3))] (by rfl) rfl rfl (by (try simp only [List.map_toArray, List.map_cons, List.map_nil]); first | done | rfl | (simp only [List.length_drop, List.length_take]; rfl)) ?_
                      with_reducible refine (G.pick_Next.calls _ _ t113 (wrap64 ((wrap64 (Int.tmod a1 5)) + 1)) (wrap64 (rd l2 x11_3)) t117 _ ?side1 ?side2 A21.out).mono ?_
                      (case side1 => repeat (first | exact (Kd.S_reads' HO115.out).2.2 | (with_reducible refine Kd.C_alloc ?_ _) | (with_reducible refine Kd.C_drewN ?_ _) | (with_reducible refine Kd.C_drew ?_)))
                      (case side2 => exact (Kd.S_reads' HO115.out).2.1)
                      rintro e w27 ⟨rfl, hb⟩
                      refine ⟨_, rfl, ?_⟩
                      have n0_ := Aside0.mk (Kd.S_below (by (with_reducible repeat (first | apply Kd.S_alloc | apply Kd.S_drewN | apply Kd.S_drew)); exact HO_9.out) hb)
                      have n1_ := Aside0.mk (Kd.S_below (by (with_reducible repeat (first | apply Kd.S_alloc | apply Kd.S_drewN | apply Kd.S_drew)); exact HO115.out) hb)
                      have n2_ := Aside0.mk (below_step (by repeat (first | (with_reducible first | exact HB.out | apply below_alloc | apply pw_below_drewN | apply below_drew1) | exact HB.out)) hb)
                      clear HO_9
                      clear HO115
                      clear HB
                      have HO_9 := n0_
                      have HO115 := n1_
                      have HB := n2_
                      clear n0_ n1_ n2_
                      (try clear hb)
                      (try clear hb2)
                      (try clear hk)
                      (try clear hi)
                      refine hK.out _ _ (((HB.out.cell (World.block_lt_of_cell? w _ hw116_0)).trans hw116_0)) (fun hHeld => ?_)
                      clear hK K
                      refine norm_ (a' := ?_) ?_ ?_
                      rotate_left
                      · show Act.put _ (some 57) _ = _
                        simp only [Act.put, List.setIfInBounds_toArray, List.set_cons_zero, List.set_cons_succ, i64_w, i32_w]
                        rfl
                      refine pure_ (i := 9) (N := some 12) (v := ?_) (a' := ?_) #[true, true, true, true, true, true, true, true, true, true] rfl rfl (any_of HT_.out (by kernel_rfl)) (fun _ _ _ h => h) (Or.inl ⟨by rfl, ?_⟩) ?_ ?_
                      rotate_left
                      · intro w'
                        go_simp
                        with_reducible rfl
                      rotate_left
                      · simp only [Act.put, List.setIfInBounds_toArray, List.set_cons_zero, List.set_cons_succ, i64_w, i32_w]
                        rfl
                      refine done_ (done_of HT_.out (by kernel_rfl)) ?_
                      go_upto_region 13 with (fail)
                      go_cut [70] (fun v70 wc => ∃ (kq : Nat) (x70_21 : Bool), v70 = .bool x70_21 ∧ Aside0 (gazetteerlaw19_PickFair.j3 kq l2 (wrap64 ((wrap64 (Int.tmod a0 9)) + 1)) (wrap64 ((wrap64 (Int.tmod a1 5)) + 1)) x9_3 x11_3 t117 x70_21 = some r) ∧ Aside0 (kq ≤ k3) ∧ Aside0 (Kd.S k42 42 wc w.heap.size (fun _ => True) (.slice Ao24 x9_3.length co24) x9_3) ∧ Aside0 (Below w.heap.size w wc))
                      case first =>
                        have H := HC22.out
                        clear HC22
                        by_cases c28 : ((t117 == (-1)) != (decide (x11_3 ≥ (wrap64 ((wrap64 ((wrap64 (Int.tmod a0 9)) + 1)) * (wrap64 ((wrap64 (Int.tmod a1 5)) + 1))))))) = true
                        · rw [if_pos c28] at H
                          have c28b0 : ((t117 == (-1)) != (decide (x11_3 ≥ (wrap64 ((wrap64 ((wrap64 (Int.tmod a0 9)) + 1)) * (wrap64 ((wrap64 (Int.tmod a1 5)) + 1))))))) = true := c28
                          (try (have c28b1 : decide ((t117 == (-1)) = (decide (x11_3 ≥ (wrap64 ((wrap64 ((wrap64 (Int.tmod a0 9)) + 1)) * (wrap64 ((wrap64 (Int.tmod a1 5)) + 1))))))) = false := by simpa using c28))
                          (try (have c28b2 : ((t117 == (-1)) == (decide (x11_3 ≥ (wrap64 ((wrap64 ((wrap64 (Int.tmod a0 9)) + 1)) * (wrap64 ((wrap64 (Int.tmod a1 5)) + 1))))))) = false := by simpa using c28))
                          (try (have c28b3 : ¬ ((t117 == (-1)) = (decide (x11_3 ≥ (wrap64 ((wrap64 ((wrap64 (Int.tmod a0 9)) + 1)) * (wrap64 ((wrap64 (Int.tmod a1 5)) + 1))))))) := by simpa using c28))
                          clear c28
                          (first | rw [c28b0] | (simp only [i64_w, i32_w]; rw [c28b0]) | skip)
                          have H' := Aside0.mk H
                          clear H
                          go_wp2
                          go_meet
                          case rel => exact ⟨_, (true), (by first | rfl | (simp; done) | (simp [*]; done)), H', ⟨by have := HK1.out; have := HJ9.out; have := HK3.out; first | omega | exact Nat.le_refl _⟩, ⟨by (with_reducible repeat (first | apply Kd.S_alloc | apply Kd.S_drewN | apply Kd.S_drew)); exact Kd.S_mono HO_9.out (fun _ hk => trivial)⟩, ⟨by repeat (first | (with_reducible first | exact HB.out | apply below_alloc | apply pw_below_drewN | apply below_drew1) | exact HB.out)⟩⟩
                        · rw [if_neg c28] at H
                          have c28b0 : ((t117 == (-1)) != (decide (x11_3 ≥ (wrap64 ((wrap64 ((wrap64 (Int.tmod a0 9)) + 1)) * (wrap64 ((wrap64 (Int.tmod a1 5)) + 1))))))) = false := by simpa using c28
                          (try (have c28b1 : decide ((t117 == (-1)) = (decide (x11_3 ≥ (wrap64 ((wrap64 ((wrap64 (Int.tmod a0 9)) + 1)) * (wrap64 ((wrap64 (Int.tmod a1 5)) + 1))))))) = true := by simpa using c28))
                          (try (have c28b2 : ((t117 == (-1)) == (decide (x11_3 ≥ (wrap64 ((wrap64 ((wrap64 (Int.tmod a0 9)) + 1)) * (wrap64 ((wrap64 (Int.tmod a1 5)) + 1))))))) = true := by simpa using c28))
                          clear c28
                          (first | rw [c28b0] | (simp only [i64_w, i32_w]; rw [c28b0]) | skip)
                          have H' := Aside0.mk H
                          clear H
                          go_wp2
                          go_meet
                          case rel => exact ⟨_, (decide (t117 ≥ (wrap64 ((wrap64 (Int.tmod a0 9)) + 1)))), (by first | rfl | (simp; done) | (simp [*]; done)), H', ⟨by have := HK1.out; have := HJ9.out; have := HK3.out; first | omega | exact Nat.le_refl _⟩, ⟨by (with_reducible repeat (first | apply Kd.S_alloc | apply Kd.S_drewN | apply Kd.S_drew)); exact Kd.S_mono HO_9.out (fun _ hk => trivial)⟩, ⟨by repeat (first | (with_reducible first | exact HB.out | apply below_alloc | apply pw_below_drewN | apply below_drew1) | exact HB.out)⟩⟩
                      case rest =>
                        clear HC22
                        try clear c1
                        try clear p1
                        try clear q1
                        try clear hx1
                        try clear c2
                        try clear p2
                        try clear c4
                        try clear c4b0
                        try clear c5
                        try clear p6
                        try clear p11
                        try clear q11
                        try clear hx11
                        try clear c12
                        try clear c13
                        try clear c15
                        try clear c18
                        try clear c18b0
                        try clear c20
                        try clear c20b0
                        try clear c26
                        try clear c27
                        try clear c28
                        try clear c28b0
                        try clear c28b1
                        try clear c28b2
                        try clear hx116_0
                        try clear p116
                        try clear p2
                        try clear p6
                        try clear q116
                        obtain ⟨kq, x70_21, rfl, HA, HJ21, HO_9, HB⟩ := hcut
                        cases kq with
                        | zero => exact absurd HA.out (by simp [gazetteerlaw19_PickFair.j3])
                        | succ kj21 =>
                          have H := HA.out
                          clear HA
                          simp only [gazetteerlaw19_PickFair.j3] at H
                          by_cases c29 : x70_21 = true
                          · subst c29
                            have H1 : (some false) = some r := by rw [if_pos rfl] at H; exact H
                            clear H
                            have H := H1
                            clear H1
                            obtain rfl := Option.some.inj H
                            go_wp2
                            go_ret
                            exact ⟨by first | rfl | (simp [errW_none, errW_some] <;> rfl) | (simp [*, errW_none, errW_some] <;> rfl), by repeat (first | (with_reducible first | exact HB.out | apply below_alloc | apply pw_below_drewN | apply below_drew1) | exact HB.out)⟩
                          · replace c29 := Bool.eq_false_iff.mpr c29
                            subst c29
                            have H1 : (if t117 = (-1) then (some true) else ((G.pick_Note.f x9_3 (([(t117) % 256] : List Int)) false).bind fun t121 => (gazetteerlaw19_PickFair.l2 kj21 l2 (wrap64 ((wrap64 (Int.tmod a0 9)) + 1)) (wrap64 ((wrap64 (Int.tmod a1 5)) + 1)) t121 x11_3 0))) = some r := by rw [if_neg (show ¬ (false = true) by decide)] at H; exact H
                            clear H
                            have H := H1
                            clear H1
                            by_cases c30 : t117 = (-1)
                            · rw [if_pos c30] at H
                              have c30b0 : (t117 == (-1)) = true := beq_iff_eq.mpr c30
                              have c30b1 : (t117 != (-1)) = false := bne_eq_false_iff_eq.mpr c30
                              clear c30
                              obtain rfl := Option.some.inj H
                              go_wp2
                              go_ret
                              exact ⟨by first | rfl | (simp [errW_none, errW_some] <;> rfl) | (simp [*, errW_none, errW_some] <;> rfl), by repeat (first | (with_reducible first | exact HB.out | apply below_alloc | apply pw_below_drewN | apply below_drew1) | exact HB.out)⟩
                            · rw [if_neg c30] at H
                              have c30b0 : (t117 == (-1)) = false := beq_eq_false_iff_ne.mpr c30
                              have c30b1 : (t117 != (-1)) = true := bne_iff_ne.mpr c30
                              obtain ⟨y118, hy118⟩ : ∃ y_ : List Int, y_ = (([(t117) % 256] : List Int)) := ⟨_, rfl⟩
                              replace H : ((G.pick_Note.f x9_3 y118 false).bind fun t121 => (gazetteerlaw19_PickFair.l2 kj21 l2 (wrap64 ((wrap64 (Int.tmod a0 9)) + 1)) (wrap64 ((wrap64 (Int.tmod a1 5)) + 1)) t121 x11_3 0)) = some r := by first | (rw [hy118]; with_reducible exact H) | (have H2_ := (Option.bind_some _ _).symm.trans H; rw [hy118]; with_reducible exact H2_) | (have H2_ := (Option.bind_some _ _).symm.trans H; with_reducible exact H2_) | with_reducible exact H | (rw [hy118]; exact H) | exact H
                              have Ny118 := Aside0.mk hy118
                              clear hy118
                              replace H := Option.bind_eq_some_iff.mp H
                              obtain ⟨t121, A310, H⟩ := H
                              replace H : (gazetteerlaw19_PickFair.l2 kj21 l2 (wrap64 ((wrap64 (Int.tmod a0 9)) + 1)) (wrap64 ((wrap64 (Int.tmod a1 5)) + 1)) t121 x11_3 0) = some r := H
                              have A31 := Aside0.mk A310
                              clear A310
                              have H' := Aside0.mk H
                              clear H
                              go_wp2_with (first | ((with_reducible refine gate_dst (N := 76) rfl ?_); (try (refine gate_guard (by rfl) ?_; dsimp only)); refine Kd.R_lit (Kd.int .u8) _ 5 ?hg (N := 76) ?hd (xs := ([(t117) % 256] : List Int)) (inner := [.int .u8 ((t117) % 256)]) (ok := fun _ => True) (okp := fun _ => True) ?hr ?hp (fun _ hk => hk) trivial (Below.refl _ _) (Nat.le_refl _) (by simp) ?_; (case hd => rfl); (case hg => rfl); (case hr => first | (go_simp; done) | (go_simp; rfl)); (case hp => exact (Reps.one (show Kd.M (Kd.int .u8) _ _ _ ((t117) % 256) [.int .u8 ((t117) % 256)] from rfl) (Reps.none _ _))); intro v119 w32 ho33 hb hg_ hnew_; clear hg_ hnew_; (first | rw [← Ny118.out] at ho33 | (simp only [Int.reduceToNat] at ho33; rw [← Ny118.out] at ho33)); have n0_ := Aside0.mk (Kd.S_elder' (by (with_reducible repeat (first | apply Kd.S_alloc | apply Kd.S_drewN | apply Kd.S_drew)); exact HO_9.out) (Kd.R_base ho33) hb); have n1_ := Aside0.mk (Kd.R_lower ho33 (below_size (by repeat (first | (with_reducible first | exact HB.out | apply below_alloc | apply pw_below_drewN | apply below_drew1) | exact HB.out)))); have n2_ := Aside0.mk (below_step (by repeat (first | (with_reducible first | exact HB.out | apply below_alloc | apply pw_below_drewN | apply below_drew1) | exact HB.out)) hb); clear HO_9; clear HB; have HO_9 := n0_; have HO120 := n1_; have HB := n2_; clear n0_ n1_ n2_; clear hb ho33; obtain ⟨Ao34, co34, eo34⟩ := Kd.R_slice HO120.out; subst eo34) | ((with_reducible refine gate_callee (f := 36) rfl ?_); refine goesL_ (some 77) rfl rfl Try.func36 (by kernel_rfl) rfl #[.slice Ao24 x9_3.length co24, .slice Ao34 y118.length co34, .bool false] rfl (by (try simp only [List.map_toArray, List.map_cons, List.map_nil]); first | done | rfl | (simp only [List.length_drop, List.length_take]; rfl)) ?_; (with_reducible refine (G.pick_Note.calls _ _ x9_3 _ _ y118 false t121 _ ?side1 ?side2 ?side3 ?side4 A31.out).mono ?_); (case side1 => repeat (first | exact (Kd.S_reads' HO_9.out).2.2 | (with_reducible refine Kd.C_alloc ?_ _) | (with_reducible refine Kd.C_drewN ?_ _) | (with_reducible refine Kd.C_drew ?_))); (case side2 => exact (Kd.S_reads' HO_9.out).2.1); (case side3 => repeat (first | exact (Kd.R_reads' HO120.out).2.2 | (with_reducible refine Kd.C_alloc ?_ _) | (with_reducible refine Kd.C_drewN ?_ _) | (with_reducible refine Kd.C_drew ?_))); (case side4 => exact (Kd.R_reads' HO120.out).2.1); rintro e w35 ⟨v122, rfl, ho0, hb⟩; refine ⟨_, rfl, ?_⟩; have n0_ := Aside0.mk (Kd.S_elder' (by (with_reducible repeat (first | apply Kd.S_alloc | apply Kd.S_drewN | apply Kd.S_drew)); exact HO_9.out) (Kd.S_base ho0) hb); have n1_ := Aside0.mk (Kd.R_below (by (with_reducible repeat (first | apply Kd.R_alloc | apply Kd.R_drewN | apply Kd.R_drew)); exact HO120.out) hb); have n2_ := Aside0.mk (Kd.S_lower (Kd.S_new' (Kd.S_new' ho0 (Kd.S_lt (by (with_reducible repeat (first | apply Kd.S_alloc | apply Kd.S_drewN | apply Kd.S_drew)); exact HO_9.out))) (Kd.R_lt (by (with_reducible repeat (first | apply Kd.R_alloc | apply Kd.R_drewN | apply Kd.R_drew)); exact HO120.out))) (below_size (by repeat (first | (with_reducible first | exact HB.out | apply below_alloc | apply pw_below_drewN | apply below_drew1) | exact HB.out)))); have n3_ := Aside0.mk (below_step (by repeat (first | (with_reducible first | exact HB.out | apply below_alloc | apply pw_below_drewN | apply below_drew1) | exact HB.out)) hb); clear HO_9; clear HO120; clear HB; have HO_9 := n0_; have HO120 := n1_; have HO123 := n2_; have HB := n3_; clear n0_ n1_ n2_ n3_; (try clear hb); (try clear hb2); (try clear hk); (try clear hi); (try clear ho0)))
                              go_loopg [13] kj21 (fun kq v13 w' => ∃ (x13_5 : Int), v13 = .int .i64 x13_5 ∧ Aside0 (gazetteerlaw19_PickFair.l2 kq l2 (wrap64 ((wrap64 (Int.tmod a0 9)) + 1)) (wrap64 ((wrap64 (Int.tmod a1 5)) + 1)) t121 x11_3 x13_5 = some r) ∧ Aside0 (kq ≤ kj21) ∧ Aside0 (Kd.S k42 42 w' w.heap.size (fun _ => True) v122 t121) ∧ Aside0 (Below w.heap.size w w'))
                              case atStart => exact ⟨(0), (by first | rfl | (simp; done) | (simp [*]; done)), H', ⟨Nat.le_refl _⟩, ⟨by (with_reducible repeat (first | apply Kd.S_alloc | apply Kd.S_drewN | apply Kd.S_drew)); exact Kd.S_mono HO123.out (fun _ hk => trivial)⟩, ⟨by repeat (first | (with_reducible first | exact HB.out | apply below_alloc | apply pw_below_drewN | apply below_drew1) | exact HB.out)⟩⟩
                              case round =>
                                clear H'
                                try clear c1
                                try clear p1
                                try clear q1
                                try clear hx1
                                try clear c2
                                try clear p2
                                try clear c3
                                try clear c4
                                try clear c4b0
                                try clear c5
                                try clear p6
                                try clear p11
                                try clear q11
                                try clear hx11
                                try clear c12
                                try clear c13
                                try clear c15
                                try clear c18
                                try clear c18b0
                                try clear c20
                                try clear c20b0
                                try clear c26
                                try clear c27
                                try clear c28
                                try clear c28b0
                                try clear c28b1
                                try clear c28b2
                                try clear c29
                                try clear c30
                                try clear c30b0
                                try clear c30b1
                                try clear hx116_0
                                try clear p1
                                try clear p11
                                try clear p116
                                try clear p2
                                try clear p6
                                try clear q1
                                try clear q11
                                try clear q116
                                obtain ⟨x13_5, rfl, HA, HK5, HO_9, HB⟩ := hrel
                                cases gk with
                                | zero => exact absurd HA.out (by simp [gazetteerlaw19_PickFair.l2])
                                | succ k5 =>
                                  have H := HA.out
                                  clear HA
                                  simp only [gazetteerlaw19_PickFair.l2] at H
                                  by_cases c36 : x13_5 < (wrap64 ((wrap64 (Int.tmod a0 9)) + 1))
                                  · rw [if_pos c36] at H
                                    have c36b0 : decide (x13_5 < (wrap64 ((wrap64 (Int.tmod a0 9)) + 1))) = true := decide_eq_true c36
                                    clear c36
                                    have H' := Aside0.mk H
                                    clear H
                                    go_wp2
                                    go_loopg [14] k5 (fun kq v14 w' => ∃ (x14_6 : Int), v14 = .int .i64 x14_6 ∧ Aside0 (gazetteerlaw19_PickFair.l3 kq l2 (wrap64 ((wrap64 (Int.tmod a0 9)) + 1)) (wrap64 ((wrap64 (Int.tmod a1 5)) + 1)) t121 x11_3 x13_5 x14_6 = some r) ∧ Aside0 (kq ≤ k5) ∧ Aside0 (Kd.S k42 42 w' w.heap.size (fun _ => True) v122 t121) ∧ Aside0 (Below w.heap.size w w'))
                                    case atStart => exact ⟨(0), (by first | rfl | (simp; done) | (simp [*]; done)), H', ⟨Nat.le_refl _⟩, ⟨by (with_reducible repeat (first | apply Kd.S_alloc | apply Kd.S_drewN | apply Kd.S_drew)); exact HO_9.out⟩, ⟨by repeat (first | (with_reducible first | exact HB.out | apply below_alloc | apply pw_below_drewN | apply below_drew1) | exact HB.out)⟩⟩
                                    case round =>
                                      clear H'
                                      try clear c1
                                      try clear p1
                                      try clear q1
                                      try clear hx1
                                      try clear c2
                                      try clear p2
                                      try clear c3
                                      try clear c4
                                      try clear c4b0
                                      try clear c5
                                      try clear p6
                                      try clear p11
                                      try clear q11
                                      try clear hx11
                                      try clear c12
                                      try clear c13
                                      try clear c15
                                      try clear c18
                                      try clear c18b0
                                      try clear c20
                                      try clear c20b0
                                      try clear c26
                                      try clear c27
                                      try clear c28
                                      try clear c28b0
                                      try clear c28b1
                                      try clear c28b2
                                      try clear c29
                                      try clear c30
                                      try clear c30b0
                                      try clear c30b1
                                      try clear c36
                                      try clear c36b0
                                      try clear hx116_0
                                      try clear p1
                                      try clear p11
                                      try clear p116
                                      try clear p2
                                      try clear p6
                                      try clear q1
                                      try clear q11
                                      try clear q116
                                      obtain ⟨x14_6, rfl, HA, HK6, HO_9, HB⟩ := hrel
                                      cases gk with
                                      | zero => exact absurd HA.out (by simp [gazetteerlaw19_PickFair.l3])
                                      | succ k6 =>
                                        have H := HA.out
                                        clear HA
                                        simp only [gazetteerlaw19_PickFair.l3] at H
                                        by_cases c37 : x14_6 < (wrap64 ((wrap64 (Int.tmod a0 9)) + 1))
                                        · rw [if_pos c37] at H
                                          have c37b0 : decide (x14_6 < (wrap64 ((wrap64 (Int.tmod a0 9)) + 1))) = true := decide_eq_true c37
                                          clear c37
                                          by_cases c38 : 0 ≤ x13_5
                                          · rw [if_pos c38] at H
                                            have c38b0 : decide (0 ≤ x13_5) = true := decide_eq_true c38
                                            clear c38
                                            by_cases c39 : x13_5 < (t121.length : Int)
                                            · rw [if_pos c39] at H
                                              have c39b0 : decide (x13_5 < (t121.length : Int)) = true := decide_eq_true c39
                                              clear c39
                                              by_cases c40 : 0 ≤ x14_6
                                              · rw [if_pos c40] at H
                                                have c40b0 : decide (0 ≤ x14_6) = true := decide_eq_true c40
                                                clear c40
                                                by_cases c41 : x14_6 < (t121.length : Int)
                                                · rw [if_pos c41] at H
                                                  have c41b0 : decide (x14_6 < (t121.length : Int)) = true := decide_eq_true c41
                                                  clear c41
                                                  by_cases c42 : ((rd_T42 t121 x13_5).f1) > (wrap64 (((rd_T42 t121 x14_6).f1) + 1))
                                                  · rw [if_pos c42] at H
                                                    have c42b0 : decide ((wrap64 (((rd_T42 t121 x14_6).f1) + 1)) < ((rd_T42 t121 x13_5).f1)) = true := decide_eq_true c42
                                                    clear c42
                                                    obtain rfl := Option.some.inj H
                                                    try go_wp2
                                                    have n0_ := Aside0.mk (Kd.S_drew HO_9.out)
                                                    have n1_ := Aside0.mk (below_drew1 HB.out)
                                                    clear HO_9
                                                    clear HB
                                                    have HO_9 := n0_
                                                    have HB := n1_
                                                    clear n0_ n1_
                                                    obtain ⟨Ao44, co44, eo44⟩ := Kd.S_slice HO_9.out
                                                    (first | subst eo44 | (injection eo44 with f1_ f2_ f3_; have f4_ := f1_.symm; have f5_ := f3_.symm; clear f1_ f2_ f3_; subst f4_; subst f5_))
                                                    have p124 : 0 ≤ (x13_5 : Int) := of_decide_eq_true (by first | (with_reducible assumption) | assumption)
                                                    have q124 : x13_5 < (t121.length : Int) := of_decide_eq_true (by first | (with_reducible assumption) | assumption)
                                                    obtain ⟨ad124, A124_0, c124_0, e124, hx124_0, hx124_1, hx124_2, hl124_0, hi124_0⟩ := at_T42 (Kd.S_reads' HO_9.out).2.2 x13_5 p124 q124
                                                    cases e124
                                                    obtain ⟨ce124, hce124, hMe124, hcc124⟩ := Kd.S_get HO_9.out z42 x13_5 p124 (by first | exact q124 | exact of_decide_eq_true (by first | (with_reducible assumption) | assumption) | (have e_ := (Kd.S_reads' HO_9.out).1; omega))
                                                    obtain ⟨ve124_0, rfl, ge124_0⟩ := k42_openM hMe124
                                                    have hv124_0 := hcc124 0 _ rfl
                                                    rw [Nat.add_zero] at hv124_0
                                                    replace hv124_0 := Option.some.inj (hv124_0.symm.trans hx124_0)
                                                    rw [hv124_0] at ge124_0
                                                    have HL124_0 := Aside0.mk (show Kd.R (Kd.int .u8) 5 _ _ _ _ ((rd_T42 t121 x13_5).f0) from ge124_0)
                                                    clear hv124_0 ge124_0
                                                    clear hcc124 hce124
                                                    have HR124_0 := Aside0.mk hi124_0
                                                    have HC124_0 := Aside0.mk hl124_0
                                                    clear hi124_0 hl124_0
                                                    replace p124 := eq_true p124
                                                    replace q124 := eq_true q124
                                                    have p125 : 0 ≤ (x14_6 : Int) := of_decide_eq_true (by first | (with_reducible assumption) | assumption)
                                                    have q125 : x14_6 < (t121.length : Int) := of_decide_eq_true (by first | (with_reducible assumption) | assumption)
                                                    obtain ⟨ad125, A125_0, c125_0, e125, hx125_0, hx125_1, hx125_2, hl125_0, hi125_0⟩ := at_T42 (Kd.S_reads' HO_9.out).2.2 x14_6 p125 q125
                                                    obtain rfl : ad124 = ad125 := (by injection e125)
                                                    obtain ⟨ce125, hce125, hMe125, hcc125⟩ := Kd.S_get HO_9.out z42 x14_6 p125 (by first | exact q125 | exact of_decide_eq_true (by first | (with_reducible assumption) | assumption) | (have e_ := (Kd.S_reads' HO_9.out).1; omega))
                                                    obtain ⟨ve125_0, rfl, ge125_0⟩ := k42_openM hMe125
                                                    have hv125_0 := hcc125 0 _ rfl
                                                    rw [Nat.add_zero] at hv125_0
                                                    replace hv125_0 := Option.some.inj (hv125_0.symm.trans hx125_0)
                                                    rw [hv125_0] at ge125_0
                                                    have HL125_0 := Aside0.mk (show Kd.R (Kd.int .u8) 5 _ _ _ _ ((rd_T42 t121 x14_6).f0) from ge125_0)
                                                    clear hv125_0 ge125_0
                                                    clear hcc125 hce125
                                                    have HR125_0 := Aside0.mk hi125_0
                                                    have HC125_0 := Aside0.mk hl125_0
                                                    clear hi125_0 hl125_0
                                                    replace p125 := eq_true p125
                                                    replace q125 := eq_true q125
                                                    refine start_ (n := 21) (S := fun w' => w'.cell? (ad124.add ((x13_5).toNat * 3)) = some (.slice A124_0 ((rd_T42 t121 x13_5).f0).length c124_0) ∧ w'.cell? ⟨(ad124.add ((x13_5).toNat * 3)).block, (ad124.add ((x13_5).toNat * 3)).off + 1, none⟩ = some (.int .i64 ((rd_T42 t121 x13_5).f1)) ∧ w'.cell? ⟨(ad124.add ((x13_5).toNat * 3)).block, (ad124.add ((x13_5).toNat * 3)).off + 2, none⟩ = some (.bool ((rd_T42 t121 x13_5).f2)) ∧ w'.cell? (ad124.add ((x14_6).toNat * 3)) = some (.slice A125_0 ((rd_T42 t121 x14_6).f0).length c125_0) ∧ w'.cell? ⟨(ad124.add ((x14_6).toNat * 3)).block, (ad124.add ((x14_6).toNat * 3)).off + 1, none⟩ = some (.int .i64 ((rd_T42 t121 x14_6).f1)) ∧ w'.cell? ⟨(ad124.add ((x14_6).toNat * 3)).block, (ad124.add ((x14_6).toNat * 3)).off + 2, none⟩ = some (.bool ((rd_T42 t121 x14_6).f2))) (ds := []) #[false, false, false, false, false, false, false, false, false, false, false, false, false, false, false, false, false, false, false, false, false] (by kernel_rfl) rfl rfl ⟨hx124_0, hx124_1, hx124_2, hx125_0, hx125_1, hx125_2⟩ (fun hHeld => ?_); refine with_tabW gazetteerlaw19_PickFair.tab24 gazetteerlaw19_PickFair.bits24 (fun HT_ HW_ => ?_)
                                                    generalize wr.drew = w43 at HO_9 HB HL124_0 HL125_0 HR124_0 HR125_0 hx124_0 hx124_1 hx124_2 hx125_0 hx125_1 hx125_2 hHeld ⊢
                                                    refine pure_ (i := 0) (N := some 88) (v := ?_) (a' := ?_) #[true, false, false, false, false, false, false, false, false, false, false, false, false, false, false, false, false, false, false, false, false] rfl rfl (any_of HT_.out (by kernel_rfl)) (fun _ _ _ h => h) (Or.inl ⟨by rfl, ?_⟩) ?_ ?_
                                                    rotate_left
                                                    · intro w'
                                                      go_simp
                                                      with_reducible rfl
                                                    rotate_left
                                                    · simp only [Act.put, List.setIfInBounds_toArray, List.set_cons_zero, List.set_cons_succ, i64_w, i32_w]
                                                      rfl
                                                    refine pure_ (i := 1) (N := some 89) (v := ?_) (a' := ?_) #[true, true, false, false, false, false, false, false, false, false, false, false, false, false, false, false, false, false, false, false, false] rfl rfl (any_of HT_.out (by kernel_rfl)) (fun _ _ _ h => h) (Or.inl ⟨by rfl, ?_⟩) ?_ ?_
                                                    rotate_left
                                                    · intro w'
                                                      go_simp
                                                      with_reducible rfl
                                                    rotate_left
                                                    · simp only [Act.put, List.setIfInBounds_toArray, List.set_cons_zero, List.set_cons_succ, i64_w, i32_w]
                                                      rfl
                                                    refine pure_ (i := 2) (N := some 90) (v := ?_) (a' := ?_) #[true, true, true, false, false, false, false, false, false, false, false, false, false, false, false, false, false, false, false, false, false] rfl rfl (any_of HT_.out (by kernel_rfl)) (fun _ _ _ h => h) (Or.inl ⟨by rfl, ?_⟩) ?_ ?_
                                                    rotate_left
                                                    · intro w'
                                                      go_simp
                                                      with_reducible rfl
                                                    rotate_left
                                                    · simp only [Act.put, List.setIfInBounds_toArray, List.set_cons_zero, List.set_cons_succ, i64_w, i32_w]
                                                      rfl
                                                    refine pure_ (i := 3) (N := some 91) (v := ?_) (a' := ?_) #[true, true, true, true, false, false, false, false, false, false, false, false, false, false, false, false, false, false, false, false, false] rfl rfl (any_of HT_.out (by kernel_rfl)) (fun _ _ _ h => h) (Or.inl ⟨by rfl, ?_⟩) ?_ ?_
                                                    rotate_left
                                                    · intro w'
                                                      go_simp
                                                      with_reducible rfl
                                                    rotate_left
                                                    · simp only [Act.put, List.setIfInBounds_toArray, List.set_cons_zero, List.set_cons_succ, i64_w, i32_w]
                                                      rfl
                                                    refine pure_ (i := 5) (N := some 93) (v := ?_) (a' := ?_) #[true, true, true, true, false, true, false, false, false, false, false, false, false, false, false, false, false, false, false, false, false] rfl rfl (any_of HT_.out (by kernel_rfl)) (fun _ _ _ h => h) (Or.inl ⟨by rfl, ?_⟩) ?_ ?_
                                                    rotate_left
                                                    · intro w'
                                                      go_simp
                                                      with_reducible rfl
                                                    rotate_left
                                                    · simp only [Act.put, List.setIfInBounds_toArray, List.set_cons_zero, List.set_cons_succ, i64_w, i32_w]
                                                      rfl
                                                    refine pure_ (i := 6) (N := some 94) (v := ?_) (a' := ?_) #[true, true, true, true, false, true, true, false, false, false, false, false, false, false, false, false, false, false, false, false, false] rfl rfl (any_of HT_.out (by kernel_rfl)) (fun _ _ _ h => h) (Or.inl ⟨by rfl, ?_⟩) ?_ ?_
                                                    rotate_left
                                                    · intro w'
                                                      go_simp
                                                      with_reducible rfl
                                                    rotate_left
                                                    · simp only [Act.put, List.setIfInBounds_toArray, List.set_cons_zero, List.set_cons_succ, i64_w, i32_w]
                                                      rfl
                                                    refine pure_ (i := 7) (N := some 95) (v := ?_) (a' := ?_) #[true, true, true, true, false, true, true, true, false, false, false, false, false, false, false, false, false, false, false, false, false] rfl rfl (any_of HT_.out (by kernel_rfl)) (fun _ _ _ h => h) (Or.inl ⟨by rfl, ?_⟩) ?_ ?_
                                                    rotate_left
                                                    · intro w'
                                                      go_simp
                                                      with_reducible rfl
                                                    rotate_left
                                                    · simp only [Act.put, List.setIfInBounds_toArray, List.set_cons_zero, List.set_cons_succ, i64_w, i32_w]
                                                      rfl
                                                    refine pure_ (i := 8) (N := some 96) (v := ?_) (a' := ?_) #[true, true, true, true, false, true, true, true, true, false, false, false, false, false, false, false, false, false, false, false, false] rfl rfl (any_of HT_.out (by kernel_rfl)) (fun _ _ _ h => h) (Or.inl ⟨by rfl, ?_⟩) ?_ ?_
                                                    rotate_left
                                                    · intro w'
                                                      go_simp
                                                      with_reducible rfl
                                                    rotate_left
                                                    · simp only [Act.put, List.setIfInBounds_toArray, List.set_cons_zero, List.set_cons_succ, i64_w, i32_w]
                                                      rfl
                                                    refine take_ (i := 4) (N := some 92) (v := ?_) (a' := ?_) #[true, true, true, true, true, true, true, true, true, false, false, false, false, false, false, false, false, false, false, false, false] rfl rfl (take_ofW HT_.out HW_.out (by kernel_rfl)) (fun _ _ _ h => h) (Or.inl ⟨by rfl, ?_⟩) hHeld ?_ ?_
                                                    rotate_left
                                                    · rintro w' ⟨s0, s1, s2, s3, s4, s5⟩
                                                      go_simp
                                                      with_reducible rfl
                                                    rotate_left
                                                    · simp only [Act.put, List.setIfInBounds_toArray, List.set_cons_zero, List.set_cons_succ, i64_w, i32_w]
                                                      rfl
                                                    refine take_ (i := 9) (N := some 97) (v := ?_) (a' := ?_) #[true, true, true, true, true, true, true, true, true, true, false, false, false, false, false, false, false, false, false, false, false] rfl rfl (take_ofW HT_.out HW_.out (by kernel_rfl)) (fun _ _ _ h => h) (Or.inl ⟨by rfl, ?_⟩) hHeld ?_ ?_
                                                    rotate_left
                                                    · rintro w' ⟨s0, s1, s2, s3, s4, s5⟩
                                                      go_simp
                                                      with_reducible rfl
                                                    rotate_left
                                                    · simp only [Act.put, List.setIfInBounds_toArray, List.set_cons_zero, List.set_cons_succ, i64_w, i32_w]
                                                      rfl
                                                    refine pure_ (i := 10) (N := some 98) (v := ?_) (a' := ?_) #[true, true, true, true, true, true, true, true, true, true, true, false, false, false, false, false, false, false, false, false, false] rfl rfl (any_of HT_.out (by kernel_rfl)) (fun _ _ _ h => h) (Or.inl ⟨by rfl, ?_⟩) ?_ ?_
                                                    rotate_left
                                                    · intro w'
                                                      go_simp
                                                      with_reducible rfl
                                                    rotate_left
                                                    · simp only [Act.put, List.setIfInBounds_toArray, List.set_cons_zero, List.set_cons_succ, i64_w, i32_w]
                                                      rfl
                                                    refine pure_ (i := 11) (N := some 99) (v := ?_) (a' := ?_) #[true, true, true, true, true, true, true, true, true, true, true, true, false, false, false, false, false, false, false, false, false] rfl rfl (any_of HT_.out (by kernel_rfl)) (fun _ _ _ h => h) (Or.inl ⟨by rfl, ?_⟩) ?_ ?_
                                                    rotate_left
                                                    · intro w'
                                                      go_simp
                                                      with_reducible rfl
                                                    rotate_left
                                                    · simp only [Act.put, List.setIfInBounds_toArray, List.set_cons_zero, List.set_cons_succ, i64_w, i32_w]
                                                      rfl
                                                    refine pure_ (i := 12) (N := some 100) (v := ?_) (a' := ?_) #[true, true, true, true, true, true, true, true, true, true, true, true, true, false, false, false, false, false, false, false, false] rfl rfl (any_of HT_.out (by kernel_rfl)) (fun _ _ _ h => h) (Or.inl ⟨by rfl, ?_⟩) ?_ ?_
                                                    rotate_left
                                                    · intro w'
                                                      go_simp
                                                      with_reducible rfl
                                                    rotate_left
                                                    · simp only [Act.put, List.setIfInBounds_toArray, List.set_cons_zero, List.set_cons_succ, i64_w, i32_w]
                                                      rfl
                                                    refine pure_ (i := 13) (N := some 101) (v := undef) (a' := ?_) #[true, true, true, true, true, true, true, true, true, true, true, true, true, true, false, false, false, false, false, false, false] rfl rfl (any_of HT_.out (by kernel_rfl)) (fun _ _ _ h => h) (Or.inr ⟨by rfl, rfl⟩) ?_ ?_
                                                    rotate_left
                                                    · simp only [Act.put, List.setIfInBounds_toArray, List.set_cons_zero, List.set_cons_succ, i64_w, i32_w]
                                                      rfl
                                                    refine pure_ (i := 14) (N := some 102) (v := undef) (a' := ?_) #[true, true, true, true, true, true, true, true, true, true, true, true, true, true, true, false, false, false, false, false, false] rfl rfl (any_of HT_.out (by kernel_rfl)) (fun _ _ _ h => h) (Or.inr ⟨by rfl, rfl⟩) ?_ ?_
                                                    rotate_left
                                                    · simp only [Act.put, List.setIfInBounds_toArray, List.set_cons_zero, List.set_cons_succ, i64_w, i32_w]
                                                      rfl
                                                    refine pure_ (i := 15) (N := some 103) (v := undef) (a' := ?_) #[true, true, true, true, true, true, true, true, true, true, true, true, true, true, true, true, false, false, false, false, false] rfl rfl (any_of HT_.out (by kernel_rfl)) (fun _ _ _ h => h) (Or.inr ⟨by rfl, rfl⟩) ?_ ?_
                                                    rotate_left
                                                    · simp only [Act.put, List.setIfInBounds_toArray, List.set_cons_zero, List.set_cons_succ, i64_w, i32_w]
                                                      rfl
                                                    refine pure_ (i := 16) (N := some 104) (v := undef) (a' := ?_) #[true, true, true, true, true, true, true, true, true, true, true, true, true, true, true, true, true, false, false, false, false] rfl rfl (any_of HT_.out (by kernel_rfl)) (fun _ _ _ h => h) (Or.inr ⟨by rfl, rfl⟩) ?_ ?_
                                                    rotate_left
                                                    · simp only [Act.put, List.setIfInBounds_toArray, List.set_cons_zero, List.set_cons_succ, i64_w, i32_w]
                                                      rfl
                                                    refine pure_ (i := 17) (N := some 105) (v := undef) (a' := ?_) #[true, true, true, true, true, true, true, true, true, true, true, true, true, true, true, true, true, true, false, false, false] rfl rfl (any_of HT_.out (by kernel_rfl)) (fun _ _ _ h => h) (Or.inr ⟨by rfl, rfl⟩) ?_ ?_
                                                    rotate_left
                                                    · simp only [Act.put, List.setIfInBounds_toArray, List.set_cons_zero, List.set_cons_succ, i64_w, i32_w]
                                                      rfl
                                                    refine pure_ (i := 18) (N := some 106) (v := undef) (a' := ?_) #[true, true, true, true, true, true, true, true, true, true, true, true, true, true, true, true, true, true, true, false, false] rfl rfl (any_of HT_.out (by kernel_rfl)) (fun _ _ _ h => h) (Or.inr ⟨by rfl, rfl⟩) ?_ ?_
                                                    rotate_left
                                                    · simp only [Act.put, List.setIfInBounds_toArray, List.set_cons_zero, List.set_cons_succ, i64_w, i32_w]
                                                      rfl
                                                    refine pure_ (i := 19) (N := some 107) (v := undef) (a' := ?_) #[true, true, true, true, true, true, true, true, true, true, true, true, true, true, true, true, true, true, true, true, false] rfl rfl (any_of HT_.out (by kernel_rfl)) (fun _ _ _ h => h) (Or.inr ⟨by rfl, rfl⟩) ?_ ?_
                                                    rotate_left
                                                    · simp only [Act.put, List.setIfInBounds_toArray, List.set_cons_zero, List.set_cons_succ, i64_w, i32_w]
                                                      rfl
                                                    refine pure_ (i := 20) (N := some 108) (v := ?_) (a' := ?_) #[true, true, true, true, true, true, true, true, true, true, true, true, true, true, true, true, true, true, true, true, true] rfl rfl (any_of HT_.out (by kernel_rfl)) (fun _ _ _ h => h) (Or.inl ⟨by rfl, ?_⟩) ?_ ?_
                                                    rotate_left
                                                    · intro w'
                                                      go_simp
                                                      with_reducible rfl
                                                    rotate_left
                                                    · simp only [Act.put, List.setIfInBounds_toArray, List.set_cons_zero, List.set_cons_succ, i64_w, i32_w]
                                                      rfl
                                                    refine done_ (done_of HT_.out (by kernel_rfl)) ?_
                                                    try go_wp2
                                                    go_ret
                                                    exact ⟨by first | rfl | (simp [errW_none, errW_some] <;> rfl) | (simp [*, errW_none, errW_some] <;> rfl), by repeat (first | (with_reducible first | exact HB.out | apply below_alloc | apply pw_below_drewN | apply below_drew1) | exact HB.out)⟩
                                                  · rw [if_neg c42] at H
                                                    have c42b0 : decide ((wrap64 (((rd_T42 t121 x14_6).f1) + 1)) < ((rd_T42 t121 x13_5).f1)) = false := decide_eq_false c42
                                                    clear c42
                                                    by_cases c45 : ((rd_T42 t121 x13_5).f1) > (wrap64 ((wrap64 (Int.tmod a1 5)) + 1))
                                                    · rw [if_pos c45] at H
                                                      have c45b0 : decide ((wrap64 ((wrap64 (Int.tmod a1 5)) + 1)) < ((rd_T42 t121 x13_5).f1)) = true := decide_eq_true c45
                                                      clear c45
                                                      obtain rfl := Option.some.inj H
                                                      try go_wp2
                                                      have n0_ := Aside0.mk (Kd.S_drew HO_9.out)
                                                      have n1_ := Aside0.mk (below_drew1 HB.out)
                                                      clear HO_9
                                                      clear HB
                                                      have HO_9 := n0_
                                                      have HB := n1_
                                                      clear n0_ n1_
                                                      obtain ⟨Ao47, co47, eo47⟩ := Kd.S_slice HO_9.out
                                                      (first | subst eo47 | (injection eo47 with f1_ f2_ f3_; have f4_ := f1_.symm; have f5_ := f3_.symm; clear f1_ f2_ f3_; subst f4_; subst f5_))
                                                      have p124 : 0 ≤ (x13_5 : Int) := of_decide_eq_true (by first | (with_reducible assumption) | assumption)
                                                      have q124 : x13_5 < (t121.length : Int) := of_decide_eq_true (by first | (with_reducible assumption) | assumption)
                                                      obtain ⟨ad124, A124_0, c124_0, e124, hx124_0, hx124_1, hx124_2, hl124_0, hi124_0⟩ := at_T42 (Kd.S_reads' HO_9.out).2.2 x13_5 p124 q124
                                                      cases e124
                                                      obtain ⟨ce124, hce124, hMe124, hcc124⟩ := Kd.S_get HO_9.out z42 x13_5 p124 (by first | exact q124 | exact of_decide_eq_true (by first | (with_reducible assumption) | assumption) | (have e_ := (Kd.S_reads' HO_9.out).1; omega))
                                                      obtain ⟨ve124_0, rfl, ge124_0⟩ := k42_openM hMe124
                                                      have hv124_0 := hcc124 0 _ rfl
                                                      rw [Nat.add_zero] at hv124_0
                                                      replace hv124_0 := Option.some.inj (hv124_0.symm.trans hx124_0)
                                                      rw [hv124_0] at ge124_0
                                                      have HL124_0 := Aside0.mk (show Kd.R (Kd.int .u8) 5 _ _ _ _ ((rd_T42 t121 x13_5).f0) from ge124_0)
                                                      clear hv124_0 ge124_0
                                                      clear hcc124 hce124
                                                      have HR124_0 := Aside0.mk hi124_0
                                                      have HC124_0 := Aside0.mk hl124_0
                                                      clear hi124_0 hl124_0
                                                      replace p124 := eq_true p124
                                                      replace q124 := eq_true q124
                                                      have p125 : 0 ≤ (x14_6 : Int) := of_decide_eq_true (by first | (with_reducible assumption) | assumption)
                                                      have q125 : x14_6 < (t121.length : Int) := of_decide_eq_true (by first | (with_reducible assumption) | assumption)
                                                      obtain ⟨ad125, A125_0, c125_0, e125, hx125_0, hx125_1, hx125_2, hl125_0, hi125_0⟩ := at_T42 (Kd.S_reads' HO_9.out).2.2 x14_6 p125 q125
                                                      obtain rfl : ad124 = ad125 := (by injection e125)
                                                      obtain ⟨ce125, hce125, hMe125, hcc125⟩ := Kd.S_get HO_9.out z42 x14_6 p125 (by first | exact q125 | exact of_decide_eq_true (by first | (with_reducible assumption) | assumption) | (have e_ := (Kd.S_reads' HO_9.out).1; omega))
                                                      obtain ⟨ve125_0, rfl, ge125_0⟩ := k42_openM hMe125
                                                      have hv125_0 := hcc125 0 _ rfl
                                                      rw [Nat.add_zero] at hv125_0
                                                      replace hv125_0 := Option.some.inj (hv125_0.symm.trans hx125_0)
                                                      rw [hv125_0] at ge125_0
                                                      have HL125_0 := Aside0.mk (show Kd.R (Kd.int .u8) 5 _ _ _ _ ((rd_T42 t121 x14_6).f0) from ge125_0)
                                                      clear hv125_0 ge125_0
                                                      clear hcc125 hce125
                                                      have HR125_0 := Aside0.mk hi125_0
                                                      have HC125_0 := Aside0.mk hl125_0
                                                      clear hi125_0 hl125_0
                                                      replace p125 := eq_true p125
                                                      replace q125 := eq_true q125
                                                      have p126 : 0 ≤ (x13_5 : Int) := of_decide_eq_true (by first | (with_reducible assumption) | assumption)
                                                      have q126 : x13_5 < (t121.length : Int) := of_decide_eq_true (by first | (with_reducible assumption) | assumption)
                                                      obtain ⟨ad126, A126_0, c126_0, e126, hx126_0, hx126_1, hx126_2, hl126_0, hi126_0⟩ := at_T42 (Kd.S_reads' HO_9.out).2.2 x13_5 p126 q126
                                                      obtain rfl : ad124 = ad126 := (by injection e126)
                                                      obtain ⟨ce126, hce126, hMe126, hcc126⟩ := Kd.S_get HO_9.out z42 x13_5 p126 (by first | exact q126 | exact of_decide_eq_true (by first | (with_reducible assumption) | assumption) | (have e_ := (Kd.S_reads' HO_9.out).1; omega))
                                                      obtain ⟨ve126_0, rfl, ge126_0⟩ := k42_openM hMe126
                                                      have hv126_0 := hcc126 0 _ rfl
                                                      rw [Nat.add_zero] at hv126_0
                                                      replace hv126_0 := Option.some.inj (hv126_0.symm.trans hx126_0)
                                                      rw [hv126_0] at ge126_0
                                                      have HL126_0 := Aside0.mk (show Kd.R (Kd.int .u8) 5 _ _ _ _ ((rd_T42 t121 x13_5).f0) from ge126_0)
                                                      clear hv126_0 ge126_0
                                                      clear hcc126 hce126
                                                      have HR126_0 := Aside0.mk hi126_0
                                                      have HC126_0 := Aside0.mk hl126_0
                                                      clear hi126_0 hl126_0
                                                      replace p126 := eq_true p126
                                                      replace q126 := eq_true q126
                                                      have ea_ := Option.some.inj (hx124_0.symm.trans hx126_0)
                                                      injection ea_ with ea_ en_ ec_
                                                      subst ea_
                                                      subst ec_
                                                      clear en_
                                                      refine start_ (n := 21) (S := fun w' => w'.cell? (ad124.add ((x13_5).toNat * 3)) = some (.slice A124_0 ((rd_T42 t121 x13_5).f0).length c124_0) ∧ w'.cell? ⟨(ad124.add ((x13_5).toNat * 3)).block, (ad124.add ((x13_5).toNat * 3)).off + 1, none⟩ = some (.int .i64 ((rd_T42 t121 x13_5).f1)) ∧ w'.cell? ⟨(ad124.add ((x13_5).toNat * 3)).block, (ad124.add ((x13_5).toNat * 3)).off + 2, none⟩ = some (.bool ((rd_T42 t121 x13_5).f2)) ∧ w'.cell? (ad124.add ((x14_6).toNat * 3)) = some (.slice A125_0 ((rd_T42 t121 x14_6).f0).length c125_0) ∧ w'.cell? ⟨(ad124.add ((x14_6).toNat * 3)).block, (ad124.add ((x14_6).toNat * 3)).off + 1, none⟩ = some (.int .i64 ((rd_T42 t121 x14_6).f1)) ∧ w'.cell? ⟨(ad124.add ((x14_6).toNat * 3)).block, (ad124.add ((x14_6).toNat * 3)).off + 2, none⟩ = some (.bool ((rd_T42 t121 x14_6).f2)) ∧ w'.cell? (ad124.add ((x13_5).toNat * 3)) = some (.slice A124_0 ((rd_T42 t121 x13_5).f0).length c124_0) ∧ w'.cell? ⟨(ad124.add ((x13_5).toNat * 3)).block, (ad124.add ((x13_5).toNat * 3)).off + 1, none⟩ = some (.int .i64 ((rd_T42 t121 x13_5).f1)) ∧ w'.cell? ⟨(ad124.add ((x13_5).toNat * 3)).block, (ad124.add ((x13_5).toNat * 3)).off + 2, none⟩ = some (.bool ((rd_T42 t121 x13_5).f2))) (ds := []) #[false, false, false, false, false, false, false, false, false, false, false, false, false, false, false, false, false, false, false, false, false] (by kernel_rfl) rfl rfl ⟨hx124_0, hx124_1, hx124_2, hx125_0, hx125_1, hx125_2, hx126_0, hx126_1, hx126_2⟩ (fun hHeld => ?_); refine with_tabW gazetteerlaw19_PickFair.tab24 gazetteerlaw19_PickFair.bits24 (fun HT_ HW_ => ?_)
                                                      generalize wr.drew = w46 at HO_9 HB HL124_0 HL125_0 HL126_0 HR124_0 HR125_0 HR126_0 hx124_0 hx124_1 hx124_2 hx125_0 hx125_1 hx125_2 hx126_0 hx126_1 hx126_2 hHeld ⊢
                                                      refine pure_ (i := 0) (N := some 88) (v := ?_) (a' := ?_) #[true, false, false, false, false, false, false, false, false, false, false, false, false, false, false, false, false, false, false, false, false] rfl rfl (any_of HT_.out (by kernel_rfl)) (fun _ _ _ h => h) (Or.inl ⟨by rfl, ?_⟩) ?_ ?_
                                                      rotate_left
                                                      · intro w'
                                                        go_simp
                                                        with_reducible rfl
                                                      rotate_left
                                                      · simp only [Act.put, List.setIfInBounds_toArray, List.set_cons_zero, List.set_cons_succ, i64_w, i32_w]
                                                        rfl
                                                      refine pure_ (i := 1) (N := some 89) (v := ?_) (a' := ?_) #[true, true, false, false, false, false, false, false, false, false, false, false, false, false, false, false, false, false, false, false, false] rfl rfl (any_of HT_.out (by kernel_rfl)) (fun _ _ _ h => h) (Or.inl ⟨by rfl, ?_⟩) ?_ ?_
                                                      rotate_left
                                                      · intro w'
                                                        go_simp
                                                        with_reducible rfl
                                                      rotate_left
                                                      · simp only [Act.put, List.setIfInBounds_toArray, List.set_cons_zero, List.set_cons_succ, i64_w, i32_w]
                                                        rfl
                                                      refine pure_ (i := 2) (N := some 90) (v := ?_) (a' := ?_) #[true, true, true, false, false, false, false, false, false, false, false, false, false, false, false, false, false, false, false, false, false] rfl rfl (any_of HT_.out (by kernel_rfl)) (fun _ _ _ h => h) (Or.inl ⟨by rfl, ?_⟩) ?_ ?_
                                                      rotate_left
                                                      · intro w'
                                                        go_simp
                                                        with_reducible rfl
                                                      rotate_left
                                                      · simp only [Act.put, List.setIfInBounds_toArray, List.set_cons_zero, List.set_cons_succ, i64_w, i32_w]
                                                        rfl
                                                      refine pure_ (i := 3) (N := some 91) (v := ?_) (a' := ?_) #[true, true, true, true, false, false, false, false, false, false, false, false, false, false, false, false, false, false, false, false, false] rfl rfl (any_of HT_.out (by kernel_rfl)) (fun _ _ _ h => h) (Or.inl ⟨by rfl, ?_⟩) ?_ ?_
                                                      rotate_left
                                                      · intro w'
                                                        go_simp
                                                        with_reducible rfl
                                                      rotate_left
                                                      · simp only [Act.put, List.setIfInBounds_toArray, List.set_cons_zero, List.set_cons_succ, i64_w, i32_w]
                                                        rfl
                                                      refine pure_ (i := 5) (N := some 93) (v := ?_) (a' := ?_) #[true, true, true, true, false, true, false, false, false, false, false, false, false, false, false, false, false, false, false, false, false] rfl rfl (any_of HT_.out (by kernel_rfl)) (fun _ _ _ h => h) (Or.inl ⟨by rfl, ?_⟩) ?_ ?_
                                                      rotate_left
                                                      · intro w'
                                                        go_simp
                                                        with_reducible rfl
                                                      rotate_left
                                                      · simp only [Act.put, List.setIfInBounds_toArray, List.set_cons_zero, List.set_cons_succ, i64_w, i32_w]
                                                        rfl
                                                      refine pure_ (i := 6) (N := some 94) (v := ?_) (a' := ?_) #[true, true, true, true, false, true, true, false, false, false, false, false, false, false, false, false, false, false, false, false, false] rfl rfl (any_of HT_.out (by kernel_rfl)) (fun _ _ _ h => h) (Or.inl ⟨by rfl, ?_⟩) ?_ ?_
                                                      rotate_left
                                                      · intro w'
                                                        go_simp
                                                        with_reducible rfl
                                                      rotate_left
                                                      · simp only [Act.put, List.setIfInBounds_toArray, List.set_cons_zero, List.set_cons_succ, i64_w, i32_w]
                                                        rfl
                                                      refine pure_ (i := 7) (N := some 95) (v := ?_) (a' := ?_) #[true, true, true, true, false, true, true, true, false, false, false, false, false, false, false, false, false, false, false, false, false] rfl rfl (any_of HT_.out (by kernel_rfl)) (fun _ _ _ h => h) (Or.inl ⟨by rfl, ?_⟩) ?_ ?_
                                                      rotate_left
                                                      · intro w'
                                                        go_simp
                                                        with_reducible rfl
                                                      rotate_left
                                                      · simp only [Act.put, List.setIfInBounds_toArray, List.set_cons_zero, List.set_cons_succ, i64_w, i32_w]
                                                        rfl
                                                      refine pure_ (i := 8) (N := some 96) (v := ?_) (a' := ?_) #[true, true, true, true, false, true, true, true, true, false, false, false, false, false, false, false, false, false, false, false, false] rfl rfl (any_of HT_.out (by kernel_rfl)) (fun _ _ _ h => h) (Or.inl ⟨by rfl, ?_⟩) ?_ ?_
                                                      rotate_left
                                                      · intro w'
                                                        go_simp
                                                        with_reducible rfl
                                                      rotate_left
                                                      · simp only [Act.put, List.setIfInBounds_toArray, List.set_cons_zero, List.set_cons_succ, i64_w, i32_w]
                                                        rfl
                                                      refine take_ (i := 4) (N := some 92) (v := ?_) (a' := ?_) #[true, true, true, true, true, true, true, true, true, false, false, false, false, false, false, false, false, false, false, false, false] rfl rfl (take_ofW HT_.out HW_.out (by kernel_rfl)) (fun _ _ _ h => h) (Or.inl ⟨by rfl, ?_⟩) hHeld ?_ ?_
                                                      rotate_left
                                                      · rintro w' ⟨s0, s1, s2, s3, s4, s5, s6, s7, s8⟩
                                                        go_simp
                                                        with_reducible rfl
                                                      rotate_left
                                                      · simp only [Act.put, List.setIfInBounds_toArray, List.set_cons_zero, List.set_cons_succ, i64_w, i32_w]
                                                        rfl
                                                      refine take_ (i := 9) (N := some 97) (v := ?_) (a' := ?_) #[true, true, true, true, true, true, true, true, true, true, false, false, false, false, false, false, false, false, false, false, false] rfl rfl (take_ofW HT_.out HW_.out (by kernel_rfl)) (fun _ _ _ h => h) (Or.inl ⟨by rfl, ?_⟩) hHeld ?_ ?_
                                                      rotate_left
                                                      · rintro w' ⟨s0, s1, s2, s3, s4, s5, s6, s7, s8⟩
                                                        go_simp
                                                        with_reducible rfl
                                                      rotate_left
                                                      · simp only [Act.put, List.setIfInBounds_toArray, List.set_cons_zero, List.set_cons_succ, i64_w, i32_w]
                                                        rfl
                                                      refine pure_ (i := 10) (N := some 98) (v := ?_) (a' := ?_) #[true, true, true, true, true, true, true, true, true, true, true, false, false, false, false, false, false, false, false, false, false] rfl rfl (any_of HT_.out (by kernel_rfl)) (fun _ _ _ h => h) (Or.inl ⟨by rfl, ?_⟩) ?_ ?_
                                                      rotate_left
                                                      · intro w'
                                                        go_simp
                                                        with_reducible rfl
                                                      rotate_left
                                                      · simp only [Act.put, List.setIfInBounds_toArray, List.set_cons_zero, List.set_cons_succ, i64_w, i32_w]
                                                        rfl
                                                      refine pure_ (i := 11) (N := some 99) (v := ?_) (a' := ?_) #[true, true, true, true, true, true, true, true, true, true, true, true, false, false, false, false, false, false, false, false, false] rfl rfl (any_of HT_.out (by kernel_rfl)) (fun _ _ _ h => h) (Or.inl ⟨by rfl, ?_⟩) ?_ ?_
                                                      rotate_left
                                                      · intro w'
                                                        go_simp
                                                        with_reducible rfl
                                                      rotate_left
                                                      · simp only [Act.put, List.setIfInBounds_toArray, List.set_cons_zero, List.set_cons_succ, i64_w, i32_w]
                                                        rfl
                                                      refine pure_ (i := 12) (N := some 100) (v := ?_) (a' := ?_) #[true, true, true, true, true, true, true, true, true, true, true, true, true, false, false, false, false, false, false, false, false] rfl rfl (any_of HT_.out (by kernel_rfl)) (fun _ _ _ h => h) (Or.inl ⟨by rfl, ?_⟩) ?_ ?_
                                                      rotate_left
                                                      · intro w'
                                                        go_simp
                                                        with_reducible rfl
                                                      rotate_left
                                                      · simp only [Act.put, List.setIfInBounds_toArray, List.set_cons_zero, List.set_cons_succ, i64_w, i32_w]
                                                        rfl
                                                      refine pure_ (i := 13) (N := some 101) (v := ?_) (a' := ?_) #[true, true, true, true, true, true, true, true, true, true, true, true, true, true, false, false, false, false, false, false, false] rfl rfl (any_of HT_.out (by kernel_rfl)) (fun _ _ _ h => h) (Or.inl ⟨by rfl, ?_⟩) ?_ ?_
                                                      rotate_left
                                                      · intro w'
                                                        go_simp
                                                        with_reducible rfl
                                                      rotate_left
                                                      · simp only [Act.put, List.setIfInBounds_toArray, List.set_cons_zero, List.set_cons_succ, i64_w, i32_w]
                                                        rfl
                                                      refine pure_ (i := 14) (N := some 102) (v := ?_) (a' := ?_) #[true, true, true, true, true, true, true, true, true, true, true, true, true, true, true, false, false, false, false, false, false] rfl rfl (any_of HT_.out (by kernel_rfl)) (fun _ _ _ h => h) (Or.inl ⟨by rfl, ?_⟩) ?_ ?_
                                                      rotate_left
                                                      · intro w'
                                                        go_simp
                                                        with_reducible rfl
                                                      rotate_left
                                                      · simp only [Act.put, List.setIfInBounds_toArray, List.set_cons_zero, List.set_cons_succ, i64_w, i32_w]
                                                        rfl
                                                      refine pure_ (i := 15) (N := some 103) (v := ?_) (a' := ?_) #[true, true, true, true, true, true, true, true, true, true, true, true, true, true, true, true, false, false, false, false, false] rfl rfl (any_of HT_.out (by kernel_rfl)) (fun _ _ _ h => h) (Or.inl ⟨by rfl, ?_⟩) ?_ ?_
                                                      rotate_left
                                                      · intro w'
                                                        go_simp
                                                        with_reducible rfl
                                                      rotate_left
                                                      · simp only [Act.put, List.setIfInBounds_toArray, List.set_cons_zero, List.set_cons_succ, i64_w, i32_w]
                                                        rfl
                                                      refine pure_ (i := 16) (N := some 104) (v := ?_) (a' := ?_) #[true, true, true, true, true, true, true, true, true, true, true, true, true, true, true, true, true, false, false, false, false] rfl rfl (any_of HT_.out (by kernel_rfl)) (fun _ _ _ h => h) (Or.inl ⟨by rfl, ?_⟩) ?_ ?_
                                                      rotate_left
                                                      · intro w'
                                                        go_simp
                                                        with_reducible rfl
                                                      rotate_left
                                                      · simp only [Act.put, List.setIfInBounds_toArray, List.set_cons_zero, List.set_cons_succ, i64_w, i32_w]
                                                        rfl
                                                      refine pure_ (i := 18) (N := some 106) (v := ?_) (a' := ?_) #[true, true, true, true, true, true, true, true, true, true, true, true, true, true, true, true, true, false, true, false, false] rfl rfl (any_of HT_.out (by kernel_rfl)) (fun _ _ _ h => h) (Or.inl ⟨by rfl, ?_⟩) ?_ ?_
                                                      rotate_left
                                                      · intro w'
                                                        go_simp
                                                        with_reducible rfl
                                                      rotate_left
                                                      · simp only [Act.put, List.setIfInBounds_toArray, List.set_cons_zero, List.set_cons_succ, i64_w, i32_w]
                                                        rfl
                                                      refine take_ (i := 17) (N := some 105) (v := ?_) (a' := ?_) #[true, true, true, true, true, true, true, true, true, true, true, true, true, true, true, true, true, true, true, false, false] rfl rfl (take_ofW HT_.out HW_.out (by kernel_rfl)) (fun _ _ _ h => h) (Or.inl ⟨by rfl, ?_⟩) hHeld ?_ ?_
                                                      rotate_left
                                                      · rintro w' ⟨s0, s1, s2, s3, s4, s5, s6, s7, s8⟩
                                                        go_simp
                                                        with_reducible rfl
                                                      rotate_left
                                                      · simp only [Act.put, List.setIfInBounds_toArray, List.set_cons_zero, List.set_cons_succ, i64_w, i32_w]
                                                        rfl
                                                      refine pure_ (i := 19) (N := some 107) (v := ?_) (a' := ?_) #[true, true, true, true, true, true, true, true, true, true, true, true, true, true, true, true, true, true, true, true, false] rfl rfl (any_of HT_.out (by kernel_rfl)) (fun _ _ _ h => h) (Or.inl ⟨by rfl, ?_⟩) ?_ ?_
                                                      rotate_left
                                                      · intro w'
                                                        go_simp
                                                        with_reducible rfl
                                                      rotate_left
                                                      · simp only [Act.put, List.setIfInBounds_toArray, List.set_cons_zero, List.set_cons_succ, i64_w, i32_w]
                                                        rfl
                                                      refine pure_ (i := 20) (N := some 108) (v := ?_) (a' := ?_) #[true, true, true, true, true, true, true, true, true, true, true, true, true, true, true, true, true, true, true, true, true] rfl rfl (any_of HT_.out (by kernel_rfl)) (fun _ _ _ h => h) (Or.inl ⟨by rfl, ?_⟩) ?_ ?_
                                                      rotate_left
                                                      · intro w'
                                                        go_simp
                                                        with_reducible rfl
                                                      rotate_left
                                                      · simp only [Act.put, List.setIfInBounds_toArray, List.set_cons_zero, List.set_cons_succ, i64_w, i32_w]
                                                        rfl
                                                      refine done_ (done_of HT_.out (by kernel_rfl)) ?_
                                                      try go_wp2
                                                      go_ret
                                                      exact ⟨by first | rfl | (simp [errW_none, errW_some] <;> rfl) | (simp [*, errW_none, errW_some] <;> rfl), by repeat (first | (with_reducible first | exact HB.out | apply below_alloc | apply pw_below_drewN | apply below_drew1) | exact HB.out)⟩
                                                    · rw [if_neg c45] at H
                                                      have c45b0 : decide ((wrap64 ((wrap64 (Int.tmod a1 5)) + 1)) < ((rd_T42 t121 x13_5).f1)) = false := decide_eq_false c45
                                                      clear c45
                                                      have H' := Aside0.mk H
                                                      clear H
                                                      try go_wp2
                                                      have n0_ := Aside0.mk (Kd.S_drew HO_9.out)
                                                      have n1_ := Aside0.mk (below_drew1 HB.out)
                                                      clear HO_9
                                                      clear HB
                                                      have HO_9 := n0_
                                                      have HB := n1_
                                                      clear n0_ n1_
                                                      obtain ⟨Ao49, co49, eo49⟩ := Kd.S_slice HO_9.out
                                                      (first | subst eo49 | (injection eo49 with f1_ f2_ f3_; have f4_ := f1_.symm; have f5_ := f3_.symm; clear f1_ f2_ f3_; subst f4_; subst f5_))
                                                      have p124 : 0 ≤ (x13_5 : Int) := of_decide_eq_true (by first | (with_reducible assumption) | assumption)
                                                      have q124 : x13_5 < (t121.length : Int) := of_decide_eq_true (by first | (with_reducible assumption) | assumption)
                                                      obtain ⟨ad124, A124_0, c124_0, e124, hx124_0, hx124_1, hx124_2, hl124_0, hi124_0⟩ := at_T42 (Kd.S_reads' HO_9.out).2.2 x13_5 p124 q124
                                                      cases e124
                                                      obtain ⟨ce124, hce124, hMe124, hcc124⟩ := Kd.S_get HO_9.out z42 x13_5 p124 (by first | exact q124 | exact of_decide_eq_true (by first | (with_reducible assumption) | assumption) | (have e_ := (Kd.S_reads' HO_9.out).1; omega))
                                                      obtain ⟨ve124_0, rfl, ge124_0⟩ := k42_openM hMe124
                                                      have hv124_0 := hcc124 0 _ rfl
                                                      rw [Nat.add_zero] at hv124_0
                                                      replace hv124_0 := Option.some.inj (hv124_0.symm.trans hx124_0)
                                                      rw [hv124_0] at ge124_0
                                                      have HL124_0 := Aside0.mk (show Kd.R (Kd.int .u8) 5 _ _ _ _ ((rd_T42 t121 x13_5).f0) from ge124_0)
                                                      clear hv124_0 ge124_0
                                                      clear hcc124 hce124
                                                      have HR124_0 := Aside0.mk hi124_0
                                                      have HC124_0 := Aside0.mk hl124_0
                                                      clear hi124_0 hl124_0
                                                      replace p124 := eq_true p124
                                                      replace q124 := eq_true q124
                                                      have p125 : 0 ≤ (x14_6 : Int) := of_decide_eq_true (by first | (with_reducible assumption) | assumption)
                                                      have q125 : x14_6 < (t121.length : Int) := of_decide_eq_true (by first | (with_reducible assumption) | assumption)
                                                      obtain ⟨ad125, A125_0, c125_0, e125, hx125_0, hx125_1, hx125_2, hl125_0, hi125_0⟩ := at_T42 (Kd.S_reads' HO_9.out).2.2 x14_6 p125 q125
                                                      obtain rfl : ad124 = ad125 := (by injection e125)
                                                      obtain ⟨ce125, hce125, hMe125, hcc125⟩ := Kd.S_get HO_9.out z42 x14_6 p125 (by first | exact q125 | exact of_decide_eq_true (by first | (with_reducible assumption) | assumption) | (have e_ := (Kd.S_reads' HO_9.out).1; omega))
                                                      obtain ⟨ve125_0, rfl, ge125_0⟩ := k42_openM hMe125
                                                      have hv125_0 := hcc125 0 _ rfl
                                                      rw [Nat.add_zero] at hv125_0
                                                      replace hv125_0 := Option.some.inj (hv125_0.symm.trans hx125_0)
                                                      rw [hv125_0] at ge125_0
                                                      have HL125_0 := Aside0.mk (show Kd.R (Kd.int .u8) 5 _ _ _ _ ((rd_T42 t121 x14_6).f0) from ge125_0)
                                                      clear hv125_0 ge125_0
                                                      clear hcc125 hce125
                                                      have HR125_0 := Aside0.mk hi125_0
                                                      have HC125_0 := Aside0.mk hl125_0
                                                      clear hi125_0 hl125_0
                                                      replace p125 := eq_true p125
                                                      replace q125 := eq_true q125
                                                      have p126 : 0 ≤ (x13_5 : Int) := of_decide_eq_true (by first | (with_reducible assumption) | assumption)
                                                      have q126 : x13_5 < (t121.length : Int) := of_decide_eq_true (by first | (with_reducible assumption) | assumption)
                                                      obtain ⟨ad126, A126_0, c126_0, e126, hx126_0, hx126_1, hx126_2, hl126_0, hi126_0⟩ := at_T42 (Kd.S_reads' HO_9.out).2.2 x13_5 p126 q126
                                                      obtain rfl : ad124 = ad126 := (by injection e126)
                                                      obtain ⟨ce126, hce126, hMe126, hcc126⟩ := Kd.S_get HO_9.out z42 x13_5 p126 (by first | exact q126 | exact of_decide_eq_true (by first | (with_reducible assumption) | assumption) | (have e_ := (Kd.S_reads' HO_9.out).1; omega))
                                                      obtain ⟨ve126_0, rfl, ge126_0⟩ := k42_openM hMe126
                                                      have hv126_0 := hcc126 0 _ rfl
                                                      rw [Nat.add_zero] at hv126_0
                                                      replace hv126_0 := Option.some.inj (hv126_0.symm.trans hx126_0)
                                                      rw [hv126_0] at ge126_0
                                                      have HL126_0 := Aside0.mk (show Kd.R (Kd.int .u8) 5 _ _ _ _ ((rd_T42 t121 x13_5).f0) from ge126_0)
                                                      clear hv126_0 ge126_0
                                                      clear hcc126 hce126
                                                      have HR126_0 := Aside0.mk hi126_0
                                                      have HC126_0 := Aside0.mk hl126_0
                                                      clear hi126_0 hl126_0
                                                      replace p126 := eq_true p126
                                                      replace q126 := eq_true q126
                                                      have ea_ := Option.some.inj (hx124_0.symm.trans hx126_0)
                                                      injection ea_ with ea_ en_ ec_
                                                      subst ea_
                                                      subst ec_
                                                      clear en_
                                                      refine start_ (n := 21) (S := fun w' => w'.cell? (ad124.add ((x13_5).toNat * 3)) = some (.slice A124_0 ((rd_T42 t121 x13_5).f0).length c124_0) ∧ w'.cell? ⟨(ad124.add ((x13_5).toNat * 3)).block, (ad124.add ((x13_5).toNat * 3)).off + 1, none⟩ = some (.int .i64 ((rd_T42 t121 x13_5).f1)) ∧ w'.cell? ⟨(ad124.add ((x13_5).toNat * 3)).block, (ad124.add ((x13_5).toNat * 3)).off + 2, none⟩ = some (.bool ((rd_T42 t121 x13_5).f2)) ∧ w'.cell? (ad124.add ((x14_6).toNat * 3)) = some (.slice A125_0 ((rd_T42 t121 x14_6).f0).length c125_0) ∧ w'.cell? ⟨(ad124.add ((x14_6).toNat * 3)).block, (ad124.add ((x14_6).toNat * 3)).off + 1, none⟩ = some (.int .i64 ((rd_T42 t121 x14_6).f1)) ∧ w'.cell? ⟨(ad124.add ((x14_6).toNat * 3)).block, (ad124.add ((x14_6).toNat * 3)).off + 2, none⟩ = some (.bool ((rd_T42 t121 x14_6).f2)) ∧ w'.cell? (ad124.add ((x13_5).toNat * 3)) = some (.slice A124_0 ((rd_T42 t121 x13_5).f0).length c124_0) ∧ w'.cell? ⟨(ad124.add ((x13_5).toNat * 3)).block, (ad124.add ((x13_5).toNat * 3)).off + 1, none⟩ = some (.int .i64 ((rd_T42 t121 x13_5).f1)) ∧ w'.cell? ⟨(ad124.add ((x13_5).toNat * 3)).block, (ad124.add ((x13_5).toNat * 3)).off + 2, none⟩ = some (.bool ((rd_T42 t121 x13_5).f2))) (ds := []) #[false, false, false, false, false, false, false, false, false, false, false, false, false, false, false, false, false, false, false, false, false] (by kernel_rfl) rfl rfl ⟨hx124_0, hx124_1, hx124_2, hx125_0, hx125_1, hx125_2, hx126_0, hx126_1, hx126_2⟩ (fun hHeld => ?_); refine with_tabW gazetteerlaw19_PickFair.tab24 gazetteerlaw19_PickFair.bits24 (fun HT_ HW_ => ?_)
                                                      generalize wr.drew = w48 at HO_9 HB HL124_0 HL125_0 HL126_0 HR124_0 HR125_0 HR126_0 hx124_0 hx124_1 hx124_2 hx125_0 hx125_1 hx125_2 hx126_0 hx126_1 hx126_2 hHeld ⊢
                                                      refine pure_ (i := 0) (N := some 88) (v := ?_) (a' := ?_) #[true, false, false, false, false, false, false, false, false, false, false, false, false, false, false, false, false, false, false, false, false] rfl rfl (any_of HT_.out (by kernel_rfl)) (fun _ _ _ h => h) (Or.inl ⟨by rfl, ?_⟩) ?_ ?_
                                                      rotate_left
                                                      · intro w'
                                                        go_simp
                                                        with_reducible rfl
                                                      rotate_left
                                                      · simp only [Act.put, List.setIfInBounds_toArray, List.set_cons_zero, List.set_cons_succ, i64_w, i32_w]
                                                        rfl
                                                      refine pure_ (i := 1) (N := some 89) (v := ?_) (a' := ?_) #[true, true, false, false, false, false, false, false, false, false, false, false, false, false, false, false, false, false, false, false, false] rfl rfl (any_of HT_.out (by kernel_rfl)) (fun _ _ _ h => h) (Or.inl ⟨by rfl, ?_⟩) ?_ ?_
                                                      rotate_left
                                                      · intro w'
                                                        go_simp
                                                        with_reducible rfl
                                                      rotate_left
                                                      · simp only [Act.put, List.setIfInBounds_toArray, List.set_cons_zero, List.set_cons_succ, i64_w, i32_w]
                                                        rfl
                                                      refine pure_ (i := 2) (N := some 90) (v := ?_) (a' := ?_) #[true, true, true, false, false, false, false, false, false, false, false, false, false, false, false, false, false, false, false, false, false] rfl rfl (any_of HT_.out (by kernel_rfl)) (fun _ _ _ h => h) (Or.inl ⟨by rfl, ?_⟩) ?_ ?_
                                                      rotate_left
                                                      · intro w'
                                                        go_simp
                                                        with_reducible rfl
                                                      rotate_left
                                                      · simp only [Act.put, List.setIfInBounds_toArray, List.set_cons_zero, List.set_cons_succ, i64_w, i32_w]
                                                        rfl
                                                      refine pure_ (i := 3) (N := some 91) (v := ?_) (a' := ?_) #[true, true, true, true, false, false, false, false, false, false, false, false, false, false, false, false, false, false, false, false, false] rfl rfl (any_of HT_.out (by kernel_rfl)) (fun _ _ _ h => h) (Or.inl ⟨by rfl, ?_⟩) ?_ ?_
                                                      rotate_left
                                                      · intro w'
                                                        go_simp
                                                        with_reducible rfl
                                                      rotate_left
                                                      · simp only [Act.put, List.setIfInBounds_toArray, List.set_cons_zero, List.set_cons_succ, i64_w, i32_w]
                                                        rfl
                                                      refine pure_ (i := 5) (N := some 93) (v := ?_) (a' := ?_) #[true, true, true, true, false, true, false, false, false, false, false, false, false, false, false, false, false, false, false, false, false] rfl rfl (any_of HT_.out (by kernel_rfl)) (fun _ _ _ h => h) (Or.inl ⟨by rfl, ?_⟩) ?_ ?_
                                                      rotate_left
                                                      · intro w'
                                                        go_simp
                                                        with_reducible rfl
                                                      rotate_left
                                                      · simp only [Act.put, List.setIfInBounds_toArray, List.set_cons_zero, List.set_cons_succ, i64_w, i32_w]
                                                        rfl
                                                      refine pure_ (i := 6) (N := some 94) (v := ?_) (a' := ?_) #[true, true, true, true, false, true, true, false, false, false, false, false, false, false, false, false, false, false, false, false, false] rfl rfl (any_of HT_.out (by kernel_rfl)) (fun _ _ _ h => h) (Or.inl ⟨by rfl, ?_⟩) ?_ ?_
                                                      rotate_left
                                                      · intro w'
                                                        go_simp
                                                        with_reducible rfl
                                                      rotate_left
                                                      · simp only [Act.put, List.setIfInBounds_toArray, List.set_cons_zero, List.set_cons_succ, i64_w, i32_w]
                                                        rfl
                                                      refine pure_ (i := 7) (N := some 95) (v := ?_) (a' := ?_) #[true, true, true, true, false, true, true, true, false, false, false, false, false, false, false, false, false, false, false, false, false] rfl rfl (any_of HT_.out (by kernel_rfl)) (fun _ _ _ h => h) (Or.inl ⟨by rfl, ?_⟩) ?_ ?_
                                                      rotate_left
                                                      · intro w'
                                                        go_simp
                                                        with_reducible rfl
                                                      rotate_left
                                                      · simp only [Act.put, List.setIfInBounds_toArray, List.set_cons_zero, List.set_cons_succ, i64_w, i32_w]
                                                        rfl
                                                      refine pure_ (i := 8) (N := some 96) (v := ?_) (a' := ?_) #[true, true, true, true, false, true, true, true, true, false, false, false, false, false, false, false, false, false, false, false, false] rfl rfl (any_of HT_.out (by kernel_rfl)) (fun _ _ _ h => h) (Or.inl ⟨by rfl, ?_⟩) ?_ ?_
                                                      rotate_left
                                                      · intro w'
                                                        go_simp
                                                        with_reducible rfl
                                                      rotate_left
                                                      · simp only [Act.put, List.setIfInBounds_toArray, List.set_cons_zero, List.set_cons_succ, i64_w, i32_w]
                                                        rfl
                                                      refine take_ (i := 4) (N := some 92) (v := ?_) (a' := ?_) #[true, true, true, true, true, true, true, true, true, false, false, false, false, false, false, false, false, false, false, false, false] rfl rfl (take_ofW HT_.out HW_.out (by kernel_rfl)) (fun _ _ _ h => h) (Or.inl ⟨by rfl, ?_⟩) hHeld ?_ ?_
                                                      rotate_left
                                                      · rintro w' ⟨s0, s1, s2, s3, s4, s5, s6, s7, s8⟩
                                                        go_simp
                                                        with_reducible rfl
                                                      rotate_left
                                                      · simp only [Act.put, List.setIfInBounds_toArray, List.set_cons_zero, List.set_cons_succ, i64_w, i32_w]
                                                        rfl
                                                      refine take_ (i := 9) (N := some 97) (v := ?_) (a' := ?_) #[true, true, true, true, true, true, true, true, true, true, false, false, false, false, false, false, false, false, false, false, false] rfl rfl (take_ofW HT_.out HW_.out (by kernel_rfl)) (fun _ _ _ h => h) (Or.inl ⟨by rfl, ?_⟩) hHeld ?_ ?_
                                                      rotate_left
                                                      · rintro w' ⟨s0, s1, s2, s3, s4, s5, s6, s7, s8⟩
                                                        go_simp
                                                        with_reducible rfl
                                                      rotate_left
                                                      · simp only [Act.put, List.setIfInBounds_toArray, List.set_cons_zero, List.set_cons_succ, i64_w, i32_w]
                                                        rfl
                                                      refine pure_ (i := 10) (N := some 98) (v := ?_) (a' := ?_) #[true, true, true, true, true, true, true, true, true, true, true, false, false, false, false, false, false, false, false, false, false] rfl rfl (any_of HT_.out (by kernel_rfl)) (fun _ _ _ h => h) (Or.inl ⟨by rfl, ?_⟩) ?_ ?_
                                                      rotate_left
                                                      · intro w'
                                                        go_simp
                                                        with_reducible rfl
                                                      rotate_left
                                                      · simp only [Act.put, List.setIfInBounds_toArray, List.set_cons_zero, List.set_cons_succ, i64_w, i32_w]
                                                        rfl
                                                      refine pure_ (i := 11) (N := some 99) (v := ?_) (a' := ?_) #[true, true, true, true, true, true, true, true, true, true, true, true, false, false, false, false, false, false, false, false, false] rfl rfl (any_of HT_.out (by kernel_rfl)) (fun _ _ _ h => h) (Or.inl ⟨by rfl, ?_⟩) ?_ ?_
                                                      rotate_left
                                                      · intro w'
                                                        go_simp
                                                        with_reducible rfl
                                                      rotate_left
                                                      · simp only [Act.put, List.setIfInBounds_toArray, List.set_cons_zero, List.set_cons_succ, i64_w, i32_w]
                                                        rfl
                                                      refine pure_ (i := 12) (N := some 100) (v := ?_) (a' := ?_) #[true, true, true, true, true, true, true, true, true, true, true, true, true, false, false, false, false, false, false, false, false] rfl rfl (any_of HT_.out (by kernel_rfl)) (fun _ _ _ h => h) (Or.inl ⟨by rfl, ?_⟩) ?_ ?_
                                                      rotate_left
                                                      · intro w'
                                                        go_simp
                                                        with_reducible rfl
                                                      rotate_left
                                                      · simp only [Act.put, List.setIfInBounds_toArray, List.set_cons_zero, List.set_cons_succ, i64_w, i32_w]
                                                        rfl
                                                      refine pure_ (i := 13) (N := some 101) (v := ?_) (a' := ?_) #[true, true, true, true, true, true, true, true, true, true, true, true, true, true, false, false, false, false, false, false, false] rfl rfl (any_of HT_.out (by kernel_rfl)) (fun _ _ _ h => h) (Or.inl ⟨by rfl, ?_⟩) ?_ ?_
                                                      rotate_left
                                                      · intro w'
                                                        go_simp
                                                        with_reducible rfl
                                                      rotate_left
                                                      · simp only [Act.put, List.setIfInBounds_toArray, List.set_cons_zero, List.set_cons_succ, i64_w, i32_w]
                                                        rfl
                                                      refine pure_ (i := 14) (N := some 102) (v := ?_) (a' := ?_) #[true, true, true, true, true, true, true, true, true, true, true, true, true, true, true, false, false, false, false, false, false] rfl rfl (any_of HT_.out (by kernel_rfl)) (fun _ _ _ h => h) (Or.inl ⟨by rfl, ?_⟩) ?_ ?_
                                                      rotate_left
                                                      · intro w'
                                                        go_simp
                                                        with_reducible rfl
                                                      rotate_left
                                                      · simp only [Act.put, List.setIfInBounds_toArray, List.set_cons_zero, List.set_cons_succ, i64_w, i32_w]
                                                        rfl
                                                      refine pure_ (i := 15) (N := some 103) (v := ?_) (a' := ?_) #[true, true, true, true, true, true, true, true, true, true, true, true, true, true, true, true, false, false, false, false, false] rfl rfl (any_of HT_.out (by kernel_rfl)) (fun _ _ _ h => h) (Or.inl ⟨by rfl, ?_⟩) ?_ ?_
                                                      rotate_left
                                                      · intro w'
                                                        go_simp
                                                        with_reducible rfl
                                                      rotate_left
                                                      · simp only [Act.put, List.setIfInBounds_toArray, List.set_cons_zero, List.set_cons_succ, i64_w, i32_w]
                                                        rfl
                                                      refine pure_ (i := 16) (N := some 104) (v := ?_) (a' := ?_) #[true, true, true, true, true, true, true, true, true, true, true, true, true, true, true, true, true, false, false, false, false] rfl rfl (any_of HT_.out (by kernel_rfl)) (fun _ _ _ h => h) (Or.inl ⟨by rfl, ?_⟩) ?_ ?_
                                                      rotate_left
                                                      · intro w'
                                                        go_simp
                                                        with_reducible rfl
                                                      rotate_left
                                                      · simp only [Act.put, List.setIfInBounds_toArray, List.set_cons_zero, List.set_cons_succ, i64_w, i32_w]
                                                        rfl
                                                      refine pure_ (i := 18) (N := some 106) (v := ?_) (a' := ?_) #[true, true, true, true, true, true, true, true, true, true, true, true, true, true, true, true, true, false, true, false, false] rfl rfl (any_of HT_.out (by kernel_rfl)) (fun _ _ _ h => h) (Or.inl ⟨by rfl, ?_⟩) ?_ ?_
                                                      rotate_left
                                                      · intro w'
                                                        go_simp
                                                        with_reducible rfl
                                                      rotate_left
                                                      · simp only [Act.put, List.setIfInBounds_toArray, List.set_cons_zero, List.set_cons_succ, i64_w, i32_w]
                                                        rfl
                                                      refine take_ (i := 17) (N := some 105) (v := ?_) (a' := ?_) #[true, true, true, true, true, true, true, true, true, true, true, true, true, true, true, true, true, true, true, false, false] rfl rfl (take_ofW HT_.out HW_.out (by kernel_rfl)) (fun _ _ _ h => h) (Or.inl ⟨by rfl, ?_⟩) hHeld ?_ ?_
                                                      rotate_left
                                                      · rintro w' ⟨s0, s1, s2, s3, s4, s5, s6, s7, s8⟩
                                                        go_simp
                                                        with_reducible rfl
                                                      rotate_left
                                                      · simp only [Act.put, List.setIfInBounds_toArray, List.set_cons_zero, List.set_cons_succ, i64_w, i32_w]
                                                        rfl
                                                      refine pure_ (i := 19) (N := some 107) (v := ?_) (a' := ?_) #[true, true, true, true, true, true, true, true, true, true, true, true, true, true, true, true, true, true, true, true, false] rfl rfl (any_of HT_.out (by kernel_rfl)) (fun _ _ _ h => h) (Or.inl ⟨by rfl, ?_⟩) ?_ ?_
                                                      rotate_left
                                                      · intro w'
                                                        go_simp
                                                        with_reducible rfl
                                                      rotate_left
                                                      · simp only [Act.put, List.setIfInBounds_toArray, List.set_cons_zero, List.set_cons_succ, i64_w, i32_w]
                                                        rfl
                                                      refine pure_ (i := 20) (N := some 108) (v := ?_) (a' := ?_) #[true, true, true, true, true, true, true, true, true, true, true, true, true, true, true, true, true, true, true, true, true] rfl rfl (any_of HT_.out (by kernel_rfl)) (fun _ _ _ h => h) (Or.inl ⟨by rfl, ?_⟩) ?_ ?_
                                                      rotate_left
                                                      · intro w'
                                                        go_simp
                                                        with_reducible rfl
                                                      rotate_left
                                                      · simp only [Act.put, List.setIfInBounds_toArray, List.set_cons_zero, List.set_cons_succ, i64_w, i32_w]
                                                        rfl
                                                      refine done_ (done_of HT_.out (by kernel_rfl)) ?_
                                                      try go_wp2
                                                      go_roundg k6
                                                      case measure => have := HK1.out; have := HJ9.out; have := HK3.out; have := HJ21.out; have := HK5.out; have := HK6.out; omega
                                                      case rel => exact ⟨(wrap64 (x14_6 + 1)), (by first | rfl | (simp; done) | (simp [*]; done)), H', ⟨by have := HK1.out; have := HJ9.out; have := HK3.out; have := HJ21.out; have := HK5.out; have := HK6.out; omega⟩, ⟨by (with_reducible repeat (first | apply Kd.S_alloc | apply Kd.S_drewN | apply Kd.S_drew)); exact HO_9.out⟩, ⟨by repeat (first | (with_reducible first | exact HB.out | apply below_alloc | apply pw_below_drewN | apply below_drew1) | exact HB.out)⟩⟩
                                                · rw [if_neg c41] at H
                                                  exact absurd H (by simp)
                                              · rw [if_neg c40] at H
                                                exact absurd H (by simp)
                                            · rw [if_neg c39] at H
                                              exact absurd H (by simp)
                                          · rw [if_neg c38] at H
                                            exact absurd H (by simp)
                                        · rw [if_neg c37] at H
                                          have c37b0 : decide (x14_6 < (wrap64 ((wrap64 (Int.tmod a0 9)) + 1))) = false := decide_eq_false c37
                                          clear c37
                                          have H' := Aside0.mk H
                                          clear H
                                          go_wp2
                                          go_roundg k6
                                          case measure => have := HK1.out; have := HJ9.out; have := HK3.out; have := HJ21.out; have := HK5.out; have := HK6.out; omega
                                          case rel => exact ⟨(wrap64 (x13_5 + 1)), (by first | rfl | (simp; done) | (simp [*]; done)), H', ⟨by have := HK1.out; have := HJ9.out; have := HK3.out; have := HJ21.out; have := HK5.out; have := HK6.out; omega⟩, ⟨by (with_reducible repeat (first | apply Kd.S_alloc | apply Kd.S_drewN | apply Kd.S_drew)); exact HO_9.out⟩, ⟨by repeat (first | (with_reducible first | exact HB.out | apply below_alloc | apply pw_below_drewN | apply below_drew1) | exact HB.out)⟩⟩
                                  · rw [if_neg c36] at H
                                    have c36b0 : decide (x13_5 < (wrap64 ((wrap64 (Int.tmod a0 9)) + 1))) = false := decide_eq_false c36
                                    clear c36
                                    have H' := Aside0.mk H
                                    clear H
                                    go_wp2
                                    go_roundg k5
                                    case measure => have := HK1.out; have := HJ9.out; have := HK3.out; have := HJ21.out; have := HK5.out; omega
                                    case rel => exact ⟨(t121), (wrap64 (x11_3 + 1)), (by first | rfl | (simp; done) | (simp [*]; done)), H', ⟨by have := HK1.out; have := HJ9.out; have := HK3.out; have := HJ21.out; have := HK5.out; omega⟩, ⟨by (with_reducible repeat (first | apply Kd.S_alloc | apply Kd.S_drewN | apply Kd.S_drew)); exact HO_9.out⟩, ⟨by repeat (first | (with_reducible first | exact HB.out | apply below_alloc | apply pw_below_drewN | apply below_drew1) | exact HB.out)⟩⟩
                    · rw [if_neg c20] at H
                      exact absurd H (by simp)
                  · rw [if_neg c18] at H
                    have c18b0 : decide (x11_3 < (l2.length : Int)) = false := decide_eq_false c18
                    clear c18
                    obtain rfl := Option.some.inj H
                    go_wp2
                    go_ret
                    exact ⟨by first | rfl | (simp [errW_none, errW_some] <;> rfl) | (simp [*, errW_none, errW_some] <;> rfl), by repeat (first | (with_reducible first | exact HB.out | apply below_alloc | apply pw_below_drewN | apply below_drew1) | exact HB.out)⟩

/-- THE ONE PURE STATEMENT of gazetteerlaw19_PickFair: yours. -/
def gazetteerlaw19_PickFair.Pure : Prop := ∀ (a0 : Int) (a1 : Int) (l2 : List Int), (Lit.int .u8 a0).wf = true → (Lit.int .u8 a1).wf = true → l2.length ≤ maxLen → l2.length * 2 ≤ 140737488351232 → (∀ x ∈ l2, (Lit.int .u16 x).wf = true) → ∃ k, gazetteerlaw19_PickFair.f k a0 a1 l2 = some true
theorem gazetteerlaw19_PickFair.walk (P : gazetteerlaw19_PickFair.Pure) (a0 : Int) (a1 : Int) (a2 : Option Addr) (len2 cap2 : Nat) (z2 : List Int) (w : World) (w0 : (Lit.int .u8 a0).wf = true) (w1 : (Lit.int .u8 a1).wf = true) (w2 : (a2 = none ∧ len2 = 0 ∧ cap2 = 0 ∧ z2 = []) ∨ ∃ x, a2 = some x ∧ len2 ≤ cap2 ∧ cap2 ≤ maxLen ∧ z2.length = cap2 ∧ (∀ i, i < z2.length → w.cell? (x.add i) = some (.int .u16 (z2.getD i 0))) ∧ ∀ n ∈ z2, (Lit.int .u16 n).wf = true) (y2 : len2 * 2 ≤ 140737488351232) :
    Calls Try.prog 13 #[.int .u8 a0, .int .u8 a1, .slice a2 len2 cap2] w fun e w' => e = .returned (.bool true) ∧ Below w.heap.size w w' := by
  obtain ⟨l2, rfl, hr2, hm2, hw2, hc2⟩ := ReadsInt.ofRowC w2
  obtain ⟨k, h⟩ := P a0 a1 l2 w0 w1 hm2 y2 hw2
  refine (gazetteerlaw19_PickFair.calls k a0 a1 _ _ l2 true w (Kd.C_of_reads (d := (0 : Int)) (h1 := fun _ => rfl) hr2) hc2 h).mono ?_
  rintro e w' ⟨rfl, hd⟩
  exact ⟨rfl, hd⟩

end Go.Proofs.Ytaappkompmdjnaa.HPickFair
