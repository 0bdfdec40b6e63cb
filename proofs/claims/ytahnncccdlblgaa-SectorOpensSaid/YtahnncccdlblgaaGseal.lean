/- What sector.Seal and the reference's Seal do, in closed form. Conditions: numbers of 64 bits. -/
import Derived.Test.YtahnncccdlblgaaBSecx2
namespace Go.Proofs.Ytahnncccdlblgaa.G
open Go.RowKit Go.Proofs.YtahnncccdlblgaaW.PrintWords Go.Proofs.YtahnncccdlblgaaW.PrintLast Go.Proofs.YtahnncccdlblgaaW.PrintMore Go.Proofs.Ytahnncccdlblgaa.Plain
set_option linter.unusedVariables false
set_option linter.unusedSimpArgs false

/-- May a head be of a sector? -/
def headOk (a0 a1 a2 a3 a4 : Int) : Bool := fits a0 1 && (fits a1 4 && (fits a2 7 && (fits a3 1 && (fits a4 1 && (decide (a0 ≠ 0) && (decide (a4 ≠ 0) && decide (a3 < a4)))))))
/-- A sector's bytes. -/
def sealB (a0 a1 a2 a3 a4 : Int) (l : List Int) : List Int := be a0 1 ++ be a1 4 ++ be a2 7 ++ be a3 1 ++ be a4 1 ++ be (l.length : Int) 2 ++ l ++ List.replicate (496 - l.length) 0
def sealF (a0 a1 a2 a3 a4 : Int) (l : List Int) : List Int × Int := if headOk a0 a1 a2 a3 a4 = true then (if l.length ≤ 496 then (sealB a0 a1 a2 a3 a4 l, 0) else ([], 4)) else ([], 15)
theorem sealB_length (a0 a1 a2 a3 a4 : Int) (l : List Int) (hl : l.length ≤ 496) : (sealB a0 a1 a2 a3 a4 l).length = 512 := by
  simp [sealB, be_length]; omega
theorem sealF_zero (a0 a1 a2 a3 a4 : Int) (l : List Int) : (sealF a0 a1 a2 a3 a4 l).1.length ≤ 512 := by
  unfold sealF; split
  · split
    · rename_i h; rw [sealB_length _ _ _ _ _ _ h]; omega
    · simp
  · simp

theorem w1 : wrap64 (1 : Int) = 1 := by unfold wrap64; omega
theorem w2 : wrap64 (2 : Int) = 2 := by unfold wrap64; omega
theorem w3 : wrap64 (3 : Int) = 3 := by unfold wrap64; omega
theorem w4 : wrap64 (4 : Int) = 4 := by unfold wrap64; omega
theorem w5 : wrap64 (5 : Int) = 5 := by unfold wrap64; omega
theorem w6 : wrap64 (6 : Int) = 6 := by unfold wrap64; omega

theorem seal_l1 (a0 a1 a2 a3 a4 : Int) (l : List Int) (hl : l.length ≤ 496) (h0 : fits a0 1 = true) (h1 : fits a1 4 = true) (h2 : fits a2 7 = true) (h3 : fits a3 1 = true) (h4 : fits a4 1 = true) (k : Nat) :
    BSec.sector_Seal.l1 (k + 7) l [] [a0, a1, a2, a3, a4, (l.length : Int)] 6 0 = some (sealB a0 a1 a2 a3 a4 l, 0) := by
  have h5 : fits (l.length : Int) 2 = true := fits_iff.2 ⟨by decide, by decide, by omega, by simp; omega⟩
  have hw : wrap64 (512 - (16 + (l.length : Int))) = ((496 - l.length : Nat) : Int) := by unfold wrap64; omega
  simp [BSec.sector_Seal.l1, BSec.sector_sizes.f, num_Put.f, rd, h0, h1, h2, h3, h4, h5, w1, w2, w3, w4, w5, w6, be_length]
  rw [hw]
  refine ⟨by omega, by omega, by rw [Int.toNat_natCast]; omega, ?_⟩
  simp [sealB]

theorem seal_base (a0 a1 a2 a3 a4 : Int) (l : List Int) : BSec.sector_Seal.f 20 a0 a1 a2 a3 a4 l = some (sealF a0 a1 a2 a3 a4 l) := by
  unfold BSec.sector_Seal.f sealF headOk
  simp only [Option.bind_some, List.length_cons, List.length_nil, List.take_succ_cons, List.take_zero]
  rw [if_pos (by decide)]
  cases h0 : fits a0 1 with
  | false => simp [BSec.sector_Seal.l0, BSec.sector_sizes.f, num_Fits.f, rd, h0]
  | true =>
  cases h1 : fits a1 4 with
  | false => simp [BSec.sector_Seal.l0, BSec.sector_sizes.f, num_Fits.f, rd, h0, h1, w1, w2, w3, w4, w5]
  | true =>
  cases h2 : fits a2 7 with
  | false => simp [BSec.sector_Seal.l0, BSec.sector_sizes.f, num_Fits.f, rd, h0, h1, h2, w1, w2, w3, w4, w5]
  | true =>
  cases h3 : fits a3 1 with
  | false => simp [BSec.sector_Seal.l0, BSec.sector_sizes.f, num_Fits.f, rd, h0, h1, h2, h3, w1, w2, w3, w4, w5]
  | true =>
  cases h4 : fits a4 1 with
  | false => simp [BSec.sector_Seal.l0, BSec.sector_sizes.f, num_Fits.f, rd, h0, h1, h2, h3, h4, w1, w2, w3, w4, w5]
  | true =>
  have hL := seal_l1 a0 a1 a2 a3 a4 l
  by_cases e0 : a0 = 0
  · simp [BSec.sector_Seal.l0, BSec.sector_Seal.j1, BSec.sector_sizes.f, num_Fits.f, rd, h0, h1, h2, h3, h4, w1, w2, w3, w4, w5, e0]
  · by_cases e4 : a4 = 0
    · simp [BSec.sector_Seal.l0, BSec.sector_Seal.j1, BSec.sector_sizes.f, num_Fits.f, rd, h0, h1, h2, h3, h4, w1, w2, w3, w4, w5, e0, e4]
    · by_cases e3 : a3 < a4
      · by_cases hl : l.length ≤ 496
        · have hL := hL hl h0 h1 h2 h3 h4 6
          simp [BSec.sector_Seal.l0, BSec.sector_Seal.j1, BSec.sector_sizes.f, num_Fits.f, rd, h0, h1, h2, h3, h4, w1, w2, w3, w4, w5, e0, e4, e3]
          rw [if_neg (by omega), if_neg (by omega), if_pos hl, hL]
        · simp [BSec.sector_Seal.l0, BSec.sector_Seal.j1, BSec.sector_sizes.f, num_Fits.f, rd, h0, h1, h2, h3, h4, w1, w2, w3, w4, w5, e0, e4, e3]
          rw [if_neg (by omega), if_pos (by omega), if_neg hl]
      · simp [BSec.sector_Seal.l0, BSec.sector_Seal.j1, BSec.sector_sizes.f, num_Fits.f, rd, h0, h1, h2, h3, h4, w1, w2, w3, w4, w5, e0, e4, e3]

def sector_Seal.f (a0 a1 a2 a3 a4 : Int) (l : List Int) : Option (List Int × Int) := some (sealF a0 a1 a2 a3 a4 l)
theorem sector_Seal.calls (a0_0 : Int) (a0_1 : Int) (a0_2 : Int) (a0_3 : Int) (a0_4 : Int) (A1 : Option Addr) (c1 : Nat) (l1 : List Int) (r1 : List Int) (r2 : Int) (w : World) (hr1 : Kd.C (Kd.int .u8) w A1 l1.length l1) (hc1 : l1.length ≤ c1) (h : sector_Seal.f a0_0 a0_1 a0_2 a0_3 a0_4 l1 = some (r1, r2)) :
    Calls Try.prog 14 #[.agg #[.int .i64 a0_0, .int .i64 a0_1, .int .i64 a0_2, .int .i64 a0_3, .int .i64 a0_4], .slice A1 l1.length c1] w fun e w' => ∃ v0_ : Value, e = .returned (.tuple #[v0_, .int .i64 r2]) ∧ Kd.R (Kd.int .u8) 5 w' w.heap.size (fun _ => True) v0_ r1 ∧ Below w.heap.size w w' :=
  BSec.sector_Seal.calls 20 a0_0 a0_1 a0_2 a0_3 a0_4 A1 c1 l1 r1 r2 w hr1 hc1 ((seal_base a0_0 a0_1 a0_2 a0_3 a0_4 l1).trans h)

/-! ### the reference's Seal -/
theorem rseal_l0 (d : Nat) : ∀ (x : List Int) (k : Nat), x.length + d = 512 → d < k → BSec.gazetteerref08_Seal.l0 k x = some (x ++ List.replicate d 0, 0) := by
  induction d with
  | zero =>
    intro x k hx hk
    obtain ⟨k, rfl⟩ : ∃ m, k = m + 1 := ⟨k - 1, by omega⟩
    simp only [BSec.gazetteerref08_Seal.l0]
    rw [if_neg (by omega)]; simp
  | succ d ih =>
    intro x k hx hk
    obtain ⟨k, rfl⟩ : ∃ m, k = m + 1 := ⟨k - 1, by omega⟩
    simp only [BSec.gazetteerref08_Seal.l0]
    rw [if_pos (by omega), if_pos (by omega), ih (x ++ [0]) k (by simp; omega) (by omega), List.append_assoc]
    rfl
theorem rseal_base (a0 a1 a2 a3 a4 : Int) (l : List Int) (b0 : a0 ≤ 9223372036854775807) (b1 : a1 ≤ 9223372036854775807) (b2 : a2 ≤ 9223372036854775807) (b3 : a3 ≤ 9223372036854775807) (b4 : a4 ≤ 9223372036854775807) :
    BSec.gazetteerref08_Seal.f 600 a0 a1 a2 a3 a4 l = some (sealF a0 a1 a2 a3 a4 l) := by
  unfold BSec.gazetteerref08_Seal.f sealF headOk gazetteerref01_Fits.f
  rw [if_pos b0, if_pos b1, if_pos b2, if_pos b3, if_pos b4]
  simp only [Option.bind_some]
  cases h0 : fits a0 1 with
  | false => simp [BSec.gazetteerref08_Seal.j0]
  | true =>
  cases h1 : fits a1 4 with
  | false => simp [BSec.gazetteerref08_Seal.j0]
  | true =>
  cases h2 : fits a2 7 with
  | false => simp [BSec.gazetteerref08_Seal.j0]
  | true =>
  cases h3 : fits a3 1 with
  | false => simp [BSec.gazetteerref08_Seal.j0]
  | true =>
  cases h4 : fits a4 1 with
  | false => simp [BSec.gazetteerref08_Seal.j0]
  | true =>
  by_cases e0 : a0 = 0
  · simp [BSec.gazetteerref08_Seal.j0, e0]
  · by_cases e4 : a4 = 0
    · simp [BSec.gazetteerref08_Seal.j0, e0, e4]
    · by_cases e3 : a3 < a4
      · by_cases hl : l.length ≤ 496
        · have h5 : fits (l.length : Int) 2 = true := fits_iff.2 ⟨by decide, by decide, by omega, by simp; omega⟩
          have hd : decide (a3 ≥ a4) = false := decide_eq_false (by omega)
          rw [if_pos rfl, if_pos rfl, if_pos rfl, if_pos rfl, if_pos rfl, if_neg e0, if_neg e4, hd]
          simp only [BSec.gazetteerref08_Seal.j0]
          rw [if_neg (by decide), if_neg (by omega)]
          simp [gazetteerref01_Put.f, num_Put.f, h0, h1, h2, h3, h4, h5, b0, b1, b2, b3, b4, be_length, e0, e4, e3, hl]
          rw [if_pos (by omega)]
          rw [Option.bind_some, if_pos (by simp [be_length]; omega), rseal_l0 (496 - l.length) _ _ (by simp [be_length]; omega) (by omega)]
          simp [sealB]
        · simp [BSec.gazetteerref08_Seal.j0, e0, e4, e3]
          rw [if_neg (by omega), if_pos (by omega), if_neg hl]
      · simp [BSec.gazetteerref08_Seal.j0, e0, e4, e3]
def gazetteerref08_Seal.f (a0 a1 a2 a3 a4 : Int) (l : List Int) : Option (List Int × Int) :=
  if a0 ≤ 9223372036854775807 then (if a1 ≤ 9223372036854775807 then (if a2 ≤ 9223372036854775807 then (if a3 ≤ 9223372036854775807 then (if a4 ≤ 9223372036854775807 then some (sealF a0 a1 a2 a3 a4 l) else none) else none) else none) else none) else none
theorem gazetteerref08_Seal.calls (a0 : Int) (a1 : Int) (a2 : Int) (a3 : Int) (a4 : Int) (A5 : Option Addr) (c5 : Nat) (l5 : List Int) (r1 : List Int) (r2 : Int) (w : World) (hr5 : Kd.C (Kd.int .u8) w A5 l5.length l5) (hc5 : l5.length ≤ c5) (h : gazetteerref08_Seal.f a0 a1 a2 a3 a4 l5 = some (r1, r2)) :
    Calls Try.prog 15 #[.int .i64 a0, .int .i64 a1, .int .i64 a2, .int .i64 a3, .int .i64 a4, .slice A5 l5.length c5] w fun e w' => ∃ v0_ : Value, e = .returned (.tuple #[v0_, .int .i64 r2]) ∧ Kd.R (Kd.int .u8) 5 w' w.heap.size (fun _ => True) v0_ r1 ∧ Below w.heap.size w w' := by
  unfold gazetteerref08_Seal.f at h
  split at h
  · split at h
    · split at h
      · split at h
        · split at h
          · rename_i b0 b1 b2 b3 b4
            exact BSec.gazetteerref08_Seal.calls 600 a0 a1 a2 a3 a4 A5 c5 l5 r1 r2 w hr5 hc5 ((rseal_base a0 a1 a2 a3 a4 l5 b0 b1 b2 b3 b4).trans h)
          · cases h
        · cases h
      · cases h
    · cases h
  · cases h

theorem answers_f : BSec.gazetteerlaw09_answers.f 20 = some true := by
  unfold BSec.gazetteerlaw09_answers.f
  rw [seal_base]
  decide +kernel
def gazetteerlaw09_answers.f : Option Bool := some true
theorem gazetteerlaw09_answers.calls (r : Bool) (w : World) (h : gazetteerlaw09_answers.f = some r) :
    Calls Try.prog 13 #[] w fun e w' => e = .returned (.bool r) ∧ Below w.heap.size w w' :=
  BSec.gazetteerlaw09_answers.calls 20 r w (answers_f.trans h)

end Go.Proofs.Ytahnncccdlblgaa.G
