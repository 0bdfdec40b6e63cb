/- What the references' Fits, Same, Put and Get do, in closed form. Conditions: fewer bytes than may be appended to; numbers of 64 bits; cells that are bytes. -/
import Derived.Test.YtahnncccdlblgaaBRefx1
import Derived.Test.YtahnncccdlblgaaGget
namespace Go.Proofs.Ytahnncccdlblgaa.G
open Go.RowKit Go.Proofs.YtahnncccdlblgaaW.PrintWords Go.Proofs.YtahnncccdlblgaaW.PrintLast Go.Proofs.YtahnncccdlblgaaW.PrintMore Go.Proofs.Ytahnncccdlblgaa.Plain
set_option linter.unusedVariables false
set_option linter.unusedSimpArgs false

theorem wrap_id {n : Int} (h0 : -9223372036854775808 ≤ n) (h1 : n ≤ 9223372036854775807) : wrap64 n = n := by unfold wrap64; omega
theorem bool_false_of {b : Bool} {p : Prop} (h : b = true ↔ p) (hp : ¬ p) : b = false := by rw [Bool.eq_false_iff]; exact fun e => hp (h.1 e)

/-! ### Fits -/
theorem rfits_loop (d : Nat) : ∀ (k : Nat) (x s i : Int), 0 ≤ x → x ≤ 9223372036854775807 → 0 ≤ i → i ≤ s → s ≤ 7 → s - i = d → d < k →
    BRef.gazetteerref01_Fits.l0 k x s i = some (x / 256 ^ d == 0) := by
  induction d with
  | zero =>
    intro k x s i _ _ _ _ _ hd hk
    obtain ⟨k, rfl⟩ : ∃ m, k = m + 1 := ⟨k - 1, by omega⟩
    simp only [BRef.gazetteerref01_Fits.l0]
    rw [if_neg (by omega)]; simp
  | succ d ih =>
    intro k x s i h0 h1 h2 h3 h4 hd hk
    obtain ⟨k, rfl⟩ : ∃ m, k = m + 1 := ⟨k - 1, by omega⟩
    simp only [BRef.gazetteerref01_Fits.l0]
    rw [if_pos (by omega), Int.tdiv_eq_ediv_of_nonneg h0, wrap_id (n := x / 256) (by omega) (by omega), wrap_id (by omega) (by omega)]
    rw [ih k (x / 256) s (i + 1) (by omega) (by omega) (by omega) (by omega) h4 (by omega) (by omega)]
    rw [Int.pow_succ, Int.mul_comm, Int.ediv_ediv_of_nonneg (by decide)]
theorem div_zero {n s : Int} (h1 : 1 ≤ s) (h7 : s ≤ 7) (h0 : 0 ≤ n) : (n / 256 ^ s.toNat == 0) = fits n s := by
  rw [← shr_zero h1 h7 h0, pow256, show (8 * s).toNat = 8 * s.toNat by omega]
def gazetteerref01_Fits.f (a0 a1 : Int) : Option Bool := if a0 ≤ 9223372036854775807 then some (fits a0 a1) else none
theorem rfits_base (a0 a1 : Int) (h : a0 ≤ 9223372036854775807) : BRef.gazetteerref01_Fits.f 9 a0 a1 = some (fits a0 a1) := by
  unfold BRef.gazetteerref01_Fits.f
  by_cases h1 : a1 < 1
  · rw [if_pos h1, bool_false_of fits_iff (fun h => by omega)]; rfl
  · by_cases h2 : a1 > 7
    · rw [if_neg h1, if_pos h2, bool_false_of fits_iff (fun h => by omega)]; rfl
    · rw [if_neg h1, if_neg h2]
      simp only [BRef.gazetteerref01_Fits.j0]
      by_cases h3 : a0 < 0
      · rw [if_pos (decide_eq_true h3), bool_false_of fits_iff (fun h => by omega)]
      · rw [if_neg (by simp; omega), rfits_loop a1.toNat 8 a0 a1 0 (by omega) h (by omega) (by omega) (by omega) (by omega) (by omega), div_zero (by omega) (by omega) (by omega)]
theorem gazetteerref01_Fits.calls (a0 a1 : Int) (r : Bool) (w : World) (h : gazetteerref01_Fits.f a0 a1 = some r) :
    Calls Try.prog 36 #[.int .i64 a0, .int .i64 a1] w fun e w' => e = .returned (.bool r) ∧ Drawn0 w w' := by
  unfold gazetteerref01_Fits.f at h
  by_cases h1 : a0 ≤ 9223372036854775807
  · rw [if_pos h1] at h
    exact BRef.gazetteerref01_Fits.calls 9 a0 a1 r w ((rfits_base a0 a1 h1).trans h)
  · rw [if_neg h1] at h; cases h

/-! ### Same -/
theorem rsame_loop (l0 l1 : List Int) (hl : l0.length = l1.length) (hm : l0.length ≤ 9223372036854775807) (d : Nat) : ∀ (k : Nat) (i : Nat), i + d = l0.length → d < k →
    BRef.gazetteerref01_Same.l0 k l0 l1 (i : Int) = some (decide (l0.drop i = l1.drop i)) := by
  induction d with
  | zero =>
    intro k i hi hk
    obtain ⟨k, rfl⟩ : ∃ m, k = m + 1 := ⟨k - 1, by omega⟩
    simp only [BRef.gazetteerref01_Same.l0]
    rw [if_neg (by omega), List.drop_eq_nil_of_le (by omega), List.drop_eq_nil_of_le (by omega)]; simp
  | succ d ih =>
    intro k i hi hk
    obtain ⟨k, rfl⟩ : ∃ m, k = m + 1 := ⟨k - 1, by omega⟩
    simp only [BRef.gazetteerref01_Same.l0]
    rw [if_pos (by omega), if_pos (by omega), if_pos (by omega), wrap_id (by omega) (by omega)]
    have h0 : i < l0.length := by omega
    have h1 : i < l1.length := by omega
    have e0 : rd l0 (i : Int) = l0[i] := by simp [rd, List.getD_eq_getElem?_getD, h0]
    have e1 : rd l1 (i : Int) = l1[i] := by simp [rd, List.getD_eq_getElem?_getD, h1]
    rw [e0, e1]
    by_cases he : l0[i] = l1[i]
    · rw [if_pos he, show ((i : Int) + 1) = ((i + 1 : Nat) : Int) by omega, ih k (i + 1) (by omega) (by omega)]
      congr 1
      rw [decide_eq_decide, List.drop_eq_getElem_cons h0, List.drop_eq_getElem_cons h1, he]
      exact ⟨fun h => by rw [h], fun h => (List.cons.inj h).2⟩
    · rw [if_neg he, decide_eq_false]
      rw [List.drop_eq_getElem_cons h0, List.drop_eq_getElem_cons h1]
      exact fun h => he (List.cons.inj h).1
def gazetteerref01_Same.f (l0 l1 : List Int) : Option Bool := some (decide (l0 = l1))
theorem gazetteerref01_Same.calls (A0 : Option Addr) (c0 : Nat) (l0 : List Int) (A1 : Option Addr) (c1 : Nat) (l1 : List Int) (r : Bool) (w : World) (hr0 : Kd.C (Kd.int .u8) w A0 l0.length l0) (hc0 : l0.length ≤ c0) (hr1 : Kd.C (Kd.int .u8) w A1 l1.length l1) (hc1 : l1.length ≤ c1) (h : gazetteerref01_Same.f l0 l1 = some r) :
    Calls Try.prog 16 #[.slice A0 l0.length c0, .slice A1 l1.length c1] w fun e w' => e = .returned (.bool r) ∧ Drawn0 w w' := by
  refine BRef.gazetteerref01_Same.calls (l0.length + 1) A0 c0 l0 A1 c1 l1 r w hr0 hc0 hr1 hc1 ?_
  unfold gazetteerref01_Same.f at h
  rw [← h]
  unfold BRef.gazetteerref01_Same.f
  by_cases hl : (l0.length : Int) = (l1.length : Int)
  · rw [if_pos hl]
    have := rsame_loop l0 l1 (by omega) (Kd.C_max hr0) l0.length (l0.length + 1) 0 (by omega) (by omega)
    simpa using this
  · rw [if_neg hl]
    have : l0 ≠ l1 := fun e => hl (by rw [e])
    simp [this]

/-! ### Put -/
theorem rput_loop (l : List Int) (hl : l.length ≤ 70368744177664) (d : Nat) : ∀ (k : Nat) (x : Int) (ys : List Int), 0 ≤ x → x ≤ 9223372036854775807 → d ≤ ys.length → ys.length ≤ 7 → d < k →
    BRef.gazetteerref01_Put.l0 k x l ys ((d : Int) - 1) = some (l ++ (be x d ++ ys.drop d)) := by
  induction d with
  | zero =>
    intro k x ys _ _ _ h7 hk
    obtain ⟨k, rfl⟩ : ∃ m, k = m + 1 := ⟨k - 1, by omega⟩
    simp only [BRef.gazetteerref01_Put.l0]
    rw [if_neg (by omega), if_pos (by omega)]; simp [be]
  | succ d ih =>
    intro k x ys h0 h1 hd h7 hk
    obtain ⟨k, rfl⟩ : ∃ m, k = m + 1 := ⟨k - 1, by omega⟩
    simp only [BRef.gazetteerref01_Put.l0]
    rw [if_pos (by omega), if_pos (by omega), if_pos (by omega), wrap_id (n := ((d + 1 : Nat) : Int) - 1 - 1) (by omega) (by omega), Int.tdiv_eq_ediv_of_nonneg h0, Int.tmod_eq_emod_of_nonneg h0, wrap_id (n := x / 256) (by omega) (by omega)]
    rw [show ((d + 1 : Nat) : Int) - 1 - 1 = (d : Int) - 1 by omega, show (((d + 1 : Nat) : Int) - 1).toNat = d by omega]
    rw [ih k (x / 256) _ (by omega) (by omega) (by rw [List.length_set]; omega) (by rw [List.length_set]; omega) (by omega)]
    congr 2
    have e1 : ∀ m, be x (m + 1) = be (x / 256) m ++ [x % 256] := by
      intro m
      induction m with
      | zero => simp [be]
      | succ m ihm =>
        rw [be, ihm, be]
        rw [Int.pow_succ, Int.mul_comm, Int.ediv_ediv_of_nonneg (by decide)]; rfl
    rw [e1, List.append_assoc]
    congr 1
    have hd' : d < ys.length := by omega
    rw [List.drop_set, if_neg (by omega), Nat.sub_self, List.drop_eq_getElem_cons hd', List.set_cons_zero, show x % 256 % 256 = x % 256 by omega]
    rfl
def gazetteerref01_Put.f (l : List Int) (n s : Int) : Option (List Int) := if n ≤ 9223372036854775807 then num_Put.f l n s else none
theorem gazetteerref01_Put.calls (A0 : Option Addr) (c0 : Nat) (l0 : List Int) (a1 a2 : Int) (r : List Int) (w : World) (hr0 : Kd.C (Kd.int .u8) w A0 l0.length l0) (hc0 : l0.length ≤ c0) (h : gazetteerref01_Put.f l0 a1 a2 = some r) :
    Calls Try.prog 37 #[.slice A0 l0.length c0, .int .i64 a1, .int .i64 a2] w fun e w' => ∃ v0_ : Value, e = .returned (v0_) ∧ Kd.R (Kd.int .u8) 5 w' w.heap.size (fun _ => True) v0_ r ∧ Below w.heap.size w w' := by
  refine BRef.gazetteerref01_Put.calls 9 A0 c0 l0 a1 a2 r w hr0 hc0 ?_
  unfold gazetteerref01_Put.f num_Put.f at h
  by_cases h1 : a1 ≤ 9223372036854775807
  · rw [if_pos h1] at h
    by_cases hl : l0.length ≤ 70368744177664
    · rw [if_pos hl] at h
      rw [← h]
      unfold BRef.gazetteerref01_Put.f
      simp only [Option.bind_some, List.nil_append, List.length_nil]
      rw [if_pos (by omega), rfits_base a1 a2 h1]
      simp only [Option.bind_some]
      by_cases hf : fits a1 a2 = true
      · obtain ⟨f1, f2, f3, f4⟩ := fits_iff.1 hf
        rw [if_pos hf, if_pos hf, if_pos (by omega), if_pos (by omega), wrap_id (by omega) (by omega)]
        have := rput_loop l0 hl a2.toNat 9 a1 (List.replicate a2.toNat 0) f3 h1 (by simp) (by simp; omega) (by omega)
        rw [show ((a2.toNat : Nat) : Int) - 1 = a2 - 1 by omega] at this
        rw [this]; simp
      · rw [if_neg hf, if_neg hf]
    · rw [if_neg hl] at h; cases h
  · rw [if_neg h1] at h; cases h

/-! ### Get -/
theorem rget_loop (l : List Int) (hb : ∀ x ∈ l, 0 ≤ x ∧ x ≤ 255) (hm : l.length ≤ 9223372036854775807) (p s : Nat) (hs : s ≤ 7) (hp : p + s ≤ l.length) (d : Nat) : ∀ (k j : Nat), j + d = s → d < k →
    BRef.gazetteerref01_Get.l0 k l (p : Int) (s : Int) (val ((l.drop p).take j)) (j : Int) = some (val ((l.drop p).take s), 0) := by
  induction d with
  | zero =>
    intro k j hj hk
    obtain ⟨k, rfl⟩ : ∃ m, k = m + 1 := ⟨k - 1, by omega⟩
    simp only [BRef.gazetteerref01_Get.l0]
    rw [if_neg (by omega), show j = s by omega]
  | succ d ih =>
    intro k j hj hk
    obtain ⟨k, rfl⟩ : ∃ m, k = m + 1 := ⟨k - 1, by omega⟩
    simp only [BRef.gazetteerref01_Get.l0]
    have hbd := val_bd ((l.drop p).take j) (fun x hx => hb x (List.mem_of_mem_drop (List.mem_of_mem_take hx)))
    have hpow : (256 : Int) ^ ((l.drop p).take j).length ≤ 256 ^ 6 := pow256_le (by rw [List.length_take]; omega)
    rw [if_pos (by omega), wrap_id (n := (p : Int) + (j : Int)) (by omega) (by omega), if_pos (by omega), if_pos (by omega)]
    have hlt : p + j < l.length := by omega
    have er : rd l ((p : Int) + (j : Int)) = l[p + j] := by
      have : ((p : Int) + (j : Int)).toNat = p + j := by omega
      simp [rd, this, List.getD_eq_getElem?_getD, hlt]
    have hx := hb l[p + j] (List.getElem_mem hlt)
    have e6 : (256 : Int) ^ 6 = 281474976710656 := by decide
    rw [er, wrap_id (n := l[p + j]) (by omega) (by omega), wrap_id (n := val ((l.drop p).take j) * 256) (by omega) (by omega), wrap_id (n := val ((l.drop p).take j) * 256 + l[p + j]) (by omega) (by omega), wrap_id (n := (j : Int) + 1) (by omega) (by omega)]
    have ev : val ((l.drop p).take j) * 256 + l[p + j] = val ((l.drop p).take (j + 1)) := by
      rw [take_snoc (l.drop p) 0 j (by rw [List.length_drop]; omega), val_snoc]
      congr 1
      simp [List.getD_eq_getElem?_getD, hlt]
    rw [ev, show ((j : Int) + 1) = ((j + 1 : Nat) : Int) by omega, ih k (j + 1) (by omega) (by omega)]
def gazetteerref01_Get.f (l : List Int) (p s : Int) : Option (Int × Int) := num_Get.f l p s
theorem gazetteerref01_Get.calls (A0 : Option Addr) (c0 : Nat) (l0 : List Int) (a1 a2 r1 r2 : Int) (w : World) (hr0 : Kd.C (Kd.int .u8) w A0 l0.length l0) (hc0 : l0.length ≤ c0) (h : gazetteerref01_Get.f l0 a1 a2 = some (r1, r2)) :
    Calls Try.prog 44 #[.slice A0 l0.length c0, .int .i64 a1, .int .i64 a2] w fun e w' => e = .returned (.tuple #[.int .i64 r1, .int .i64 r2]) ∧ Drawn0 w w' := by
  refine BRef.gazetteerref01_Get.calls 10 A0 c0 l0 a1 a2 r1 r2 w hr0 hc0 ?_
  have hm := Kd.C_max hr0
  unfold gazetteerref01_Get.f num_Get.f at h
  cases hb : bytesB l0 with
  | false => rw [hb] at h; cases h
  | true =>
    rw [hb, if_pos rfl] at h
    have hy := bytesB_iff.1 hb
    rw [← h]
    unfold BRef.gazetteerref01_Get.f
    by_cases h1 : a2 < 1
    · rw [if_pos h1, if_pos h1]; rfl
    · by_cases h2 : 7 < a2
      · rw [if_neg h1, if_pos h2, if_neg h1, if_pos h2]; rfl
      · rw [if_neg h1, if_neg h2, if_neg h1, if_neg h2]
        simp only [BRef.gazetteerref01_Get.j0]
        by_cases h3 : a1 < 0
        · rw [if_pos (decide_eq_true h3), if_pos h3]
        · rw [if_neg (by simp; omega), if_neg h3]
          by_cases h4 : (l0.length : Int) < a1
          · rw [if_pos h4, if_pos h4]; rfl
          · rw [if_neg h4, if_neg h4, wrap_id (by omega) (by omega)]
            simp only [BRef.gazetteerref01_Get.j1]
            by_cases h5 : (l0.length : Int) - a1 < a2
            · rw [if_pos (decide_eq_true h5), if_pos h5]
            · rw [if_neg (by simp; omega), if_neg h5]
              have := rget_loop l0 hy hm a1.toNat a2.toNat (by omega) (by omega) a2.toNat 8 0 (by omega) (by omega)
              rw [show ((a1.toNat : Nat) : Int) = a1 by omega, show ((a2.toNat : Nat) : Int) = a2 by omega] at this
              rw [List.drop_take, show (a1 + a2).toNat - a1.toNat = a2.toNat by omega]
              exact this

end Go.Proofs.Ytahnncccdlblgaa.G
