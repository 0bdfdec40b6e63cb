/- Of two numbers the greater one has the greater bytes; one more carries: the statement over numbers and lists. Conditions: none. -/
import Derived.Test.YtaappkompmdjnaaHNumOrderx1
namespace Go.Proofs.Ytaappkompmdjnaa.Pure
open Go.RowKit Go.Proofs.Ytaappkompmdjnaa.HNumOrder Go.Proofs.YtaappkompmdjnaaW.PrintWords Go.Proofs.YtaappkompmdjnaaW.PrintLast Go.Proofs.Ytaappkompmdjnaa.G Go.Proofs.Ytaappkompmdjnaa.Plain

theorem wfu32 {n : Int} (h : (Lit.int .u32 n).wf = true) : 0 ≤ n ∧ n ≤ 4294967295 := by
  simp [Lit.wf, IntKind.min, IntKind.max, IntKind.signed, IntKind.bits] at h; omega
theorem wfu8 {n : Int} (h : (Lit.int .u8 n).wf = true) : 0 ≤ n ∧ n ≤ 255 := by
  simp [Lit.wf, IntKind.min, IntKind.max, IntKind.signed, IntKind.bits] at h; omega
theorem put_some (l : List Int) (n s : Int) (h : l.length ≤ 70368744177664) : num_Put.f l n s = some (if fits n s = true then l ++ be n s.toNat else l) := by
  unfold num_Put.f; rw [if_pos h]
theorem answers_yes : gazetteerlaw01_answers.f = some true := by decide +kernel
theorem emod_mul256 (n p : Int) (hp : 0 < p) : n % (p * 256) = n / p % 256 * p + n % p := by
  have h1 := Int.emod_add_mul_ediv n p
  have h2 := Int.emod_add_mul_ediv (n / p) 256
  have h3 := Int.emod_nonneg n (Int.ne_of_gt hp)
  have h4 := Int.emod_lt_of_pos n hp
  have h5 := Int.emod_nonneg (n / p) (show (256 : Int) ≠ 0 by decide)
  have h6 := Int.emod_lt_of_pos (n / p) (show (0 : Int) < 256 by decide)
  have e : n = (n / p % 256 * p + n % p) + p * 256 * (n / p / 256) := by
    conv => lhs; rw [← h1, ← h2]
    rw [Int.mul_add, Int.mul_comm p (n / p % 256), Int.mul_assoc]; omega
  conv => lhs; rw [e]
  rw [Int.add_mul_emod_self_left]
  refine Int.emod_eq_of_lt ?_ ?_
  · have := Int.mul_nonneg h5 (Int.le_of_lt hp); omega
  · have : n / p % 256 * p ≤ 255 * p := Int.mul_le_mul_of_nonneg_right (by omega) (Int.le_of_lt hp)
    omega

theorem byte_lt {a b : Int} (ha : 0 ≤ a) (ha1 : a < 256) (hb : 0 ≤ b) (hb1 : b < 256) : (UInt8.ofNat a.toNat < UInt8.ofNat b.toNat) ↔ a < b := by
  rw [UInt8.lt_iff_toNat_lt]; simp; omega
theorem byte_eq {a b : Int} (ha : 0 ≤ a) (ha1 : a < 256) (hb : 0 ≤ b) (hb1 : b < 256) : (UInt8.ofNat a.toNat = UInt8.ofNat b.toNat) ↔ a = b := by
  rw [← UInt8.toNat_inj]; simp; omega
theorem two_digits {p A B ra rb : Int} (hp : 0 < p) (h1 : 0 ≤ ra) (h2 : ra < p) (h3 : 0 ≤ rb) (h4 : rb < p) : A * p + ra < B * p + rb ↔ A < B ∨ A = B ∧ ra < rb := by
  constructor
  · intro h
    rcases Int.lt_trichotomy A B with h5 | h5 | h5
    · exact .inl h5
    · subst h5; exact .inr ⟨rfl, by omega⟩
    · have : (B + 1) * p ≤ A * p := Int.mul_le_mul_of_nonneg_right (by omega) (by omega)
      rw [Int.add_mul, Int.one_mul] at this; omega
  · rintro (h | ⟨rfl, h⟩)
    · have : (A + 1) * p ≤ B * p := Int.mul_le_mul_of_nonneg_right (by omega) (by omega)
      rw [Int.add_mul, Int.one_mul] at this; omega
    · omega
theorem two_digits_eq {p A B ra rb : Int} (hp : 0 < p) (h1 : 0 ≤ ra) (h2 : ra < p) (h3 : 0 ≤ rb) (h4 : rb < p) : A * p + ra = B * p + rb ↔ A = B ∧ ra = rb := by
  constructor
  · intro h
    rcases Int.lt_trichotomy A B with h5 | h5 | h5
    · have := (two_digits hp h1 h2 h3 h4).2 (.inl h5); omega
    · subst h5; exact ⟨rfl, by omega⟩
    · have := (two_digits hp h3 h4 h1 h2).2 (.inl h5); omega
  · rintro ⟨rfl, rfl⟩; rfl
def bts (l : List Int) : List UInt8 := l.map fun n => UInt8.ofNat n.toNat
theorem less_be (a b : Int) : ∀ k, Op.bytesLess (bts (be a k)) (bts (be b k)) = decide (a % 256 ^ k < b % 256 ^ k)
  | 0 => by simp [be, bts, Op.bytesLess, Int.emod_one]
  | k + 1 => by
    have ih := less_be a b k
    have hp := pow_pos256 k
    have h1 := Int.emod_nonneg a (Int.ne_of_gt hp)
    have h2 := Int.emod_lt_of_pos a hp
    have h3 := Int.emod_nonneg b (Int.ne_of_gt hp)
    have h4 := Int.emod_lt_of_pos b hp
    have hA : 0 ≤ a / 256 ^ k % 256 ∧ a / 256 ^ k % 256 < 256 := by omega
    have hB : 0 ≤ b / 256 ^ k % 256 ∧ b / 256 ^ k % 256 < 256 := by omega
    have e1 : bts (be a (k + 1)) = UInt8.ofNat (a / 256 ^ k % 256).toNat :: bts (be a k) := rfl
    have e2 : bts (be b (k + 1)) = UInt8.ofNat (b / 256 ^ k % 256).toNat :: bts (be b k) := rfl
    rw [e1, e2, Op.bytesLess, ih, Bool.eq_iff_iff]
    rw [Int.pow_succ, emod_mul256 a _ hp, emod_mul256 b _ hp]
    simp only [Bool.or_eq_true, Bool.and_eq_true, decide_eq_true_eq, beq_iff_eq]
    rw [byte_lt hA.1 hA.2 hB.1 hB.2, byte_eq hA.1 hA.2 hB.1 hB.2, two_digits hp h1 h2 h3 h4]
theorem eq_be (a b : Int) : ∀ k, bts (be a k) = bts (be b k) ↔ a % 256 ^ k = b % 256 ^ k
  | 0 => by simp [be, bts, Int.emod_one]
  | k + 1 => by
    have ih := eq_be a b k
    have hp := pow_pos256 k
    have h1 := Int.emod_nonneg a (Int.ne_of_gt hp)
    have h2 := Int.emod_lt_of_pos a hp
    have h3 := Int.emod_nonneg b (Int.ne_of_gt hp)
    have h4 := Int.emod_lt_of_pos b hp
    have hA : 0 ≤ a / 256 ^ k % 256 ∧ a / 256 ^ k % 256 < 256 := by omega
    have hB : 0 ≤ b / 256 ^ k % 256 ∧ b / 256 ^ k % 256 < 256 := by omega
    have e1 : bts (be a (k + 1)) = UInt8.ofNat (a / 256 ^ k % 256).toNat :: bts (be a k) := rfl
    have e2 : bts (be b (k + 1)) = UInt8.ofNat (b / 256 ^ k % 256).toNat :: bts (be b k) := rfl
    rw [e1, e2, List.cons.injEq, ih, byte_eq hA.1 hA.2 hB.1 hB.2]
    rw [Int.pow_succ, emod_mul256 a _ hp, emod_mul256 b _ hp, two_digits_eq hp h1 h2 h3 h4]

theorem NumOrder : gazetteerlaw01_NumOrder.Pure := by
  intro a b s ha hb hs
  have ha := wfu32 ha
  have hb := wfu32 hb
  have hs := wfu8 hs
  have e1 : wrap64 a = a := by unfold wrap64; omega
  have e2 : wrap64 b = b := by unfold wrap64; omega
  have e3 : Int.tmod s 4 = s % 4 := Int.tmod_eq_emod_of_nonneg hs.1
  have e4 : wrap64 (s % 4) = s % 4 := by unfold wrap64; omega
  have e5 : wrap64 (s % 4 + 4) = s % 4 + 4 := by unfold wrap64; omega
  unfold gazetteerlaw01_NumOrder.f
  rw [e1, e2, e3, e4, e5, answers_yes]
  obtain ⟨k, hk⟩ : ∃ k : Nat, s % 4 + 4 = (k : Int) := ⟨(s % 4 + 4).toNat, by omega⟩
  have hk4 : 4 ≤ k := by omega
  have hk7 : k ≤ 7 := by omega
  rw [hk]
  have hpow : (256 : Int) ^ 4 ≤ 256 ^ k := pow256_le hk4
  have e6 : (256 : Int) ^ 4 = 4294967296 := by decide
  have fa : fits a (k : Int) = true := fits_iff.2 ⟨by omega, by omega, ha.1, by rw [Int.toNat_natCast]; omega⟩
  have fb : fits b (k : Int) = true := fits_iff.2 ⟨by omega, by omega, hb.1, by rw [Int.toNat_natCast]; omega⟩
  rw [put_some [] a k (by simp), put_some [] b k (by simp), fa, fb]
  simp only [Option.bind_some, if_true, List.nil_append, Int.toNat_natCast, be_length]
  have h1 : (strOfNums (be a k)).toList = bts (be a k) := by rw [ByteArray.toList_eq]; rfl
  have h2 : (strOfNums (be b k)).toList = bts (be b k) := by rw [ByteArray.toList_eq]; rfl
  rw [h1, h2, less_be, Int.emod_eq_of_lt ha.1 (by omega), Int.emod_eq_of_lt hb.1 (by omega)]
  rw [if_pos (by simp)]
  have h3 := eq_be a b k
  rw [Int.emod_eq_of_lt ha.1 (by omega), Int.emod_eq_of_lt hb.1 (by omega)] at h3
  congr 1
  rw [beq_iff_eq, Bool.eq_iff_iff, beq_iff_eq, beq_iff_eq, h3]

end Go.Proofs.Ytaappkompmdjnaa.Pure
