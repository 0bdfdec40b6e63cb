/- Numbers as bytes, and back: both ways. Conditions: bytes; a number that fits. -/
import Derived.Test.YtahnncccdlblgaaPlain
namespace Go.Proofs.Ytahnncccdlblgaa.Plain
theorem emod_mul256 (n p : Int) (hp : 0 < p) : n % (p * 256) = n / p % 256 * p + n % p := by
  have h1 := Int.emod_add_mul_ediv n p
  have h2 := Int.emod_add_mul_ediv (n / p) 256
  have h3 := Int.emod_nonneg n (Int.ne_of_gt hp)
  have h4 := Int.emod_lt_of_pos n hp
  have h5 := Int.emod_nonneg (n / p) (show (256 : Int) ≠ 0 by decide)
  have h6 := Int.emod_lt_of_pos (n / p) (show (0 : Int) < 256 by decide)
  have e : n = (n / p % 256 * p + n % p) + p * 256 * (n / p / 256) := by
    conv => lhs; rw [← h1, ← h2]
    rw [Int.mul_add, Int.mul_comm p (n / p % 256), Int.mul_assoc]; omega
  conv => lhs; rw [e]
  rw [Int.add_mul_emod_self_left]
  refine Int.emod_eq_of_lt ?_ ?_
  · have := Int.mul_nonneg h5 (Int.le_of_lt hp); omega
  · have : n / p % 256 * p ≤ 255 * p := Int.mul_le_mul_of_nonneg_right (by omega) (Int.le_of_lt hp)
    omega
theorem foldl_be (n : Int) : ∀ k (a : Int), (be n k).foldl (fun n x => n * 256 + x) a = a * 256 ^ k + n % 256 ^ k
  | 0, a => by simp [be]
  | k + 1, a => by
    rw [be, List.foldl_cons, foldl_be n k, Int.add_mul, Int.mul_assoc, Int.pow_succ, Int.mul_comm 256 (256 ^ k), Int.add_assoc]
    congr 1
    rw [emod_mul256 n _ (pow_pos256 k)]
theorem val_be (n : Int) (k : Nat) (h0 : 0 ≤ n) (h1 : n < 256 ^ k) : val (be n k) = n := by
  unfold val
  rw [foldl_be, Int.zero_mul, Int.zero_add, Int.emod_eq_of_lt h0 h1]

theorem foldl_shift (l : List Int) : ∀ a : Int, l.foldl (fun n x => n * 256 + x) a = a * 256 ^ l.length + l.foldl (fun n x => n * 256 + x) 0 := by
  induction l with
  | nil => intro a; simp
  | cons x l ih =>
    intro a
    rw [List.foldl_cons, List.foldl_cons, ih (a * 256 + x), ih (0 * 256 + x), List.length_cons, Int.pow_succ, Int.add_mul, Int.mul_assoc, Int.mul_comm 256, Int.zero_mul, Int.zero_add, Int.add_assoc]
theorem val_cons (x : Int) (l : List Int) : val (x :: l) = x * 256 ^ l.length + val l := by
  unfold val
  rw [List.foldl_cons, Int.zero_mul, Int.zero_add, foldl_shift]
theorem be_mod (n m : Int) : ∀ k, (∃ c, n = m + c * 256 ^ k) → be n k = be m k
  | 0, _ => rfl
  | k + 1, ⟨c, hc⟩ => by
    have hp := pow_pos256 k
    have e : n = m + (c * 256) * 256 ^ k := by rw [hc, Int.pow_succ, Int.mul_assoc, Int.mul_comm 256]
    rw [be, be, be_mod n m k ⟨c * 256, e⟩]
    congr 1
    rw [e, Int.add_mul_ediv_right _ _ (by omega), Int.mul_comm c 256, Int.add_mul_emod_self_left]
theorem be_val (l : List Int) (h : ∀ x ∈ l, 0 ≤ x ∧ x ≤ 255) : be (val l) l.length = l := by
  induction l with
  | nil => rfl
  | cons x l ih =>
    have hx := h x (by simp)
    have hl := val_bd l (fun y hy => h y (by simp [hy]))
    have hp := pow_pos256 l.length
    rw [List.length_cons, be, val_cons, be_mod _ (val l) l.length ⟨x, by rw [Int.add_comm]⟩, ih (fun y hy => h y (by simp [hy]))]
    congr 1
    rw [Int.add_comm, Int.add_mul_ediv_right _ _ (by omega), Int.ediv_eq_zero_of_lt hl.1 hl.2, Int.zero_add, Int.emod_eq_of_lt hx.1 (by omega)]
end Go.Proofs.Ytahnncccdlblgaa.Plain
