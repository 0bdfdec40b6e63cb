/- Plain words on numbers as bytes: whether a number fits, and which bytes it is. Conditions: none. -/
import Derived.Test.YtahnncccdlblgaaWMore
namespace Go.Proofs.Ytahnncccdlblgaa.Plain
open Go.RowKit Go.Proofs.YtahnncccdlblgaaW.PrintWords Go.Proofs.YtahnncccdlblgaaW.PrintLast Go.Proofs.YtahnncccdlblgaaW.PrintMore

/-- Does a number have so many bytes? -/
def fits (n s : Int) : Bool := decide (1 ≤ s ∧ s ≤ 7 ∧ 0 ≤ n ∧ n < 256 ^ s.toNat)
/-- A number as so many bytes, the highest first. -/
def be (n : Int) : Nat → List Int
  | 0 => []
  | k + 1 => (n / 256 ^ k % 256) :: be n k
theorem be_length (n : Int) : ∀ k, (be n k).length = k
  | 0 => rfl
  | k + 1 => by simp [be, be_length n k]
theorem fits_iff {n s : Int} : fits n s = true ↔ 1 ≤ s ∧ s ≤ 7 ∧ 0 ≤ n ∧ n < 256 ^ s.toNat := by simp [fits]
theorem pow256 (k : Nat) : (256 : Int) ^ k = 2 ^ (8 * k) := by
  rw [show (256 : Int) = 2 ^ 8 by decide, ← Int.pow_mul]
theorem pow_pos256 (k : Nat) : (0 : Int) < 256 ^ k := Int.pow_pos (by decide)

theorem pow256_le {a b : Nat} (h : a ≤ b) : (256 : Int) ^ a ≤ 256 ^ b := by
  obtain ⟨c, rfl⟩ := Nat.exists_eq_add_of_le h
  induction c with
  | zero => simp
  | succ c ih =>
    have ih := ih (by omega)
    rw [← Nat.add_assoc, Int.pow_succ]
    have := pow_pos256 (a + c)
    omega
/-- The number that bytes are, the highest first. -/
def val (l : List Int) : Int := l.foldl (fun n x => n * 256 + x) 0
/-- Are all of them bytes? -/
def bytesB (l : List Int) : Bool := l.all fun x => decide (0 ≤ x) && decide (x ≤ 255)
theorem bytesB_iff {l : List Int} : bytesB l = true ↔ ∀ x ∈ l, 0 ≤ x ∧ x ≤ 255 := by simp [bytesB]
theorem val_snoc (l : List Int) (x : Int) : val (l ++ [x]) = val l * 256 + x := by simp [val]
theorem foldl_bd (l : List Int) : ∀ a : Int, (∀ x ∈ l, 0 ≤ x ∧ x ≤ 255) → 0 ≤ a → 0 ≤ l.foldl (fun n x => n * 256 + x) a ∧ l.foldl (fun n x => n * 256 + x) a < (a + 1) * 256 ^ l.length := by
  induction l with
  | nil => intro a _ h; simp; omega
  | cons x l ih =>
    intro a hl ha
    have hx := hl x (by simp)
    have h := ih (a * 256 + x) (fun y hy => hl y (by simp [hy])) (by omega)
    refine ⟨h.1, Int.lt_of_lt_of_le h.2 ?_⟩
    rw [List.length_cons, Int.pow_succ]
    have hp : (0 : Int) < 256 ^ l.length := pow_pos256 _
    have : (a * 256 + x + 1) * 256 ^ l.length ≤ ((a + 1) * 256) * 256 ^ l.length := Int.mul_le_mul_of_nonneg_right (by omega) (by omega)
    rw [Int.mul_assoc, Int.mul_comm 256 (256 ^ l.length)] at this
    exact this
theorem val_bd (l : List Int) (h : ∀ x ∈ l, 0 ≤ x ∧ x ≤ 255) : 0 ≤ val l ∧ val l < 256 ^ l.length := by
  have := foldl_bd l 0 h (Int.le_refl 0)
  simpa [val] using this
theorem take_snoc {α : Type} (l : List α) (d : α) (j : Nat) (h : j < l.length) : l.take (j + 1) = l.take j ++ [l.getD j d] := by
  rw [List.take_succ_eq_append_getElem h]; simp [List.getD_eq_getElem?_getD, h]

end Go.Proofs.Ytahnncccdlblgaa.Plain
