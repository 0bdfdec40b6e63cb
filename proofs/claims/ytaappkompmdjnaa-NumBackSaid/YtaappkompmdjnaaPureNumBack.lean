/- A number that fits is read as it was written, behind whatever bytes: the statement over numbers and lists. Conditions: none. -/
import Derived.Test.YtaappkompmdjnaaHNumBackx1
namespace Go.Proofs.Ytaappkompmdjnaa.Pure
open Go.RowKit Go.Proofs.Ytaappkompmdjnaa.HNumBack Go.Proofs.YtaappkompmdjnaaW.PrintWords Go.Proofs.YtaappkompmdjnaaW.PrintLast Go.Proofs.Ytaappkompmdjnaa.G Go.Proofs.Ytaappkompmdjnaa.Plain

theorem wf64 {n : Int} (h : (Lit.int .i64 n).wf = true) : -9223372036854775808 ≤ n ∧ n ≤ 9223372036854775807 := by
  simp [Lit.wf, IntKind.min, IntKind.max, IntKind.signed, IntKind.bits] at h; omega
theorem wfu8 {n : Int} (h : (Lit.int .u8 n).wf = true) : 0 ≤ n ∧ n ≤ 255 := by
  simp [Lit.wf, IntKind.min, IntKind.max, IntKind.signed, IntKind.bits] at h; omega
theorem put_some (l : List Int) (n s : Int) (h : l.length ≤ 70368744177664) : num_Put.f l n s = some (if fits n s = true then l ++ be n s.toNat else l) := by
  unfold num_Put.f; rw [if_pos h]
theorem answers_yes : gazetteerlaw01_answers.f = some true := by decide +kernel

theorem be_bytes (n : Int) : ∀ k, ∀ x ∈ be n k, 0 ≤ x ∧ x ≤ 255
  | 0, x, hx => by simp [be] at hx
  | k + 1, x, hx => by
    rw [be, List.mem_cons] at hx
    rcases hx with rfl | hx
    · omega
    · exact be_bytes n k x hx
theorem emod_mul256 (n p : Int) (hp : 0 < p) : n % (p * 256) = n / p % 256 * p + n % p := by
  have h1 := Int.emod_add_mul_ediv n p
  have h2 := Int.emod_add_mul_ediv (n / p) 256
  have h3 := Int.emod_nonneg n (Int.ne_of_gt hp)
  have h4 := Int.emod_lt_of_pos n hp
  have h5 := Int.emod_nonneg (n / p) (show (256 : Int) ≠ 0 by decide)
  have h6 := Int.emod_lt_of_pos (n / p) (show (0 : Int) < 256 by decide)
  have e : n = (n / p % 256 * p + n % p) + p * 256 * (n / p / 256) := by
    conv => lhs; rw [← h1, ← h2]
    rw [Int.mul_add, Int.mul_comm p (n / p % 256), Int.mul_assoc]; omega
  conv => lhs; rw [e]
  rw [Int.add_mul_emod_self_left]
  refine Int.emod_eq_of_lt ?_ ?_
  · have := Int.mul_nonneg h5 (Int.le_of_lt hp); omega
  · have : n / p % 256 * p ≤ 255 * p := Int.mul_le_mul_of_nonneg_right (by omega) (Int.le_of_lt hp)
    omega
theorem foldl_be (n : Int) : ∀ k (a : Int), (be n k).foldl (fun n x => n * 256 + x) a = a * 256 ^ k + n % 256 ^ k
  | 0, a => by simp [be]
  | k + 1, a => by
    rw [be, List.foldl_cons, foldl_be n k, Int.add_mul, Int.mul_assoc, Int.pow_succ, Int.mul_comm 256 (256 ^ k), Int.add_assoc]
    congr 1
    rw [emod_mul256 n _ (pow_pos256 k)]
theorem val_be (n : Int) (k : Nat) (h0 : 0 ≤ n) (h1 : n < 256 ^ k) : val (be n k) = n := by
  unfold val
  rw [foldl_be, Int.zero_mul, Int.zero_add, Int.emod_eq_of_lt h0 h1]

theorem NumBack : gazetteerlaw01_NumBack.Pure := by
  intro l n s _ _ hb hn hs
  have hn := wf64 hn
  refine ⟨1, ?_⟩
  unfold gazetteerlaw01_NumBack.f
  rw [answers_yes]
  simp only [Option.bind_some, if_true]
  by_cases hl : (l.length : Int) > 5000
  · rw [if_pos hl]; simp only [gazetteerlaw01_NumBack.j0, if_true]; rw [answers_yes]; rfl
  · rw [if_neg hl]
    have hr : gazetteerref01_Fits.f n s = some (fits n s) := by unfold gazetteerref01_Fits.f; rw [if_pos hn.2]
    rw [hr]
    simp only [Option.bind_some]
    cases hf : fits n s with
    | false => simp only [gazetteerlaw01_NumBack.j0, Bool.not_false, if_true]; rw [answers_yes]; rfl
    | true =>
      obtain ⟨f1, f2, f3, f4⟩ := fits_iff.1 hf
      have hbB : bytesB (l ++ be n s.toNat) = true := bytesB_iff.2 (fun x hx => by
        rcases List.mem_append.1 hx with h | h
        · exact wfu8 (hb x h)
        · exact be_bytes n _ x h)
      have hlen : (l ++ be n s.toNat).length = l.length + s.toNat := by rw [List.length_append, be_length]
      have hlenI : ((l ++ be n s.toNat).length : Int) = (l.length : Int) + s := by rw [hlen]; omega
      have hput := put_some l n s (by omega)
      rw [hf, if_pos rfl] at hput
      have hget : num_Get.f (l ++ be n s.toNat) (l.length : Int) s = some (n, 0) := by
        unfold num_Get.f
        rw [if_pos hbB, if_neg (by omega), if_neg (by omega), if_neg (by omega), if_neg (by omega), if_neg (by omega)]
        congr 2
        rw [List.take_of_length_le (by rw [hlen]; omega), Int.toNat_natCast, List.drop_left, val_be n _ f3 f4]
      have hget2 : num_Get.f (l ++ be n s.toNat) ((l.length : Int) + 1) s = some (0, 3) := by
        unfold num_Get.f
        rw [if_pos hbB, if_neg (by omega), if_neg (by omega), if_neg (by omega)]
        by_cases h1 : ((l ++ be n s.toNat).length : Int) < (l.length : Int) + 1
        · rw [if_pos h1]
        · rw [if_neg h1, if_pos (by omega)]
      simp only [gazetteerlaw01_NumBack.j0, Bool.not_true, Bool.false_eq_true, if_false, Option.bind_some, List.nil_append, List.length_nil]
      have ew : wrap64 ((l.length : Int) + 1) = (l.length : Int) + 1 := by unfold wrap64; omega
      have ew2 : wrap64 ((l.length : Int) + s) = (l.length : Int) + s := by unfold wrap64; omega
      rw [if_pos (by omega), hput]
      simp only [Option.bind_some, hget, ew, hget2, ew2, hlenI, if_true]
      rw [if_pos (by omega), if_pos (by omega), Int.toNat_natCast, List.take_left]
      simp [gazetteerref01_Same.f]

end Go.Proofs.Ytaappkompmdjnaa.Pure
