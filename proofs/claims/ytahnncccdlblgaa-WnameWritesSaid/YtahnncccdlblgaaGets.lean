/- What num.Get tells of one byte and of two. Conditions: bytes. -/
import Derived.Test.YtahnncccdlblgaaGget
import Derived.Laws.BitsLemmas
namespace Go.Proofs.Ytahnncccdlblgaa.G
open Go.RowKit Go.Proofs.YtahnncccdlblgaaW.PrintWords Go.Proofs.YtahnncccdlblgaaW.PrintLast Go.Proofs.Ytahnncccdlblgaa.Plain
theorem cut1 (l : List Int) (p : Nat) (hp : p < l.length) : (l.take (p + 1)).drop p = [l.getD p 0] := by
  rw [take_snoc l 0 p hp, List.drop_append_of_le_length (by rw [List.length_take]; omega), List.drop_of_length_le (by rw [List.length_take]; omega), List.nil_append]
theorem cut2 (l : List Int) (p : Nat) (hp : p + 1 < l.length) : (l.take (p + 2)).drop p = [l.getD p 0, l.getD (p + 1) 0] := by
  rw [take_snoc l 0 (p + 1) hp, List.drop_append_of_le_length (by rw [List.length_take]; omega), cut1 l p (by omega)]
  rfl
theorem get1 (l : List Int) (hb : bytesB l = true) (p : Nat) (hp : p < l.length) : num_Get.f l (p : Int) 1 = some (l.getD p 0, 0) := by
  unfold num_Get.f
  rw [if_pos hb, if_neg (by omega), if_neg (by omega), if_neg (by omega), if_neg (by omega), if_neg (by omega), show ((p : Int) + 1).toNat = p + 1 by omega, Int.toNat_natCast, cut1 l p hp]
  simp [val]
theorem get1_short (l : List Int) (hb : bytesB l = true) (p : Int) (h0 : 0 ≤ p) (hp : (l.length : Int) ≤ p) : num_Get.f l p 1 = some (0, 3) := by
  unfold num_Get.f
  rw [if_pos hb, if_neg (by omega), if_neg (by omega), if_neg (by omega)]
  split
  · rfl
  · rw [if_pos (by omega)]
theorem get2 (l : List Int) (hb : bytesB l = true) (p : Nat) (hp : p + 1 < l.length) : num_Get.f l (p : Int) 2 = some (l.getD p 0 * 256 + l.getD (p + 1) 0, 0) := by
  unfold num_Get.f
  rw [if_pos hb, if_neg (by omega), if_neg (by omega), if_neg (by omega), if_neg (by omega), if_neg (by omega), show ((p : Int) + 2).toNat = p + 2 by omega, Int.toNat_natCast, cut2 l p hp]
  simp [val]
theorem get2_short (l : List Int) (hb : bytesB l = true) (p : Nat) (hp : p + 1 = l.length) : num_Get.f l (p : Int) 2 = some (0, 3) := by
  unfold num_Get.f
  rw [if_pos hb, if_neg (by omega), if_neg (by omega), if_neg (by omega), if_neg (by omega), if_pos (by omega)]
theorem byte_at (l : List Int) (hb : bytesB l = true) (p : Nat) : 0 ≤ l.getD p 0 ∧ l.getD p 0 ≤ 255 := by
  rw [List.getD_eq_getElem?_getD]
  by_cases h : p < l.length
  · rw [List.getElem?_eq_getElem h]; exact bytesB_iff.1 hb _ (List.getElem_mem h)
  · rw [List.getElem?_eq_none (by omega)]; simp
theorem mask14 (n : Int) (h0 : 0 ≤ n) (h1 : n < 65536) : bits .and .i64 n 16383 = n % 16384 :=
  bits_mask .i64 62 (by decide) (fun m hm0 hm1 => by rw [IntKind.wrap_i64]; omega) 14 (by decide) n h0 (by omega)
end Go.Proofs.Ytahnncccdlblgaa.G
