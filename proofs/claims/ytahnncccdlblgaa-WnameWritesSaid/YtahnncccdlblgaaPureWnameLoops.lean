/- Pointers that lead to themselves, to one another, or ahead, end with an error: over lists. Conditions: none. -/
import Derived.Test.YtahnncccdlblgaaHWnameLoopsx1
import Derived.Test.YtahnncccdlblgaaGets
namespace Go.Proofs.Ytahnncccdlblgaa.Pure
open Go.RowKit Go.Proofs.YtahnncccdlblgaaW.PrintWords Go.Proofs.YtahnncccdlblgaaW.PrintLast Go.Proofs.Ytahnncccdlblgaa.Plain Go.Proofs.Ytahnncccdlblgaa.G Go.Proofs.Ytahnncccdlblgaa.HWnameLoops
set_option linter.unusedSimpArgs false
theorem wrap_id {n : Int} (h0 : -9223372036854775808 ≤ n) (h1 : n ≤ 9223372036854775807) : wrap64 n = n := by unfold wrap64; omega
theorem wfu8 {n : Int} (h : (Lit.int .u8 n).wf = true) : 0 ≤ n ∧ n ≤ 255 := by
  simp [Lit.wf, IntKind.min, IntKind.max, IntKind.signed, IntKind.bits] at h; omega
theorem wfu16 {n : Int} (h : (Lit.int .u16 n).wf = true) : 0 ≤ n ∧ n ≤ 65535 := by
  simp [Lit.wf, IntKind.min, IntKind.max, IntKind.signed, IntKind.bits] at h; omega
theorem answers4 : gazetteerlaw03_answers.f 4 = some true := by decide +kernel
theorem answers3 : gazetteerlaw03_answers.f 3 = some true := by decide +kernel
/-- A pointer that leads to its own place or ahead of it. -/
theorem get_loop (x : List Int) (hb : bytesB x = true) (p : Nat) (t : Int) (hp : p + 1 < x.length) (h0 : x.getD p 0 = 192 + t / 256) (h1 : x.getD (p + 1) 0 = t % 256) (hpt : (p : Int) ≤ t) (ht : t < 16384) (k : Nat) :
    wname_Get.f (k + 1) x (p : Int) = some ([], 0, 6) := by
  unfold wname_Get.f
  rw [if_neg (by omega)]
  simp only [wname_Get.l0]
  rw [get1 x hb p (by omega), h0]
  simp only [Option.bind_some, if_true]
  rw [if_neg (by omega), if_pos (by omega), get2 x hb p hp, h0, h1]
  simp only [Option.bind_some, if_true]
  rw [mask14 _ (by omega) (by omega), if_pos (by omega)]
theorem WnameLoops : gazetteerlaw03_WnameLoops.Pure := by
  intro l a1 a2 _ _ hb w1 w2
  have w1 := wfu16 w1
  have w2 := wfu16 w2
  have hlb : bytesB l = true := bytesB_iff.2 (fun x hx => wfu8 (hb x hx))
  refine ⟨4, ?_⟩
  unfold gazetteerlaw03_WnameLoops.f
  rw [answers4]
  simp only [Option.bind_some, if_true]
  by_cases c0 : (l.length : Int) < 4
  · rw [if_pos c0]; simp only [gazetteerlaw03_WnameLoops.j0, if_true]; rw [answers3]; rfl
  · rw [if_neg c0]
    by_cases c1 : (l.length : Int) > 16000
    · rw [decide_eq_true c1]; simp only [gazetteerlaw03_WnameLoops.j0, if_true]; rw [answers3]; rfl
    · rw [decide_eq_false c1]
      simp only [gazetteerlaw03_WnameLoops.j0, Bool.false_eq_true, if_false, Option.bind_some, List.nil_append, List.length_nil]
      rw [if_pos (by omega), wrap_id (n := (l.length : Int) - 1) (by omega) (by omega), wrap_id (n := a1) (by omega) (by omega), wrap_id (n := a2) (by omega) (by omega)]
      have m0 : 0 ≤ a1.tmod ((l.length : Int) - 1) := Int.tmod_nonneg _ w1.1
      have m1 : a1.tmod ((l.length : Int) - 1) < (l.length : Int) - 1 := Int.tmod_lt_of_pos _ (by omega)
      obtain ⟨p, hp⟩ : ∃ p : Nat, a1.tmod ((l.length : Int) - 1) = (p : Int) := ⟨(a1.tmod ((l.length : Int) - 1)).toNat, by omega⟩
      rw [hp] at m0 m1 ⊢
      rw [wrap_id (n := (l.length : Int) - (p : Int)) (by omega) (by omega)]
      have n0 : 0 ≤ a2.tmod ((l.length : Int) - (p : Int)) := Int.tmod_nonneg _ w2.1
      have n1 : a2.tmod ((l.length : Int) - (p : Int)) < (l.length : Int) - (p : Int) := Int.tmod_lt_of_pos _ (by omega)
      generalize a2.tmod ((l.length : Int) - (p : Int)) = m at *
      rw [wrap_id (n := (p : Int) + m) (by omega) (by omega), wrap_id (n := (p : Int) + 1) (by omega) (by omega)]
      obtain ⟨t, ht⟩ : ∃ t : Int, (p : Int) + m = t := ⟨_, rfl⟩
      rw [ht, Int.tdiv_eq_ediv_of_nonneg (by omega), Int.tmod_eq_emod_of_nonneg (by omega), wrap_id (n := t / 256) (by omega) (by omega), wrap_id (n := 192 + t / 256) (by omega) (by omega)]
      rw [if_neg (by omega), if_neg (by omega), if_pos (by omega), if_pos (by omega), if_pos (by omega), if_pos (by omega)]
      rw [show ((p : Int) + 1).toNat = p + 1 by omega, Int.toNat_natCast]
      have hx : bytesB ((l.set p ((192 + t / 256) % 256)).set (p + 1) (t % 256 % 256)) = true := by
        rw [bytesB_iff] at hlb ⊢
        intro x hx
        rcases List.mem_or_eq_of_mem_set hx with hx | rfl
        · rcases List.mem_or_eq_of_mem_set hx with hx | rfl
          · exact hlb x hx
          · omega
        · omega
      rw [get_loop _ hx p t (by simp; omega) (by simp [List.getD_eq_getElem?_getD, List.getElem?_set, show p < l.length by omega]; omega) (by simp [List.getD_eq_getElem?_getD, List.getElem?_set, show p + 1 < l.length by omega]) (by omega) (by omega) 2]
      rfl
end Go.Proofs.Ytahnncccdlblgaa.Pure
