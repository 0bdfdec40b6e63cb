/- Whether a name may be, and how many bytes it takes: name.Sound, name.Size and what they call, in closed form. Conditions: none. -/
import Derived.Test.YtahnncccdlblgaaGref
import Derived.Below
import Derived.Deep.Draws
import Derived.Deep.AppendLies
import Derived.Maps.AppendAt
import Derived.OwnWalk
import Derived.Laws.BytesArg
import Derived.Laws.MakeOwn
import Derived.Laws.OwnMore
import Derived.Deep.OwnRows
import Derived.Tactics
import Derived.Lib.ConvBytes
import Derived.Laws.Slices
import Derived.WalkKit
import Derived.KernelRfl
import Derived.RowKit3
import Derived.Deep.LoopGhost
import Derived.Deep.QuietTactic
import Derived.BigQuiet
import Derived.WideLaws
import Derived.Deep.DeepCutAuto
import Derived.Deep.CutBlock
import Derived.Deep.RegionHeld3
import Derived.Laws.Rows
import Derived.Lib.AppendStr
import Derived.ArgAppend
import Derived.Laws.IdiomCopy
import Derived.OrdersHeld
import Derived.Laws.BitsLemmas
import Derived.RowKit
namespace Go.Proofs.Ytahnncccdlblgaa.G
open Go.RowKit Go.Proofs.YtahnncccdlblgaaW.PrintWords Go.Proofs.YtahnncccdlblgaaW.PrintLast Go.Proofs.YtahnncccdlblgaaW.PrintMore Go.Proofs.Ytahnncccdlblgaa.Plain
attribute [local go_sem] max2_int min2_int max_two min_two max_three min_three max_four min_four
set_option linter.unusedVariables false
set_option linter.unusedSimpArgs false
/-- May a label not be? -/
def badLab (s : ByteArray) : Bool := decide (s.size = 0 ∨ 63 < s.size)
/-- How many bytes a name takes. -/
def sizeL (l : List ByteArray) : Int := l.foldl (fun n s => n + (1 + (s.size : Int))) 1
theorem sizeL_snoc (l : List ByteArray) (s : ByteArray) : sizeL (l ++ [s]) = sizeL l + (1 + (s.size : Int)) := by simp [sizeL]
/-- May a name be? -/
def soundB (l : List ByteArray) : Bool := decide (l.length ≤ 255) && !l.any badLab && decide (sizeL l ≤ 255)
theorem size_zero {s : ByteArray} (h : s.size = 0) : s = ByteArray.empty := by
  obtain ⟨d⟩ := s
  have : d = #[] := Array.eq_empty_of_size_eq_zero h
  subst this
  rfl
theorem toList_ne {s : ByteArray} (h : s.size ≠ 0) : s.toList ≠ [] := by
  rw [ByteArray.toList_eq]
  intro e
  have : s.data.toList.length = 0 := by rw [e]; rfl
  rw [Array.length_toList] at this
  exact h this
theorem test_label (s : ByteArray) (w : World) (hs : s.size ≤ 9223372036854775807) : Calls Try.prog 50 #[.string s] w fun e w' => e = .returned (.bool (badLab s)) ∧ w = w' := by
  by_cases h0 : s.size = 0
  · obtain rfl := size_zero h0
    clear h0
    go_enter Try.func50, Try.ntmps50
    go_wp2
    go_ret
    exact ⟨rfl, rfl⟩
  · have k0 := toList_ne h0
    have k1 : (s.toList.isEmpty) = false := by simpa using k0
    have k2 : (!s.toList.isEmpty) = true := by rw [k1]; rfl
    by_cases h1 : 63 < s.size
    · have hb : badLab s = true := decide_eq_true (.inr h1)
      have k3 := decide_eq_true h1
      have k4 : decide ((63 : Int) < s.size) = true := decide_eq_true (by omega)
      rw [hb]
      clear hb h0 h1
      go_enter Try.func50, Try.ntmps50
      go_wp2
      go_ret
      exact ⟨rfl, rfl⟩
    · have hb : badLab s = false := decide_eq_false (by omega)
      have k3 := decide_eq_false h1
      have k4 : decide ((63 : Int) < s.size) = false := decide_eq_false (by omega)
      rw [hb]
      clear hb h0 h1
      go_enter Try.func50, Try.ntmps50
      go_wp2
      go_ret
      exact ⟨rfl, rfl⟩
/-- The place of the first bad label; the length, if there is none. -/
def firstBad : List ByteArray → Nat
  | [] => 0
  | x :: l => if badLab x = true then 0 else firstBad l + 1
theorem firstBad_le (l : List ByteArray) : firstBad l ≤ l.length := by
  induction l with
  | nil => simp [firstBad]
  | cons x l ih => unfold firstBad; split <;> simp; exact ih
theorem firstBad_any (l : List ByteArray) : l.any badLab = decide (firstBad l < l.length) := by
  induction l with
  | nil => simp [firstBad]
  | cons x l ih =>
    unfold firstBad
    cases h : badLab x with
    | true => simp [h]
    | false => simp [h, ih]
theorem firstBad_step (l : List ByteArray) (j : Nat) (hj : j < l.length) (h : j ≤ firstBad l) : (badLab (rdOf ByteArray.empty l (j : Int)) = true → firstBad l = j) ∧ (badLab (rdOf ByteArray.empty l (j : Int)) = false → j + 1 ≤ firstBad l) := by
  induction l generalizing j with
  | nil => simp at hj
  | cons x l ih =>
    cases j with
    | zero =>
      have e : rdOf ByteArray.empty (x :: l) ((0 : Nat) : Int) = x := rfl
      rw [e]
      unfold firstBad
      refine ⟨fun h => by rw [if_pos h], fun h => by rw [if_neg (by simp [h])]; omega⟩
    | succ j =>
      have e : rdOf ByteArray.empty (x :: l) ((j + 1 : Nat) : Int) = rdOf ByteArray.empty l (j : Int) := by simp [rdOf]
      rw [e]
      unfold firstBad at h ⊢
      split at h
      · omega
      · rename_i hx
        rw [if_neg hx]
        have := ih j (by simpa using hj) (by omega)
        refine ⟨fun h => by rw [this.1 h], fun h => by have := this.2 h; omega⟩
theorem rdOf_mem {l : List ByteArray} {j : Nat} (h : j < l.length) : rdOf ByteArray.empty l (j : Int) ∈ l := by
  unfold rdOf
  rw [Int.toNat_natCast, List.getD_eq_getElem?_getD, List.getElem?_eq_getElem h]
  exact List.getElem_mem h
theorem index_label (A : Option Addr) (c : Nat) (l : List ByteArray) (w : World) (hr : Kd.C Kd.string w A l.length l) (hs : ∀ s ∈ l, s.size ≤ 9223372036854775807) :
    Calls Try.prog 52 #[.slice A l.length c, .func (Fn.func 50) #[] #[]] w fun e w' => e = .returned (.int .i64 (if firstBad l < l.length then (firstBad l : Int) else -1)) ∧ w = w' := by
  have HR := Aside0.mk hr
  have HS := Aside0.mk hs
  have hm := Kd.C_max hr
  clear hr hs
  obtain ⟨fx, hfx⟩ : ∃ fx, firstBad l = fx := ⟨_, rfl⟩
  rw [hfx]
  have HF := Aside0.mk hfx
  have hfl : fx ≤ l.length := by rw [← hfx]; exact firstBad_le _
  clear hfx
  go_enter Try.func52, Try.ntmps52
  go_wp2
  go_loop [8] (fun i => ∃ j : Nat, j ≤ l.length ∧ i = .int .i64 j ∧ Aside0 (j ≤ fx)) (fun i => l.length - (intOf i).toNat)
  case atStart => exact ⟨0, Nat.zero_le _, rfl, ⟨Nat.zero_le _⟩⟩
  case round =>
    obtain ⟨j, hj, rfl, HJ⟩ := hrel
    by_cases hlt : j < l.length
    · obtain ⟨ad, rfl, hx⟩ := Kd.at_string HR.out (j : Int) (by omega) (by omega)
      have hst := firstBad_step l j hlt (by rw [HF.out]; exact HJ.out)
      rw [HF.out] at hst
      have hsz := HS.out _ (rdOf_mem hlt)
      simp only [Int.toNat_natCast] at hx
      obtain ⟨s, hse⟩ : ∃ s, rdOf ByteArray.empty l (j : Int) = s := ⟨_, rfl⟩
      rw [hse] at hx hst hsz
      have HST := Aside0.mk hst
      have HSZ := Aside0.mk hsz
      clear hse hst hsz
      cases hb : badLab s with
      | true =>
        have hfj : fx = j := HST.out.1 hb
        have HBD := Aside0.mk hb
        clear hb
        go_wp2_with (go_at_call 50; (with_reducible refine (test_label s _ HSZ.out).mono ?_); rintro e w2 ⟨rfl, rfl⟩; rw [HBD.out])
        go_ret
        exact ⟨rfl, rfl⟩
      | false =>
        have hfj : j + 1 ≤ fx := HST.out.2 hb
        have HBD := Aside0.mk hb
        clear hb
        go_wp2_with (go_at_call 50; (with_reducible refine (test_label s _ HSZ.out).mono ?_); rintro e w2 ⟨rfl, rfl⟩; rw [HBD.out])
        go_round
        case rel => exact ⟨j + 1, by omega, by go_num, ⟨hfj⟩⟩
        case measure => simp [intOf]; omega
    · have hfj := HJ.out
      go_wp2
      go_ret
      exact ⟨rfl, rfl⟩
theorem contains_label (A : Option Addr) (c : Nat) (l : List ByteArray) (w : World) (hr : Kd.C Kd.string w A l.length l) (hs : ∀ s ∈ l, s.size ≤ 9223372036854775807) :
    Calls Try.prog 49 #[.slice A l.length c, .func (Fn.func 50) #[] #[]] w fun e w' => e = .returned (.bool (l.any badLab)) ∧ w = w' := by
  have HR := Aside0.mk hr
  have HS := Aside0.mk hs
  clear hr hs
  rw [firstBad_any]
  by_cases h : firstBad l < l.length
  · have hd := decide_eq_true h
    have HD := Aside0.mk h
    rw [hd]
    have hge : decide ((0 : Int) ≤ firstBad l) = true := decide_eq_true (by omega)
    clear h hd
    go_enter Try.func49, Try.ntmps49
    go_wp2_with (go_at_call 52; (with_reducible refine (index_label A c l _ HR.out HS.out).mono ?_); rintro e w2 ⟨rfl, rfl⟩; rw [if_pos HD.out])
    go_ret
    exact ⟨rfl, rfl⟩
  · have hd := decide_eq_false h
    have HD := Aside0.mk h
    rw [hd]
    clear h hd
    go_enter Try.func49, Try.ntmps49
    go_wp2_with (go_at_call 52; (with_reducible refine (index_label A c l _ HR.out HS.out).mono ?_); rintro e w2 ⟨rfl, rfl⟩; rw [if_neg HD.out])
    go_ret
    exact ⟨rfl, rfl⟩
theorem sizeL_bd (l : List ByteArray) (h : ∀ s ∈ l, s.size ≤ 63) : 1 ≤ sizeL l ∧ sizeL l ≤ 1 + 64 * l.length := by
  unfold sizeL
  suffices ∀ a : Int, 1 ≤ a → 1 ≤ l.foldl (fun n s => n + (1 + (s.size : Int))) a ∧ l.foldl (fun n s => n + (1 + (s.size : Int))) a ≤ a + 64 * l.length from this 1 (Int.le_refl _)
  induction l with
  | nil => intro a ha; simp; omega
  | cons x l ih =>
    intro a ha
    have hx := h x (by simp)
    have := ih (fun s hs => h s (by simp [hs])) (a + (1 + (x.size : Int))) (by omega)
    simp only [List.foldl_cons, List.length_cons]
    omega
theorem size_label (A : Option Addr) (c : Nat) (l : List ByteArray) (w : World) (hr : Kd.C Kd.string w A l.length l) (hs : ∀ s ∈ l, s.size ≤ 63) (hl : l.length ≤ 255) :
    Calls Try.prog 51 #[.slice A l.length c] w fun e w' => e = .returned (.int .i64 (sizeL l)) ∧ w = w' := by
  have HR := Aside0.mk hr
  have HS := Aside0.mk hs
  clear hr hs
  go_enter Try.func51, Try.ntmps51
  go_wp2
  go_loop [3, 8] (fun v i => ∃ j : Nat, j ≤ l.length ∧ i = .int .i64 j ∧ v = .int .i64 (sizeL (l.take j))) (fun _ i => l.length - (intOf i).toNat)
  case atStart => exact ⟨0, Nat.zero_le _, rfl, rfl⟩
  case round =>
    obtain ⟨j, hj, rfl, rfl⟩ := hrel
    have hbd := sizeL_bd (l.take j) (fun s hs => HS.out s (List.mem_of_mem_take hs))
    have htl : (l.take j).length ≤ l.length := List.length_take_le' _ _
    obtain ⟨z, hz⟩ : ∃ z, sizeL (l.take j) = z := ⟨_, rfl⟩
    rw [hz] at hbd ⊢
    have HZ := Aside0.mk hz
    clear hz
    by_cases hlt : j < l.length
    · obtain ⟨ad, rfl, hx⟩ := Kd.at_string HR.out (j : Int) (by omega) (by omega)
      have hsz := HS.out _ (rdOf_mem hlt)
      simp only [Int.toNat_natCast] at hx
      have HN := Aside0.mk (show sizeL (l.take (j + 1)) = z + (1 + ((rdOf ByteArray.empty l (j : Int)).size : Int)) by rw [take_snoc l ByteArray.empty j hlt, sizeL_snoc, HZ.out]; rfl)
      obtain ⟨s, hse⟩ : ∃ s, rdOf ByteArray.empty l (j : Int) = s := ⟨_, rfl⟩
      rw [hse] at hx hsz HN
      clear hse
      go_wp2
      go_round
      case rel => exact ⟨j + 1, by omega, by go_num, by rw [HN.out]⟩
      case measure => simp [intOf]; omega
    · have he : l.take j = l := List.take_of_length_le (by omega)
      rw [he] at HZ
      clear he
      go_wp2
      go_ret
      exact ⟨by rw [HZ.out]; rfl, rfl⟩
theorem name_Sound (A : Option Addr) (c : Nat) (l : List ByteArray) (w : World) (hr : Kd.C Kd.string w A l.length l) (hs : ∀ s ∈ l, s.size ≤ 9223372036854775807) :
    Calls Try.prog 45 #[.slice A l.length c] w fun e w' => e = .returned (.bool (soundB l)) ∧ w = w' := by
  have HR := Aside0.mk hr
  have HS := Aside0.mk hs
  clear hr hs
  unfold soundB
  by_cases h : l.length ≤ 255
  · have hd := decide_eq_true h
    have hd2 : decide ((l.length : Int) ≤ 255) = true := decide_eq_true (by omega)
    rw [hd, Bool.true_and]
    obtain ⟨b, hb⟩ : ∃ b, l.any badLab = b := ⟨_, rfl⟩
    have HBD := Aside0.mk hb
    rw [hb]
    cases b with
    | true =>
      clear hb h
      go_enter Try.func45, Try.ntmps45
      go_wp2_with (go_at_call 49; (with_reducible refine (contains_label A c l _ HR.out HS.out).mono ?_); rintro e w2 ⟨rfl, rfl⟩; rw [HBD.out])
      go_ret
      exact ⟨rfl, rfl⟩
    | false =>
      have hall : ∀ s ∈ l, s.size ≤ 63 := fun s hsm => by
        have := List.any_eq_false.1 hb s hsm
        simp [badLab] at this
        omega
      have HA := Aside0.mk hall
      have HL := Aside0.mk h
      obtain ⟨z, hz⟩ : ∃ z, sizeL l = z := ⟨_, rfl⟩
      have HZ := Aside0.mk hz
      rw [hz]
      by_cases h2 : z ≤ 255
      · have hk := decide_eq_true h2
        clear hb h hall hz h2
        go_enter Try.func45, Try.ntmps45
        go_wp2_with (first | (go_at_call 49; (with_reducible refine (contains_label A c l _ HR.out HS.out).mono ?_); rintro e w2 ⟨rfl, rfl⟩; rw [HBD.out]) | (go_at_call 51; (with_reducible refine (size_label A c l _ HR.out HA.out HL.out).mono ?_); rintro e w2 ⟨rfl, rfl⟩; rw [HZ.out]))
        go_ret
        exact ⟨by first | rfl | (rw [hk]; rfl), rfl⟩
      · have hk := decide_eq_false h2
        clear hb h hall hz h2
        go_enter Try.func45, Try.ntmps45
        go_wp2_with (first | (go_at_call 49; (with_reducible refine (contains_label A c l _ HR.out HS.out).mono ?_); rintro e w2 ⟨rfl, rfl⟩; rw [HBD.out]) | (go_at_call 51; (with_reducible refine (size_label A c l _ HR.out HA.out HL.out).mono ?_); rintro e w2 ⟨rfl, rfl⟩; rw [HZ.out]))
        go_ret
        exact ⟨by first | rfl | (rw [hk]; rfl), rfl⟩
  · have hd := decide_eq_false h
    have hd2 : decide ((l.length : Int) ≤ 255) = false := decide_eq_false (by omega)
    rw [hd, Bool.false_and, Bool.false_and]
    clear h
    go_enter Try.func45, Try.ntmps45
    go_wp2_with (fail)
    go_ret
    exact ⟨rfl, rfl⟩
end Go.Proofs.Ytahnncccdlblgaa.G
