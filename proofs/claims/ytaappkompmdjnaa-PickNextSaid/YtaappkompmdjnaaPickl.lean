/- Plain law of pick.Next's choice: it is one of the least count among those that are not bad and may be asked, or none is. Conditions: none. -/
import Derived.Test.YtaappkompmdjnaaGown
namespace Go.Proofs.Ytaappkompmdjnaa.G
open Go.RowKit Go.Proofs.YtaappkompmdjnaaW.PrintWords Go.Proofs.YtaappkompmdjnaaW.PrintLast Go.Proofs.YtaappkompmdjnaaW.PrintMore Go.Proofs.Ytaappkompmdjnaa.Plain
attribute [local go_sem] max2_int min2_int max_two min_two max_three min_three max_four min_four
set_option linter.unusedVariables false
set_option linter.unusedSimpArgs false
open Go.Proofs.Ytaappkompmdjnaa.BPick (S42 k42 rd_T42 z42)

/-- May it be asked? -/
def cand (l : List S42) (t : Int) (y : Int) : Prop := (rd_T42 l y).f2 = false ∧ (rd_T42 l y).f1 < t
def cnt (l : List S42) (y : Int) : Int := (rd_T42 l y).f1
structure Best (l : List S42) (t : Int) (j : Nat) (b : List Int) : Prop where
  mem : ∀ x ∈ b, (0 ≤ x ∧ x < (j : Int)) ∧ cand l t x
  least : ∀ x ∈ b, ∀ y : Nat, y < j → cand l t (y : Int) → cnt l x ≤ cnt l (y : Int)
  none : b = [] → ∀ y : Nat, y < j → ¬ cand l t (y : Int)
  same : ∀ x ∈ b, cnt l x = cnt l (rd b 0)
theorem step_best {l : List S42} {t : Int} {j : Nat} {b : List Int} (h : Best l t j b) : Best l t (j + 1) (stepB l t b (j : Int)) := by
  have keep : ¬ cand l t (j : Int) → Best l t (j + 1) b := fun hc =>
    ⟨fun x hx => ⟨⟨(h.mem x hx).1.1, by have := (h.mem x hx).1.2; omega⟩, (h.mem x hx).2⟩,
     fun x hx y hy hcy => by
      rcases Nat.lt_or_ge y j with hy' | hy'
      · exact h.least x hx y hy' hcy
      · obtain rfl : y = j := by omega
        exact absurd hcy hc,
     fun hb y hy => by
      rcases Nat.lt_or_ge y j with hy' | hy'
      · exact h.none hb y hy'
      · obtain rfl : y = j := by omega
        exact hc, h.same⟩
  unfold stepB
  by_cases h1 : (rd_T42 l (j : Int)).f2 = true
  · rw [if_pos h1]; exact keep (fun hc => by rw [hc.1] at h1; cases h1)
  · rw [if_neg h1]
    by_cases h2 : t ≤ (rd_T42 l (j : Int)).f1
    · rw [if_pos h2]; exact keep (fun hc => by have := hc.2; omega)
    · rw [if_neg h2]
      have hc : cand l t (j : Int) := ⟨by simpa using h1, by omega⟩
      have one : (∀ y : Nat, y < j → cand l t (y : Int) → cnt l (j : Int) ≤ cnt l (y : Int)) → Best l t (j + 1) [(j : Int)] := fun hl =>
        ⟨fun x hx => by obtain rfl : x = (j : Int) := by simpa using hx
                        exact ⟨by omega, hc⟩,
         fun x hx y hy hcy => by
          obtain rfl : x = (j : Int) := by simpa using hx
          rcases Nat.lt_or_ge y j with hy' | hy'
          · exact hl y hy' hcy
          · obtain rfl : y = j := by omega
            exact Int.le_refl _,
         fun hb => by simp at hb,
         fun x hx => by obtain rfl : x = (j : Int) := by simpa using hx
                        rfl⟩
      by_cases h3 : b = []
      · rw [if_pos h3]; exact one (fun y hy hcy => absurd hcy (h.none h3 y hy))
      · rw [if_neg h3]
        have hb0 : rd b 0 ∈ b := by
          cases b with
          | nil => exact absurd rfl h3
          | cons x r => simp [rd]
        by_cases h4 : (rd_T42 l (j : Int)).f1 < (rd_T42 l (rd b 0)).f1
        · rw [if_pos h4]
          exact one (fun y hy hcy => by have := h.least _ hb0 y hy hcy; unfold cnt at this ⊢; omega)
        · rw [if_neg h4]
          by_cases h5 : (rd_T42 l (j : Int)).f1 = (rd_T42 l (rd b 0)).f1
          · rw [if_pos h5]
            have e0 : rd (b ++ [(j : Int)]) 0 = rd b 0 := by
              cases b with
              | nil => exact absurd rfl h3
              | cons x r => rfl
            have ej : cnt l (j : Int) = cnt l (rd b 0) := h5
            refine ⟨fun x hx => ?_, fun x hx y hy hcy => ?_, fun hb => by simp at hb, fun x hx => ?_⟩
            · rcases List.mem_append.1 hx with hx | hx
              · exact ⟨⟨(h.mem x hx).1.1, by have := (h.mem x hx).1.2; omega⟩, (h.mem x hx).2⟩
              · obtain rfl : x = (j : Int) := by simpa using hx
                exact ⟨by omega, hc⟩
            · have ex : cnt l x = cnt l (rd b 0) := by
                rcases List.mem_append.1 hx with hx | hx
                · exact h.same x hx
                · obtain rfl : x = (j : Int) := by simpa using hx
                  exact ej
              rw [ex]
              rcases Nat.lt_or_ge y j with hy' | hy'
              · exact h.least _ hb0 y hy' hcy
              · obtain rfl : y = j := by omega
                omega
            · rw [e0]
              rcases List.mem_append.1 hx with hx | hx
              · exact h.same x hx
              · obtain rfl : x = (j : Int) := by simpa using hx
                exact ej
          · rw [if_neg h5]
            refine ⟨fun x hx => ⟨⟨(h.mem x hx).1.1, by have := (h.mem x hx).1.2; omega⟩, (h.mem x hx).2⟩, fun x hx y hy hcy => ?_, fun hb => absurd hb h3, h.same⟩
            rcases Nat.lt_or_ge y j with hy' | hy'
            · exact h.least x hx y hy' hcy
            · obtain rfl : y = j := by omega
              have := h.same x hx
              unfold cnt at this ⊢
              omega
theorem best_of (l : List S42) (t : Int) : ∀ j, Best l t j (bestF l t j)
  | 0 => ⟨fun x hx => by simp [bestF] at hx, fun x hx => by simp [bestF] at hx, fun _ y hy => by omega, fun x hx => by simp [bestF] at hx⟩
  | j + 1 => step_best (best_of l t j)
/-- What is chosen: none, if none may be asked; else one of the best. -/
theorem chosen_of (b : List Int) (d : Int) : b = [] ∧ chosen b d = -1 ∨ b ≠ [] ∧ chosen b d ∈ b := by
  unfold chosen
  by_cases h : b = []
  · rw [if_pos h]; exact .inl ⟨h, rfl⟩
  · rw [if_neg h]
    refine .inr ⟨h, ?_⟩
    have hp : (0 : Int) < (b.length : Int) := by cases b with
      | nil => exact absurd rfl h
      | cons x r => simp
    have h0 := Int.emod_nonneg (mx d 0) (Int.ne_of_gt hp)
    have h1 := Int.emod_lt_of_pos (mx d 0) hp
    unfold rd
    rw [List.getD_eq_getElem?_getD, List.getElem?_eq_getElem (by omega)]
    exact List.getElem_mem _

end Go.Proofs.Ytaappkompmdjnaa.G
