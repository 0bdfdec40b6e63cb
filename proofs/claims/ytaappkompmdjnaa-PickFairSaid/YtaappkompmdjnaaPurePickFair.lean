/- Of servers that never answer each one is asked as often as any other, give or take one, and none more often than may be: the statement over lists. Conditions: none. -/
import Derived.Test.YtaappkompmdjnaaHPickFairx2
import Derived.Test.YtaappkompmdjnaaPickl
namespace Go.Proofs.Ytaappkompmdjnaa.Pure
open Go.Proofs.Ytaappkompmdjnaa.G Go.Proofs.Ytaappkompmdjnaa.HPickFair
open Go.RowKit Go.Proofs.YtaappkompmdjnaaW.PrintWords Go.Proofs.YtaappkompmdjnaaW.PrintLast Go.Proofs.YtaappkompmdjnaaW.PrintMore Go.Proofs.Ytaappkompmdjnaa.Plain
attribute [local go_sem] max2_int min2_int max_two min_two max_three min_three max_four min_four
set_option linter.unusedVariables false
set_option linter.unusedSimpArgs false
open Go.Proofs.Ytaappkompmdjnaa.BPick (S42 k42 rd_T42 z42)

/-- Servers 0, 1, .., each with its count. -/
def srvs (c : Nat → Int) (n : Nat) : List S42 := (List.range n).map fun (i : Nat) => (⟨[(i : Int)], c i, false⟩ : S42)
/-- All counts together. -/
def tot (c : Nat → Int) : Nat → Int
  | 0 => 0
  | n + 1 => tot c n + c n
def up (c : Nat → Int) (k : Nat) : Nat → Int := fun i => if i = k then c i + 1 else c i
theorem srvs_len (c : Nat → Int) (n : Nat) : (srvs c n).length = n := by simp [srvs]
theorem rd_srvs (c : Nat → Int) {n a : Nat} (h : a < n) : rd_T42 (srvs c n) (a : Int) = ⟨[(a : Int)], c a, false⟩ := by
  rw [rd_at _ _ (by rw [srvs_len]; exact h)]; simp [srvs]
theorem tot_up (c : Nat → Int) (k : Nat) : ∀ n, tot (up c k) n = tot c n + if k < n then 1 else 0
  | 0 => by simp [tot]
  | n + 1 => by
    rw [tot, tot, tot_up c k n]
    unfold up
    by_cases h : n = k
    · subst h; rw [if_neg (by omega), if_pos rfl, if_pos (by omega)]; omega
    · rw [if_neg h]
      by_cases h2 : k < n
      · rw [if_pos h2, if_pos (by omega)]; omega
      · rw [if_neg h2, if_neg (by omega)]; omega
theorem tot_le (c : Nat → Int) (m : Int) : ∀ n, (∀ i, i < n → c i ≤ m) → tot c n ≤ n * m
  | 0, _ => by simp [tot]
  | n + 1, h => by
    have h1 := tot_le c m n (fun i hi => h i (by omega))
    have h2 := h n (by omega)
    rw [tot, Int.natCast_succ, Int.add_mul, Int.one_mul]; omega
theorem tot_lt (c : Nat → Int) (m : Int) : ∀ n a, (∀ i, i < n → c i ≤ m) → a < n → c a < m → tot c n < n * m
  | 0, a, _, ha, _ => by omega
  | n + 1, a, h, ha, hc => by
    have h2 := h n (by omega)
    rw [tot, Int.natCast_succ, Int.add_mul, Int.one_mul]
    by_cases e : a = n
    · subst e
      have h1 := tot_le c m a (fun i hi => h i (by omega))
      omega
    · have h1 := tot_lt c m n a (fun i hi => h i (by omega)) (by omega) hc
      omega
theorem tot_ge (c : Nat → Int) (m : Int) : ∀ n, (∀ i, i < n → m ≤ c i) → n * m ≤ tot c n
  | 0, _ => by simp [tot]
  | n + 1, h => by
    have h1 := tot_ge c m n (fun i hi => h i (by omega))
    have h2 := h n (by omega)
    rw [tot, Int.natCast_succ, Int.add_mul, Int.one_mul]; omega
theorem first_srvs (c : Nat → Int) {n k : Nat} (h : k < n) : firstAt [(k : Int)] (srvs c n) = k := by
  have step : ∀ j, j ≤ k → j ≤ firstAt [(k : Int)] (srvs c n) := by
    intro j
    induction j with
    | zero => intro _; omega
    | succ j ih =>
      intro hj
      have := (first_step [(k : Int)] (srvs c n) j (by rw [srvs_len]; omega) (ih (by omega))).2
      rw [rd_srvs c (by omega)] at this
      refine this ?_
      simp; omega
  have := (first_step [(k : Int)] (srvs c n) k (by rw [srvs_len]; exact h) (step k (Nat.le_refl _))).1
  rw [rd_srvs c h] at this
  exact this rfl
theorem note_srvs (c : Nat → Int) {n k : Nat} (h : k < n) (hc : c k < 9223372036854775807) : noteF (srvs c n) [(k : Int)] false = srvs (up c k) n := by
  unfold noteF
  rw [first_srvs c h, srvs_len, if_pos h, rd_srvs c h]
  simp only [Bool.or_false]
  rw [if_pos hc]
  apply List.ext_getElem
  · rw [List.length_set, srvs_len, srvs_len]
  · intro i h1 h2
    rw [List.getElem_set]
    simp only [srvs, List.getElem_map, List.getElem_range, up]
    by_cases e : k = i
    · subst e; simp
    · rw [if_neg e, if_neg (fun h => e h.symm)]

structure Inv (n : Nat) (most : Int) (i : Nat) (c : Nat → Int) : Prop where
  lo : ∀ a, a < n → 0 ≤ c a ∧ c a ≤ most
  near : ∀ a b, a < n → b < n → c a ≤ c b + 1
  sum : tot c n = (i : Int)
theorem wrap_id' {n : Int} (h0 : -9223372036854775808 ≤ n) (h1 : n ≤ 9223372036854775807) : wrap64 n = n := by unfold wrap64; omega
theorem answers_yes : gazetteerlaw19_answers.f = some true := by decide +kernel

section
variable {n : Nat} {most : Int} {ds : List Int} (hn : 1 ≤ n) (hn9 : n ≤ 9) (hm1 : 1 ≤ most) (hm5 : most ≤ 5)
include hn hn9 hm1 hm5
theorem l3_back {c : Nat → Int} {i : Nat} (hi : Inv n most i c) (x11 : Int) (a : Nat) (ha : a < n) (h : ∃ k, gazetteerlaw19_PickFair.l2 k ds (n : Int) most (srvs c n) x11 ((a : Int) + 1) = some true) :
    ∀ d b : Nat, b + d = n → ∃ k, gazetteerlaw19_PickFair.l3 k ds (n : Int) most (srvs c n) x11 (a : Int) (b : Int) = some true := by
  intro d
  induction d with
  | zero =>
    intro b hb
    obtain ⟨k, hk⟩ := h
    refine ⟨k + 1, ?_⟩
    simp only [gazetteerlaw19_PickFair.l3]
    rw [if_neg (by omega), wrap_id' (by omega) (by omega)]; exact hk
  | succ d ih =>
    intro b hb
    obtain ⟨k, hk⟩ := ih (b + 1) (by omega)
    refine ⟨k + 1, ?_⟩
    have hbn : b < n := by omega
    have h1 := hi.lo a ha
    have h2 := hi.lo b hbn
    have h3 := hi.near a b ha hbn
    simp only [gazetteerlaw19_PickFair.l3]
    rw [if_pos (by omega), if_pos (by omega), srvs_len, if_pos (by omega), if_pos (by omega), if_pos (by omega), rd_srvs c ha, rd_srvs c hbn]
    dsimp only
    rw [wrap_id' (n := c b + 1) (by omega) (by omega), if_neg (by omega), if_neg (by omega), wrap_id' (by omega) (by omega)]
    exact hk
theorem l2_back {c : Nat → Int} {i : Nat} (hi : Inv n most i c) (x11 : Int) (h : ∃ k, gazetteerlaw19_PickFair.l1 k ds (n : Int) most (srvs c n) (wrap64 (x11 + 1)) = some true) :
    ∀ d a : Nat, a + d = n → ∃ k, gazetteerlaw19_PickFair.l2 k ds (n : Int) most (srvs c n) x11 (a : Int) = some true := by
  intro d
  induction d with
  | zero =>
    intro a ha
    obtain ⟨k, hk⟩ := h
    refine ⟨k + 1, ?_⟩
    simp only [gazetteerlaw19_PickFair.l2]
    rw [if_neg (by omega)]; exact hk
  | succ d ih =>
    intro a ha
    have h' := ih (a + 1) (by omega)
    obtain ⟨k, hk⟩ := l3_back hn hn9 hm1 hm5 hi x11 a (by omega) h' n 0 (by omega)
    refine ⟨k + 1, ?_⟩
    simp only [gazetteerlaw19_PickFair.l2]
    rw [if_pos (by omega)]; exact hk
theorem l1_holds (hds : ds.length ≤ 200) (hdw : ∀ x ∈ ds, 0 ≤ x ∧ x ≤ 65535) : ∀ (d i : Nat) (c : Nat → Int), i + d = ds.length → Inv n most i c → ∃ k, gazetteerlaw19_PickFair.l1 k ds (n : Int) most (srvs c n) (i : Int) = some true := by
  intro d
  induction d with
  | zero =>
    intro i c hi _
    refine ⟨1, ?_⟩
    simp only [gazetteerlaw19_PickFair.l1]
    rw [if_neg (by omega)]
  | succ d ih =>
    intro i c hi hinv
    have hown : gazetteerlaw19_own.f (srvs c n) = some (srvs c n) := by
      unfold gazetteerlaw19_own.f
      rw [if_pos]
      unfold ownOk
      simp only [Bool.and_eq_true, decide_eq_true_eq, List.all_eq_true, srvs_len]
      refine ⟨by omega, fun x hx => ?_⟩
      simp only [srvs, List.mem_map, List.mem_range] at hx
      obtain ⟨_, _, rfl⟩ := hx
      simp
    have hmul : wrap64 ((n : Int) * most) = (n : Int) * most := by
      have h1 : (n : Int) * most ≤ 9 * most := Int.mul_le_mul_of_nonneg_right (by omega) (by omega)
      have h0 : 0 ≤ (n : Int) * most := Int.mul_nonneg (by omega) (by omega)
      exact wrap_id' (by omega) (by omega)
    have hnext : ∀ dd, pick_Next.f (srvs c n) most dd = some (chosen (bestF (srvs c n) most n) dd) := by
      intro dd; unfold pick_Next.f; rw [if_pos (by rw [srvs_len]; omega), srvs_len]
    have hB := best_of (srvs c n) most n
    generalize hbe : bestF (srvs c n) most n = B at *
    have hcand : ∀ a : Nat, a < n → (cand (srvs c n) most (a : Int) ↔ c a < most) := fun a ha => by
      unfold cand; rw [rd_srvs c ha]; simp
    rcases chosen_of B (wrap64 (rd ds (i : Int))) with ⟨hb, hc⟩ | ⟨hb, hc⟩
    · -- nobody may be asked
      have hall : ∀ a, a < n → most ≤ c a := fun a ha => by
        have := hB.none hb a ha
        rw [hcand a ha] at this; omega
      have hge := tot_ge c most n hall
      rw [hinv.sum] at hge
      refine ⟨2, ?_⟩
      simp only [gazetteerlaw19_PickFair.l1]
      rw [if_pos (by omega), hown]
      simp only [Option.bind_some]
      rw [if_pos (by omega), hnext]
      simp only [Option.bind_some, hc, hmul]
      rw [decide_eq_true (show (i : Int) ≥ (n : Int) * most from hge)]
      rw [if_neg (by decide)]
      simp only [gazetteerlaw19_PickFair.j3]
      rw [if_neg (by simp; omega)]; rfl
    · have hmem := hB.mem _ hc
      generalize hk : chosen B (wrap64 (rd ds (i : Int))) = x at *
      obtain ⟨k, rfl⟩ : ∃ k : Nat, x = (k : Int) := ⟨x.toNat, by omega⟩
      have hkn : k < n := by omega
      have hck : c k < most := (hcand k hkn).1 hmem.2
      have hlt := tot_lt c most n k (fun a ha => (hinv.lo a ha).2) hkn hck
      rw [hinv.sum] at hlt
      have hleast : ∀ a, a < n → c k ≤ c a := fun a ha => by
        by_cases hca : c a < most
        · have := hB.least _ hc a ha ((hcand a ha).2 hca)
          unfold cnt at this
          rw [rd_srvs c hkn, rd_srvs c ha] at this
          exact this
        · omega
      have hinv' : Inv n most (i + 1) (up c k) := by
        refine ⟨fun a ha => ?_, fun a b ha hb => ?_, ?_⟩
        · have := hinv.lo a ha
          unfold up; split
          · rename_i e; subst e; omega
          · exact this
        · have h1 := hinv.near a b ha hb
          have h2 := hleast b hb
          unfold up
          split <;> split <;> (try omega)
          rename_i e _; subst e; omega
        · rw [tot_up, if_pos hkn, hinv.sum]; omega
      have hil : (i : Int) < (ds.length : Int) := by omega
      have h1 := ih (i + 1) (up c k) (by omega) hinv'
      have ew : wrap64 ((i : Int) + 1) = ((i + 1 : Nat) : Int) := by rw [wrap_id' (by omega) (by omega)]; omega
      rw [← ew] at h1
      obtain ⟨q, hq⟩ := l2_back hn hn9 hm1 hm5 hinv' (i : Int) h1 n 0 (by omega)
      refine ⟨q + 2, ?_⟩
      simp only [gazetteerlaw19_PickFair.l1]
      rw [if_pos hil, hown]
      simp only [Option.bind_some]
      rw [if_pos (Int.natCast_nonneg i), hnext]
      simp only [Option.bind_some, hk, hmul]
      rw [decide_eq_false (show ¬ (i : Int) ≥ (n : Int) * most from Int.not_le.2 hlt)]
      have e1 : ((k : Int) == -1) = false := by rw [beq_eq_false_iff_ne]; omega
      rw [e1, if_neg (by decide)]
      simp only [gazetteerlaw19_PickFair.j3]
      rw [if_neg (by simp; omega), if_neg (by omega), show (k : Int) % 256 = (k : Int) by omega]
      have hnote : pick_Note.f (srvs c n) [(k : Int)] false = some (srvs (up c k) n) := by
        unfold pick_Note.f
        rw [note_srvs c hkn (by omega), if_pos]
        unfold noteOk
        simp only [Bool.and_eq_true, decide_eq_true_eq, List.all_eq_true, srvs_len]
        refine ⟨⟨⟨by omega, by simp⟩, bytesB_iff.2 (fun x hx => by simp at hx; omega)⟩, fun x hx => ?_⟩
        simp only [srvs, List.mem_map, List.mem_range] at hx
        obtain ⟨j, hj, rfl⟩ := hx
        refine ⟨⟨by simp, bytesB_iff.2 (fun x hx => by simp at hx; omega)⟩, ?_⟩
        have := hinv.lo j hj
        dsimp only; omega
      rw [hnote]
      exact hq
end

theorem wfu8 {n : Int} (h : (Lit.int .u8 n).wf = true) : 0 ≤ n ∧ n ≤ 255 := by
  simp [Lit.wf, IntKind.min, IntKind.max, IntKind.signed, IntKind.bits] at h; omega
theorem wfu16 {n : Int} (h : (Lit.int .u16 n).wf = true) : 0 ≤ n ∧ n ≤ 65535 := by
  simp [Lit.wf, IntKind.min, IntKind.max, IntKind.signed, IntKind.bits] at h; omega
theorem l0_holds {n : Nat} {most : Int} {ds : List Int} (hn9 : n ≤ 9) (h : ∃ k, gazetteerlaw19_PickFair.l1 k ds (n : Int) most (srvs (fun _ => 0) n) 0 = some true) :
    ∀ d j : Nat, j + d = n → ∃ k, gazetteerlaw19_PickFair.l0 k ds (n : Int) most (srvs (fun _ => 0) j) (j : Int) = some true := by
  intro d
  induction d with
  | zero =>
    intro j hj
    obtain rfl : j = n := by omega
    obtain ⟨k, hk⟩ := h
    refine ⟨k + 2, ?_⟩
    simp only [gazetteerlaw19_PickFair.l0]
    rw [if_neg (by omega), answers_yes]
    simp only [Option.bind_some, if_true, gazetteerlaw19_PickFair.j1]
    by_cases hl : (ds.length : Int) > 200
    · rw [if_pos (decide_eq_true hl), answers_yes]; rfl
    · rw [if_neg (by simp; omega)]; exact hk
  | succ d ih =>
    intro j hj
    obtain ⟨k, hk⟩ := ih (j + 1) (by omega)
    refine ⟨k + 1, ?_⟩
    simp only [gazetteerlaw19_PickFair.l0]
    rw [if_pos (by omega), if_pos (by rw [srvs_len]; omega), wrap_id' (by omega) (by omega), show (j : Int) % 256 = (j : Int) by omega]
    have e : srvs (fun _ => 0) j ++ [(⟨[(j : Int)], 0, false⟩ : S42)] = srvs (fun _ => 0) (j + 1) := by simp [srvs, List.range_succ]
    rw [e]
    exact hk
theorem PickFair : gazetteerlaw19_PickFair.Pure := by
  intro a0 a1 ds h0 h1 _ _ hw
  have h0 := wfu8 h0
  have h1 := wfu8 h1
  unfold gazetteerlaw19_PickFair.f
  have e0 : Int.tmod a0 9 = a0 % 9 := Int.tmod_eq_emod_of_nonneg h0.1
  have e1 : Int.tmod a1 5 = a1 % 5 := Int.tmod_eq_emod_of_nonneg h1.1
  rw [e0, e1, wrap_id' (n := a0 % 9) (by omega) (by omega), wrap_id' (n := a1 % 5) (by omega) (by omega), wrap_id' (n := a0 % 9 + 1) (by omega) (by omega), wrap_id' (n := a1 % 5 + 1) (by omega) (by omega)]
  obtain ⟨n, hn⟩ : ∃ n : Nat, a0 % 9 + 1 = (n : Int) := ⟨(a0 % 9 + 1).toNat, by omega⟩
  obtain ⟨m, hm⟩ : ∃ m : Int, a1 % 5 + 1 = m := ⟨_, rfl⟩
  rw [hn, hm]
  have hinit : ∃ k, gazetteerlaw19_PickFair.l1 k ds (n : Int) m (srvs (fun _ => 0) n) 0 = some true ∨ ds.length > 200 := by
    by_cases hl : ds.length > 200
    · exact ⟨0, .inr hl⟩
    · have hz : ∀ n, tot (fun _ => 0) n = 0 := fun n => by induction n with
        | zero => rfl
        | succ n ih => rw [tot, ih]; rfl
      obtain ⟨k, hk⟩ := l1_holds (n := n) (most := m) (ds := ds) (by omega) (by omega) (by omega) (by omega) (by omega) (fun x hx => wfu16 (hw x hx)) ds.length 0 (fun _ => 0) (by omega) ⟨fun a ha => ⟨Int.le_refl _, by omega⟩, fun a b _ _ => by decide, hz n⟩
      exact ⟨k, .inl hk⟩
  obtain ⟨k, hk | hl⟩ := hinit
  · exact l0_holds (by omega) ⟨k, hk⟩ n 0 (by omega)
  · -- the draws are too many: nothing is asked
    have key : ∀ d j : Nat, j + d = n → ∃ k, gazetteerlaw19_PickFair.l0 k ds (n : Int) m (srvs (fun _ => 0) j) (j : Int) = some true := by
      intro d
      induction d with
      | zero =>
        intro j hj
        refine ⟨2, ?_⟩
        simp only [gazetteerlaw19_PickFair.l0]
        rw [if_neg (by omega), answers_yes]
        simp only [Option.bind_some, if_true, gazetteerlaw19_PickFair.j1]
        rw [if_pos (by simp; omega), answers_yes]; rfl
      | succ d ih =>
        intro j hj
        obtain ⟨k, hk⟩ := ih (j + 1) (by omega)
        refine ⟨k + 1, ?_⟩
        simp only [gazetteerlaw19_PickFair.l0]
        rw [if_pos (by omega), if_pos (by rw [srvs_len]; omega), wrap_id' (by omega) (by omega), show (j : Int) % 256 = (j : Int) by omega]
        have e : srvs (fun _ => 0) j ++ [(⟨[(j : Int)], 0, false⟩ : S42)] = srvs (fun _ => 0) (j + 1) := by simp [srvs, List.range_succ]
        rw [e]
        exact hk
    exact key n 0 (by omega)

end Go.Proofs.Ytaappkompmdjnaa.Pure
