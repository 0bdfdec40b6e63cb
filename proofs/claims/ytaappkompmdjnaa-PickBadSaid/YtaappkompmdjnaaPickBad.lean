/- Who is bad is never next, however the others are: the statement over lists, and the walk. Conditions: none. -/
import Derived.Test.YtaappkompmdjnaaHPickBadx2
import Derived.Test.YtaappkompmdjnaaPickl
import Derived.Test.YtaappkompmdjnaaOpenT
namespace Go.Proofs.Ytaappkompmdjnaa.PickBad
open Go.Proofs.Ytaappkompmdjnaa.G
open Go.RowKit Go.Proofs.YtaappkompmdjnaaW.PrintWords Go.Proofs.YtaappkompmdjnaaW.PrintLast Go.Proofs.YtaappkompmdjnaaW.PrintMore Go.Proofs.Ytaappkompmdjnaa.Plain
attribute [local go_sem] max2_int min2_int max_two min_two max_three min_three max_four min_four
set_option linter.unusedVariables false
set_option linter.unusedSimpArgs false
open Go.Proofs.Ytaappkompmdjnaa.BPick (S42 k42 rd_T42 z42)
open Go.Proofs.Ytaappkompmdjnaa.Open (okTried)
theorem answers_yes : HPickBad.gazetteerlaw19_answers.f = some true := by decide +kernel
theorem wf64 {n : Int} (h : (Lit.int .i64 n).wf = true) : -9223372036854775808 ≤ n ∧ n ≤ 9223372036854775807 := by
  simp [Lit.wf, IntKind.min, IntKind.max, IntKind.signed, IntKind.bits] at h; omega
theorem wfu8 {n : Int} (h : (Lit.int .u8 n).wf = true) : 0 ≤ n ∧ n ≤ 255 := by
  simp [Lit.wf, IntKind.min, IntKind.max, IntKind.signed, IntKind.bits] at h; omega
theorem next_some (l : List S42) (t d : Int) (h : l.length ≤ 1000000) : pick_Next.f l t d = some (chosen (bestF l t l.length) d) := by unfold pick_Next.f; rw [if_pos h]

theorem pure (l : List S42) (t d who : Int) (hok : ∀ x ∈ l, okTried x) (hw : (Lit.int .u8 who).wf = true) : ∃ k, HPickBad.gazetteerlaw19_PickBad.f k l t d who = some true := by
  have hw := wfu8 hw
  refine ⟨1, ?_⟩
  unfold HPickBad.gazetteerlaw19_PickBad.f
  rw [answers_yes]
  simp only [Option.bind_some, if_true]
  by_cases h0 : (l.length : Int) = 0
  · rw [if_pos h0]; simp only [HPickBad.gazetteerlaw19_PickBad.j0, if_true]; rw [answers_yes]; rfl
  · rw [if_neg h0]
    by_cases h1 : (l.length : Int) > 300
    · rw [decide_eq_true h1]; simp only [HPickBad.gazetteerlaw19_PickBad.j0, if_true]; rw [answers_yes]; rfl
    · rw [decide_eq_false h1]
      simp only [HPickBad.gazetteerlaw19_PickBad.j0, Bool.false_eq_true, if_false, h0]
      have hown : gazetteerlaw19_own.f l = some l := by
        unfold gazetteerlaw19_own.f
        rw [if_pos]
        unfold ownOk
        simp only [Bool.and_eq_true, decide_eq_true_eq, List.all_eq_true]
        exact ⟨by omega, fun x hx => by have := (hok x hx).1.1; omega⟩
      have ew : wrap64 who = who := by unfold wrap64; omega
      rw [hown, ew]
      simp only [Option.bind_some, List.nil_append, List.length_nil]
      have hm0 : 0 ≤ who.tmod (l.length : Int) := Int.tmod_nonneg _ hw.1
      have hm1 : who.tmod (l.length : Int) < (l.length : Int) := Int.tmod_lt_of_pos _ (by omega)
      rw [if_pos hm0, if_pos hm1]
      obtain ⟨k, hk⟩ : ∃ k : Nat, who.tmod (l.length : Int) = (k : Int) := ⟨(who.tmod (l.length : Int)).toNat, by omega⟩
      rw [hk] at hm1 ⊢
      have hkl : k < l.length := by omega
      rw [rd_at l k hkl]
      have hx := hok l[k] (List.getElem_mem hkl)
      rw [if_pos (by have := hx.1.1; omega)]
      have hby : ∀ x ∈ l, bytesB x.f0 = true := fun x hx => bytesB_iff.2 (fun b hb => wfu8 ((hok x hx).1.2 b hb))
      have hnote : pick_Note.f l l[k].f0 true = some (noteF l l[k].f0 true) := by
        unfold pick_Note.f
        rw [if_pos]
        unfold noteOk
        simp only [Bool.and_eq_true, decide_eq_true_eq, List.all_eq_true]
        exact ⟨⟨⟨by omega, by have := hx.1.1; omega⟩, hby _ (List.getElem_mem hkl)⟩, fun x hx => ⟨⟨by have := (hok x hx).1.1; omega, hby x hx⟩, (wf64 (hok x hx).2).1⟩⟩
      rw [hnote]
      simp only [Option.bind_some]
      have hlen : (noteF l l[k].f0 true).length ≤ 301 := by
        unfold noteF; split
        · rw [List.length_set]; omega
        · rw [List.length_append, List.length_singleton]; omega
      rw [next_some _ t d (by omega)]
      simp only [Option.bind_some]
      generalize noteF l l[k].f0 true = m at *
      have hb := best_of m t m.length
      rcases chosen_of (bestF m t m.length) d with ⟨_, hc⟩ | ⟨_, hc⟩
      · rw [hc, if_pos (by decide)]
      · have := hb.mem _ hc
        generalize chosen (bestF m t m.length) d = i at *
        rw [if_neg (by omega), if_pos (by omega), if_pos (by omega), this.2.1]; rfl

theorem walk (w : World) (A0 : Option Addr) (c0 : Nat) (l0 : List S42) (hC : Kd.C k42 w A0 l0.length l0) (hc : l0.length ≤ c0) (hok : l0.length * 40 ≤ 140737488351232 ∧ ∀ x ∈ l0, okTried x)
    (a1 : Int) (w1 : (Lit.int .i64 a1).wf = true) (a2 : Int) (w2 : (Lit.int .i64 a2).wf = true) (a3 : Int) (w3 : (Lit.int .u8 a3).wf = true) :
    Calls Try.prog 14 #[.slice A0 l0.length c0, .int .i64 a1, .int .i64 a2, .int .u8 a3] w fun e w' => e = .returned (.bool true) ∧ Below w.heap.size w w' := by
  obtain ⟨k, h⟩ := pure l0 a1 a2 a3 hok.2 w3
  exact HPickBad.gazetteerlaw19_PickBad.calls k A0 c0 l0 a1 a2 a3 true w hC hc h

end Go.Proofs.Ytaappkompmdjnaa.PickBad
