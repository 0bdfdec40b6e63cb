/- The reference's Writer and a new rest: what a push leaves; the rests as a map. Conditions: none. -/
import Derived.Test.YtahnncccdlblgaaRw
import Derived.Below
import Derived.Deep.Draws
import Derived.Deep.AppendLies
import Derived.Maps.AppendAt
import Derived.OwnWalk
import Derived.Laws.BytesArg
import Derived.Laws.MakeOwn
import Derived.Laws.OwnMore
import Derived.Deep.OwnRows
import Derived.Tactics
import Derived.Lib.ConvBytes
import Derived.Laws.Slices
import Derived.WalkKit
import Derived.KernelRfl
import Derived.RowKit3
import Derived.Deep.LoopGhost
import Derived.Deep.QuietTactic
import Derived.BigQuiet
import Derived.WideLaws
import Derived.Deep.DeepCutAuto
import Derived.Deep.CutBlock
import Derived.Deep.RegionHeld3
import Derived.Laws.Rows
import Derived.Lib.AppendStr
import Derived.ArgAppend
import Derived.Laws.IdiomCopy
import Derived.OrdersHeld
import Derived.Laws.BitsLemmas
import Derived.RowKit
namespace Go.Proofs.Ytahnncccdlblgaa.G
open Go.RowKit Go.Proofs.YtahnncccdlblgaaW.PrintWords Go.Proofs.YtahnncccdlblgaaW.PrintLast Go.Proofs.YtahnncccdlblgaaW.PrintMore Go.Proofs.Ytahnncccdlblgaa.Plain
attribute [local go_sem] max2_int min2_int max_two min_two max_three min_three max_four min_four
set_option linter.unusedVariables false
set_option linter.unusedSimpArgs false
/-- The rests as a map. -/
def pm (rs : List (Int × List ByteArray)) : PMap := fun l => if 0 ≤ findR rs l then some (findR rs l) else none
/-- All places are small ones. -/
def Places (rs : List (Int × List ByteArray)) : Prop := ∀ p ∈ rs, 0 ≤ p.1 ∧ p.1 < 16384
theorem findR_old (rs : List (Int × List ByteArray)) (p : Int) (q l : List ByteArray) (h : 0 ≤ findR rs l) : findR (rs ++ [(p, q)]) l = findR rs l := by
  induction rs with
  | nil => exact absurd h (by rw [findR]; decide)
  | cons x rs ih =>
    rw [List.cons_append, findR, findR]
    rw [findR] at h
    by_cases e : x.2 = l
    · rw [if_pos e, if_pos e]
    · rw [if_neg e] at h
      rw [if_neg e, if_neg e]
      exact ih h
theorem findR_new (rs : List (Int × List ByteArray)) (hp : Places rs) (p : Int) (q l : List ByteArray) (h : ¬ 0 ≤ findR rs l) : findR (rs ++ [(p, q)]) l = if q = l then p else -1 := by
  induction rs with
  | nil => rfl
  | cons x rs ih =>
    have hx := hp x (by simp)
    rw [List.cons_append, findR]
    rw [findR] at h
    by_cases e : x.2 = l
    · rw [if_pos e] at h
      exact absurd hx.1 h
    · rw [if_neg e] at h
      rw [if_neg e]
      exact ih (fun y hy => hp y (by simp [hy])) h
theorem findR_range (rs : List (Int × List ByteArray)) (h : Places rs) (l : List ByteArray) : findR rs l = -1 ∨ (0 ≤ findR rs l ∧ findR rs l < 16384) := by
  induction rs with
  | nil => exact .inl rfl
  | cons x rs ih =>
    have hx := h x (by simp)
    rw [findR]
    split
    · exact .inr hx
    · exact ih (fun y hy => h y (by simp [hy]))
theorem pm_some {rs : List (Int × List ByteArray)} {l : List ByteArray} {p : Int} (h : pm rs l = some p) : findR rs l = p ∧ 0 ≤ p := by
  unfold pm at h
  split at h
  · injection h with h; subst h; exact ⟨rfl, by assumption⟩
  · cases h
theorem pm_none {rs : List (Int × List ByteArray)} {l : List ByteArray} (hp : Places rs) (h : pm rs l = none) : findR rs l = -1 := by
  unfold pm at h
  split at h
  · cases h
  · rcases findR_range rs hp l with h1 | h1
    · exact h1
    · omega
theorem pm_push_none {rs : List (Int × List ByteArray)} (hp : Places rs) {q : List ByteArray} {p : Int} (h0 : 0 ≤ p) (h : pm rs q = none) : pm (rs ++ [(p, q)]) = updM (pm rs) q p := by
  funext l
  unfold updM pm
  have hq := pm_none hp h
  by_cases e : l = q
  · subst e
    rw [if_pos rfl, findR_new rs hp p l l (by omega), if_pos rfl, if_pos h0]
  · rw [if_neg e]
    by_cases hl : 0 ≤ findR rs l
    · rw [findR_old rs p q l hl]
    · have e' : ¬ q = l := fun h => e h.symm
      rw [findR_new rs hp p q l hl, if_neg e', if_neg hl]
      rfl
theorem pm_push_some {rs : List (Int × List ByteArray)} (hp : Places rs) {q : List ByteArray} {p p' : Int} (h : pm rs q = some p') : pm (rs ++ [(p, q)]) = pm rs := by
  funext l
  unfold pm
  have hq := pm_some h
  by_cases hl : 0 ≤ findR rs l
  · rw [findR_old rs p q l hl]
  · have e : ¬ q = l := fun e => hl (by rw [← e, hq.1]; exact hq.2)
    rw [findR_new rs hp p q l hl, if_neg e, if_neg hl]
    rfl
theorem places_push {rs : List (Int × List ByteArray)} (hp : Places rs) {q : List ByteArray} {p : Int} (h0 : 0 ≤ p) (h1 : p < 16384) : Places (rs ++ [(p, q)]) := by
  intro x hx
  rcases List.mem_append.1 hx with h | h
  · exact hp x h
  · rw [List.mem_singleton] at h; subst h; exact ⟨h0, h1⟩
/-- A new rest has been stored. -/
theorem pushed {wr W w1 : World} {base g : Nat} {G1 : Nat → Prop} {ys : List Int} {rs rs' : List (Int × List ByteArray)} {A B B' : Option Addr} {c d d' : Nat}
    (hg : wr.heap[g]? = some (.cells #[.slice A ys.length c, .slice B rs.length d] 53 (0, 0))) (hr : Kd.R (Kd.int .u8) 5 wr base G1 (.slice A ys.length c) ys) (hrr : kRest.R 86 wr base G1 (.slice B rs.length d) rs)
    (hG : G1 g) (hG2 : ∀ k, G1 k → base ≤ k ∧ k < wr.heap.size) (hb : Below wr.heap.size wr W) (hgr : W.grownBy w1 (Value.slice B rs.length d).ownBlock)
    (hv : kRest.R 86 w1 base (fun k => G1 k ∨ wr.heap.size ≤ k) (.slice B' rs'.length d') rs') :
    ∃ G', Rw (w1.setCell ⟨g, 1, none⟩ (.slice B' rs'.length d')) base G' g ys rs' ∧ Upd wr (w1.setCell ⟨g, 1, none⟩ (.slice B' rs'.length d')) G1 ∧ ∀ k, G' k → G1 k ∨ wr.heap.size ≤ k := by
  have hrW := Kd.R_below hrr hb
  have hgW := blk_below hg hb
  have hg1 : w1.heap[g]? = some (.cells #[.slice A ys.length c, .slice B rs.length d] 53 (0, 0)) := blk_grown hgW hgr (Kd.R_ne hrW hgW (by decide))
  have hr1 := Kd.R_over (Kd.R_below (Kd.R_bound hr) hb) hrW (by decide) hgr
  have hsz1 := hb.size
  have hsz2 := hgr.size
  have hu : Upd wr w1 G1 := (Upd.of_below hb G1).trans (Upd.of_grown hgr (F := G1) (fun k hk => hrr.1 k hk)) (fun _ h => .inl h)
  refine ⟨fun k => (G1 k ∨ wr.heap.size ≤ k) ∧ k < w1.heap.size, ⟨A, c, B', d', blk_put hg1 1 _ rfl, ?_, ?_, ⟨.inl hG, blk_lt hg1⟩, ?_⟩, hu.set hG _, fun k hk => hk.1⟩
  · exact Kd.R_mono (Kd.R_set hr1 hg1 (by decide) 1 _) (fun k hk => ⟨.inl hk.1, by have := hk.2.2.1; omega⟩)
  · exact Kd.R_mono (Kd.R_set (Kd.R_bound hv) hg1 (by decide) 1 _) (fun k hk => ⟨hk.1, hk.2.2.1⟩)
  · rintro k ⟨hk | hk, h6⟩
    · exact ⟨(hG2 k hk).1, by simpa using h6⟩
    · exact ⟨by have := (hG2 g hG); omega, by simpa using h6⟩
theorem infoRest : (Try.prog.info? 86).map (fun i => (i.zero, i.size, i.bytes)) = some (some (.agg #[.int .i64 0, .slice none 0 0]), 2, 32) := by kernel_rfl
/-- '[]Rest{r}'. -/
theorem lit_rest {o : Oper} {a : Act} {W : World} {x : Operand} {n : Int} {A : Option Addr} {m c : Nat} (ho : o.op = .buildSlice 51 1 #[(0, x)]) (hx : a.eval x = .agg #[.int .i64 n, .slice A m c]) :
    (execOp a.eval o).run Try.prog W = .ok (.value (.slice (some ⟨W.heap.size, 0, none⟩) 1 1)) (W.alloc (.cells [.int .i64 n, .slice A m c].toArray 86)) := by
  obtain ⟨i8, hi8, hz, hsz, _⟩ := info_parts infoRest
  generalize a.eval = ρ at *
  unfold execOp
  rw [ho]
  simp [go_sem, run_underlying Try.underlying51, sizeOf, typeInfo, hi8, hsz, hz, Result.andThen, hx]
end Go.Proofs.Ytahnncccdlblgaa.G
