/- The program's Writer and the reference's in one memory, and a block beside them. Conditions: none. -/
import Derived.Test.YtahnncccdlblgaaPiece
import Derived.Test.YtahnncccdlblgaaPureWnameLoops
import Derived.Below
import Derived.Deep.Draws
import Derived.Deep.AppendLies
import Derived.Maps.AppendAt
import Derived.OwnWalk
import Derived.Laws.BytesArg
import Derived.Laws.MakeOwn
import Derived.Laws.OwnMore
import Derived.Deep.OwnRows
import Derived.Tactics
import Derived.Lib.ConvBytes
import Derived.Laws.Slices
import Derived.WalkKit
import Derived.KernelRfl
import Derived.RowKit3
import Derived.Deep.LoopGhost
import Derived.Deep.QuietTactic
import Derived.BigQuiet
import Derived.WideLaws
import Derived.Deep.DeepCutAuto
import Derived.Deep.CutBlock
import Derived.Deep.RegionHeld3
import Derived.Laws.Rows
import Derived.Lib.AppendStr
import Derived.ArgAppend
import Derived.Laws.IdiomCopy
import Derived.OrdersHeld
import Derived.Laws.BitsLemmas
import Derived.RowKit
namespace Go.Proofs.Ytahnncccdlblgaa.G
open Go.RowKit Go.Proofs.YtahnncccdlblgaaW.PrintWords Go.Proofs.YtahnncccdlblgaaW.PrintLast Go.Proofs.YtahnncccdlblgaaW.PrintMore Go.Proofs.Ytahnncccdlblgaa.Plain
attribute [local go_sem] max2_int min2_int max_two min_two max_three min_three max_four min_four
set_option linter.unusedVariables false
set_option linter.unusedSimpArgs false
section
variable {w w' : World} {base base' g : Nat} {F G : Nat → Prop} {ys : List Int} {m : PMap}
theorem WN.lower' (h : WN w base F g ys m) (hb : base' ≤ base) : WN w base' F g ys m := by
  obtain ⟨n, D, ⟨b, A, c, h1, h2, h3, h4, h5, h6⟩, r⟩ := h
  exact ⟨n, D, ⟨b, A, c, h1, Kd.R_lower h2 hb, h3, h4, h5, fun k hk => ⟨Nat.le_trans hb (h6 k hk).1, (h6 k hk).2⟩⟩, r⟩
theorem RN.upd (h : RN w base G g ys m) (hu : Upd w w' F) (hn : ∀ k, G k → ¬ F k) : RN w' base G g ys m := by
  obtain ⟨rs, hW, r⟩ := h
  exact ⟨rs, hW.upd hu hn, r⟩
theorem RN.lt (h : RN w base G g ys m) {k : Nat} (hk : w.heap.size ≤ k) : ¬ G k := by
  obtain ⟨rs, hW, r⟩ := h
  exact hW.lt hk
theorem RN.ge (h : RN w base G g ys m) {k : Nat} (hk : G k) : base ≤ k := by
  obtain ⟨rs, hW, r⟩ := h
  exact hW.ge hk
theorem RN.cell (h : RN w base G g ys m) : ∃ (A : Option Addr) (c : Nat), w.cell? ⟨g, 0, none⟩ = some (.slice A ys.length c) ∧ ys.length ≤ c ∧ Kd.C (Kd.int .u8) w A ys.length ys := by
  obtain ⟨rs, ⟨A, c, B, d, h1, h2, _⟩, _⟩ := h
  have hh := Kd.R_reads' h2
  exact ⟨A, c, (blk_cell h1 0).trans rfl, hh.2.1, hh.2.2⟩
theorem rn_Raw (h : RN w base G g ys m) (B : Option Addr) (cb : Nat) (zs : List Int) (hz : Kd.C (Kd.int .u8) w B zs.length zs) (hl : ys.length + zs.length < 140737488355328) :
    Calls Try.prog 26 #[.pointer (some ⟨g, 0, none⟩), .slice B zs.length cb] w fun e w' => e = .returned (.tuple #[]) ∧ ∃ G', RN w' base G' g (ys ++ zs) m ∧ Upd w w' G ∧ ∀ k, G' k → G k ∨ w.heap.size ≤ k := by
  obtain ⟨rs, hW, hm, hp, hl2⟩ := h
  refine (ref_Raw base g G ys rs B cb zs rfl w hW hz hl).mono ?_
  rintro e w' ⟨rfl, G', q1, q2, q3⟩
  exact ⟨rfl, G', ⟨rs, q1, hm, hp, by rw [List.length_append]; omega⟩, q2, q3⟩
theorem rn_Num (h : RN w base G g ys m) (x s : Int) (hx : x ≤ 9223372036854775807) (hl : ys.length ≤ 70368744177664) :
    Calls Try.prog 28 #[.pointer (some ⟨g, 0, none⟩), .int .i64 x, .int .i64 s] w fun e w' => e = .returned (.tuple #[]) ∧ ∃ G', RN w' base G' g (ys ++ numB x s) m ∧ Upd w w' G ∧ ∀ k, G' k → G k ∨ w.heap.size ≤ k := by
  obtain ⟨rs, hW, hm, hp, hl2⟩ := h
  refine (ref_Num base g G ys rs x s w hW hx hl).mono ?_
  rintro e w' ⟨rfl, G', q1, q2, q3⟩
  exact ⟨rfl, G', ⟨rs, q1, hm, hp, by rw [List.length_append]; omega⟩, q2, q3⟩
end
/-- Both Writers: the program's at g1 holds ys, the reference's at g2 zs. -/
def V1 (w : World) (g1 g2 : Nat) (ys : List Int) (m : PMap) (zs : List Int) (mz : PMap) (F G : Nat → Prop) (wr : World) : Prop :=
  Below w.heap.size w wr ∧ WN wr w.heap.size F g1 ys m ∧ RN wr w.heap.size G g2 zs mz ∧ ∀ k, F k → ¬ G k
section
variable {w wr w' : World} {g1 g2 : Nat} {ys zs : List Int} {m mz : PMap} {F G : Nat → Prop}
theorem V1.b (h : V1 w g1 g2 ys m zs mz F G wr) : Below w.heap.size w wr := h.1
theorem V1.sz (h : V1 w g1 g2 ys m zs mz F G wr) : w.heap.size ≤ wr.heap.size := h.1.size
theorem V1.w1 (h : V1 w g1 g2 ys m zs mz F G wr) : WN wr w.heap.size F g1 ys m := h.2.1
theorem V1.w2 (h : V1 w g1 g2 ys m zs mz F G wr) : RN wr w.heap.size G g2 zs mz := h.2.2.1
theorem V1.free (h : V1 w g1 g2 ys m zs mz F G wr) {k : Nat} (hk : wr.heap.size ≤ k) : ¬ F k ∧ ¬ G k := ⟨h.w1.lt hk, h.w2.lt hk⟩
theorem V1.grown (h : V1 w g1 g2 ys m zs mz F G wr) (hb : Below w.heap.size w w') {row : Option Nat} (hg : wr.grownBy w' row) (hr : ∀ k, row = some k → ¬ F k ∧ ¬ G k) : V1 w g1 g2 ys m zs mz F G w' := by
  obtain ⟨h1, h2, h3, h4⟩ := h
  exact ⟨hb, h2.grown hg (fun k hk => (hr k hk).1), h3.upd (Upd.of_grown hg (F := fun k => row = some k) (fun _ h => h)) (fun k hG he => (hr k he).2 hG), h4⟩
theorem V1.below (h : V1 w g1 g2 ys m zs mz F G wr) (hb : Below wr.heap.size wr w') : V1 w g1 g2 ys m zs mz F G w' := h.grown (below_step h.1 hb) (grown_of_below hb none) (fun k hk => by cases hk)
theorem V1.alloc (h : V1 w g1 g2 ys m zs mz F G wr) (o : Obj) : V1 w g1 g2 ys m zs mz F G (wr.alloc o) := h.below (below_alloc (Below.refl _ _) o)
theorem V1.drew (h : V1 w g1 g2 ys m zs mz F G wr) : V1 w g1 g2 ys m zs mz F G wr.drew := h.below (below_drew (Below.refl _ _))
theorem V1.drewN (h : V1 w g1 g2 ys m zs mz F G wr) (n : Nat) : V1 w g1 g2 ys m zs mz F G (wr.drewN n) := h.below (pw_below_drewN (Below.refl _ _) n)
theorem V1.one (h : V1 w g1 g2 ys m zs mz F G wr) {F' : Nat → Prop} {ys' : List Int} {m' : PMap} (hn : WN w' w.heap.size F' g1 ys' m') (hu : Upd wr w' F) (hF : ∀ k, F' k → F k ∨ wr.heap.size ≤ k) : V1 w g1 g2 ys' m' zs mz F' G w' := by
  obtain ⟨h1, h2, h3, h4⟩ := h
  refine ⟨h2.after hu h1, hn, h3.upd hu (fun k hG hF => h4 k hF hG), fun k hk hG => ?_⟩
  rcases hF k hk with h | h
  · exact h4 k h hG
  · exact h3.lt h hG
theorem V1.two (h : V1 w g1 g2 ys m zs mz F G wr) {G' : Nat → Prop} {zs' : List Int} {mz' : PMap} (hn : RN w' w.heap.size G' g2 zs' mz') (hu : Upd wr w' G) (hG : ∀ k, G' k → G k ∨ wr.heap.size ≤ k) : V1 w g1 g2 ys m zs' mz' F G' w' := by
  obtain ⟨h1, h2, h3, h4⟩ := h
  refine ⟨h1.trans (hu.below (fun k hk => h3.ge hk) h1.size), h2.upd hu (fun k hF hG => h4 k hF hG), hn, fun k hk hG' => ?_⟩
  rcases hG k hG' with h | h
  · exact h4 k hk h
  · exact h2.lt h hk
end
/-- A block beside both Writers. -/
def Blk (gp : Nat) (ob : Obj) (F G : Nat → Prop) (wr : World) : Prop := wr.heap[gp]? = some ob ∧ ¬ F gp ∧ ¬ G gp
section
variable {w wr w' : World} {gp : Nat} {ob : Obj} {F G F' G' : Nat → Prop}
theorem Blk.below (h : Blk gp ob F G wr) (hb : Below wr.heap.size wr w') : Blk gp ob F G w' := ⟨blk_below h.1 hb, h.2⟩
theorem Blk.grown (h : Blk gp ob F G wr) {row : Option Nat} (hg : wr.grownBy w' row) (hr : ∀ k, row = some k → k ≠ gp) : Blk gp ob F G w' := ⟨blk_grown h.1 hg (fun e => hr gp e.symm rfl), h.2⟩
theorem Blk.one (h : Blk gp ob F G wr) (hu : Upd wr w' F) (hF : ∀ k, F' k → F k ∨ wr.heap.size ≤ k) : Blk gp ob F' G w' :=
  ⟨hu.blk h.1 h.2.1, fun hk => by rcases hF gp hk with h' | h'; exact h.2.1 h'; have := blk_lt h.1; omega, h.2.2⟩
theorem Blk.two (h : Blk gp ob F G wr) (hu : Upd wr w' G) (hG : ∀ k, G' k → G k ∨ wr.heap.size ≤ k) : Blk gp ob F G' w' :=
  ⟨hu.blk h.1 h.2.2, h.2.1, fun hk => by rcases hG gp hk with h' | h'; exact h.2.2 h'; have := blk_lt h.1; omega⟩
theorem Blk.lt (h : Blk gp ob F G wr) : gp < wr.heap.size := blk_lt h.1
end
theorem cells6 {gp t : Nat} {a b c d e f : Value} {F G : Nat → Prop} {wr : World} (h : Blk gp (.cells #[a, b, c, d, e, f] t (0, 0)) F G wr) :
    wr.cell? ⟨gp, 0, none⟩ = some a ∧ wr.cell? ⟨gp, 1, none⟩ = some b ∧ wr.cell? ⟨gp, 2, none⟩ = some c ∧ wr.cell? ⟨gp, 3, none⟩ = some d ∧ wr.cell? ⟨gp, 4, none⟩ = some e ∧ wr.cell? ⟨gp, 5, none⟩ = some f :=
  ⟨(blk_cell h.1 0).trans rfl, (blk_cell h.1 1).trans rfl, (blk_cell h.1 2).trans rfl, (blk_cell h.1 3).trans rfl, (blk_cell h.1 4).trans rfl, (blk_cell h.1 5).trans rfl⟩
/-- A new reference's Writer. -/
theorem new_rw (w : World) {w1 : World} {F : Nat → Prop} {g1 : Nat} (hb1 : Below w.heap.size w w1) (h1 : WN w1 w.heap.size F g1 [] (fun _ => none)) :
    V1 w g1 w1.heap.size [] (fun _ => none) [] (fun _ => none) F (fun k => k = w1.heap.size) (w1.alloc (.cells #[.slice none 0 0, .slice none 0 0] 53)) := by
  have hsz := hb1.size
  have h2 : (w1.alloc (.cells #[.slice none 0 0, .slice none 0 0] 53)).heap.size = w1.heap.size + 1 := by simp
  refine ⟨hb1.alloc hsz _, h1.alloc _, ⟨[], ⟨none, 0, none, 0, (MapKept.heap_alloc w1 _).1, Kd.R_nil _ _ _ _ _, Kd.R_nil _ _ _ _ _, rfl, fun k hk => ⟨by omega, by omega⟩⟩, ?_, fun p hp => by simp at hp, Nat.le_refl _⟩, fun k hF e => h1.lt (Nat.le_of_eq e.symm) hF⟩
  funext l
  unfold pm
  rw [if_neg (by rw [findR]; decide)]
end Go.Proofs.Ytahnncccdlblgaa.G
