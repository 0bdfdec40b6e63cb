/- Two Writers and a row of numbers in one memory, each apart from the others; and, over lists, what stands of the names that were written one behind the other. Conditions: none. -/
import Derived.Test.YtahnncccdlblgaaPureName
import Derived.Test.YtahnncccdlblgaaName
import Derived.Below
import Derived.Deep.Draws
import Derived.Deep.AppendLies
import Derived.Maps.AppendAt
import Derived.OwnWalk
import Derived.Laws.BytesArg
import Derived.Laws.MakeOwn
import Derived.Laws.OwnMore
import Derived.Deep.OwnRows
import Derived.Tactics
import Derived.Lib.ConvBytes
import Derived.Laws.Slices
import Derived.WalkKit
import Derived.KernelRfl
import Derived.RowKit3
import Derived.Deep.LoopGhost
import Derived.Deep.QuietTactic
import Derived.BigQuiet
import Derived.WideLaws
import Derived.Deep.DeepCutAuto
import Derived.Deep.CutBlock
import Derived.Deep.RegionHeld3
import Derived.Laws.Rows
import Derived.Lib.AppendStr
import Derived.ArgAppend
import Derived.Laws.IdiomCopy
import Derived.OrdersHeld
import Derived.Laws.BitsLemmas
import Derived.RowKit
namespace Go.Proofs.Ytahnncccdlblgaa.G
open Go.RowKit Go.Proofs.YtahnncccdlblgaaW.PrintWords Go.Proofs.YtahnncccdlblgaaW.PrintLast Go.Proofs.YtahnncccdlblgaaW.PrintMore Go.Proofs.Ytahnncccdlblgaa.Plain
attribute [local go_sem] max2_int min2_int max_two min_two max_three min_three max_four min_four
set_option linter.unusedVariables false
set_option linter.unusedSimpArgs false
theorem WN.lower {w : World} {base base' g : Nat} {F : Nat → Prop} {ys : List Int} {m : PMap} (h : WN w base F g ys m) (hb : base' ≤ base) : WN w base' F g ys m := by
  obtain ⟨n, D, ⟨b, A, c, h1, h2, h3, h4, h5, h6⟩, r⟩ := h
  exact ⟨n, D, ⟨b, A, c, h1, Kd.R_lower h2 hb, h3, h4, h5, fun k hk => ⟨Nat.le_trans hb (h6 k hk).1, (h6 k hk).2⟩⟩, r⟩
/-- Two Writers (at g1, in F; at g2, in G) and a row of numbers vt. -/
def T2 (w : World) (g1 g2 : Nat) (ys : List Int) (m : PMap) (zs : List Int) (mz : PMap) (vt : Value) (ats : List Int) (F G : Nat → Prop) (wr : World) : Prop :=
  Below w.heap.size w wr ∧ WN wr w.heap.size F g1 ys m ∧ WN wr w.heap.size G g2 zs mz ∧ (∀ k, F k → ¬ G k) ∧ Kd.R (Kd.int .i64) 3 wr w.heap.size (fun k => ¬ F k ∧ ¬ G k) vt ats
/-- A block of neither Writer, nor the row's. -/
def Free (F G : Nat → Prop) (vt : Value) (k : Nat) : Prop := ¬ F k ∧ ¬ G k ∧ some k ≠ vt.ownBlock
section
variable {w wr w' : World} {g1 g2 : Nat} {ys zs ats : List Int} {m mz : PMap} {vt : Value} {F G : Nat → Prop}
theorem T2.free (h : T2 w g1 g2 ys m zs mz vt ats F G wr) {k : Nat} (hk : wr.heap.size ≤ k) : Free F G vt k :=
  ⟨h.2.1.lt hk, h.2.2.1.lt hk, fun e => by have := Kd.R_lt h.2.2.2.2 k e.symm; omega⟩
theorem T2.grown (h : T2 w g1 g2 ys m zs mz vt ats F G wr) (hb : Below w.heap.size w w') {row : Option Nat} (hg : wr.grownBy w' row) (hr : ∀ k, row = some k → Free F G vt k) : T2 w g1 g2 ys m zs mz vt ats F G w' := by
  obtain ⟨h1, h2, h3, h4, h5⟩ := h
  exact ⟨hb, h2.grown hg (fun k hk => (hr k hk).1), h3.grown hg (fun k hk => (hr k hk).2.1), h4,
    Kd.R_mono (Kd.R_grown (Kd.R_tight rfl h5) hg (fun k hk e => (hr k e.symm).2.2 hk)) (fun k hk => h5.1 k hk.symm)⟩
theorem T2.below (h : T2 w g1 g2 ys m zs mz vt ats F G wr) (hb : Below wr.heap.size wr w') : T2 w g1 g2 ys m zs mz vt ats F G w' :=
  h.grown (below_step h.1 hb) (grown_of_below hb none) (fun k hk => by cases hk)
theorem T2.alloc (h : T2 w g1 g2 ys m zs mz vt ats F G wr) (o : Obj) : T2 w g1 g2 ys m zs mz vt ats F G (wr.alloc o) := h.below (below_alloc (Below.refl _ _) o)
theorem T2.drew (h : T2 w g1 g2 ys m zs mz vt ats F G wr) : T2 w g1 g2 ys m zs mz vt ats F G wr.drew := h.below (below_drew (Below.refl _ _))
theorem T2.drewN (h : T2 w g1 g2 ys m zs mz vt ats F G wr) (n : Nat) : T2 w g1 g2 ys m zs mz vt ats F G (wr.drewN n) := h.below (pw_below_drewN (Below.refl _ _) n)
/-- The row of numbers has become another. -/
theorem T2.at (h : T2 w g1 g2 ys m zs mz vt ats F G wr) (hb : Below w.heap.size w w') (hg : wr.grownBy w' vt.ownBlock) {vt' : Value} {ats' : List Int} (hr : Kd.R (Kd.int .i64) 3 w' w.heap.size (fun k => ¬ F k ∧ ¬ G k) vt' ats') : T2 w g1 g2 ys m zs mz vt' ats' F G w' := by
  obtain ⟨h1, h2, h3, h4, h5⟩ := h
  exact ⟨hb, h2.grown hg (fun k hk => (h5.1 k hk).1), h3.grown hg (fun k hk => (h5.1 k hk).2), h4, hr⟩
/-- The first Writer has written. -/
theorem T2.one (h : T2 w g1 g2 ys m zs mz vt ats F G wr) {F' : Nat → Prop} {ys' : List Int} {m' : PMap} (hn : WN w' w.heap.size F' g1 ys' m') (hu : Upd wr w' F) (hF : ∀ k, F' k → F k ∨ wr.heap.size ≤ k) : T2 w g1 g2 ys' m' zs mz vt ats F' G w' := by
  obtain ⟨h1, h2, h3, h4, h5⟩ := h
  refine ⟨h2.after hu h1, hn, h3.upd hu (fun k hG hF => h4 k hF hG), fun k hk hG => ?_, ?_⟩
  · rcases hF k hk with h | h
    · exact h4 k h hG
    · exact h3.lt h hG
  · refine Kd.R_mono (R_upd (Kd.R_bound h5) hu (fun k hk => hk.1.1)) (fun k hk => ⟨fun hk' => ?_, hk.1.2⟩)
    rcases hF k hk' with h | h
    · exact hk.1.1 h
    · have := hk.2.2.1; omega
/-- The second Writer has written. -/
theorem T2.two (h : T2 w g1 g2 ys m zs mz vt ats F G wr) {G' : Nat → Prop} {zs' : List Int} {mz' : PMap} (hn : WN w' w.heap.size G' g2 zs' mz') (hu : Upd wr w' G) (hG : ∀ k, G' k → G k ∨ wr.heap.size ≤ k) : T2 w g1 g2 ys m zs' mz' vt ats F G' w' := by
  obtain ⟨h1, h2, h3, h4, h5⟩ := h
  have hb := Kd.R_bound h5
  refine ⟨h3.after hu h1, h2.upd hu (fun k hF hG => h4 k hF hG), hn, fun k hk hG' => ?_, ?_⟩
  · rcases hG k hG' with h | h
    · exact h4 k hk h
    · exact h2.lt h hk
  · refine Kd.R_mono (R_upd hb hu (fun k hk => hk.1.2)) (fun k hk => ⟨hk.1.1, fun hk' => ?_⟩)
    rcases hG k hk' with h | h
    · exact hk.1.2 h
    · have := hk.2.2.1; omega
end
section
variable {w wr w' : World} {g1 g2 : Nat} {ys zs ats : List Int} {m mz : PMap} {vt : Value} {F G : Nat → Prop}
theorem T2.b (h : T2 w g1 g2 ys m zs mz vt ats F G wr) : Below w.heap.size w wr := h.1
theorem T2.sz (h : T2 w g1 g2 ys m zs mz vt ats F G wr) : w.heap.size ≤ wr.heap.size := h.1.size
theorem T2.w1 (h : T2 w g1 g2 ys m zs mz vt ats F G wr) : WN wr w.heap.size F g1 ys m := h.2.1
theorem T2.w2 (h : T2 w g1 g2 ys m zs mz vt ats F G wr) : WN wr w.heap.size G g2 zs mz := h.2.2.1
theorem T2.r (h : T2 w g1 g2 ys m zs mz vt ats F G wr) : Kd.R (Kd.int .i64) 3 wr w.heap.size (fun k => ¬ F k ∧ ¬ G k) vt ats := h.2.2.2.2
end
theorem at_names {w : World} {A : Option Addr} {n : Nat} {names : List (List ByteArray)} (h : Kd.C (Kd.slice 9 Kd.string) w A n names) (j : Nat) (hj : j < n) :
    ∃ ad A' c', A = some ad ∧ w.cell? (ad.add j) = some (.slice A' (names.getD j []).length c') ∧ (names.getD j []).length ≤ c' ∧ Kd.C Kd.string w A' (names.getD j []).length (names.getD j []) := by
  obtain ⟨ad, c, e, hc, ⟨A', c', rfl, hl, hk⟩, hx⟩ := Kd.C_get h [] (j : Int) (by omega) (by omega)
  rw [Int.toNat_natCast] at hl hk hx
  refine ⟨ad, A', c', e, ?_, hl, hk⟩
  have := hx 0 _ rfl
  rw [show j * (Kd.slice 9 Kd.string).sz + 0 = j by show j * 1 + 0 = j; omega] at this
  exact this
/-! ### what stands of the names -/
/-- j names were written behind a bytes, and each one is read at its place; ats: the places; zl: how many bytes they take in full. -/
def Back (names : List (List ByteArray)) (a j : Nat) (ys : List Int) (m : PMap) (ats : List Int) (zl : Nat) : Prop :=
  bytesB ys = true ∧ Holds ys m ∧ ats.length = j ∧ ys.length ≤ a + 256 * j ∧ a ≤ ys.length ∧ ys.length - a ≤ zl ∧ zl ≤ 256 * j ∧
    ∀ i, i < j → ∃ p e : Nat, (ats ++ [(ys.length : Int)])[i]? = some (p : Int) ∧ (ats ++ [(ys.length : Int)])[i + 1]? = some (e : Int) ∧ WB ys p p (names.getD i []) e ∧ (restL (names.getD i [])).length ≤ 254
theorem back_nil (names : List (List ByteArray)) (ys : List Int) (hb : bytesB ys = true) : Back names ys.length 0 ys (fun _ => none) [] 0 :=
  ⟨hb, holds_none ys, rfl, by omega, Nat.le_refl _, by omega, by omega, fun i hi => by omega⟩
theorem back_step {names : List (List ByteArray)} {a j : Nat} {ys : List Int} {m : PMap} {ats : List Int} {zl : Nat} (h : Back names a j ys m ats zl) (short : Bool) {l : List ByteArray} (hl : names.getD j [] = l) (hs : soundB l = true) :
    Back names a (j + 1) (nameR short l ys m).1 (nameR short l ys m).2 (ats ++ [(ys.length : Int)]) (zl + ((restL l).length + 1)) := by
  obtain ⟨hb, hh, h1, h2, h3, h4, h5, h6⟩ := h
  obtain ⟨hs1, hs2, hs3⟩ := sound_iff.1 hs
  obtain ⟨H, ⟨t, ht, ht1, ht2, htb⟩, hw⟩ := nameR_holds short ys m hh l hs2
  have hlen : (nameR short l ys m).1.length = ys.length + t.length := by rw [ht, List.length_append]
  refine ⟨by rw [ht]; exact htb hb, H, by rw [List.length_append, h1]; rfl, by omega, by omega, by omega, by omega, fun i hi => ?_⟩
  by_cases hij : i < j
  · obtain ⟨p, e, hp, he, hwb, hr⟩ := h6 i hij
    have hx : (ats ++ [(ys.length : Int)]).length = j + 1 := by rw [List.length_append, h1]; rfl
    refine ⟨p, e, ?_, ?_, by rw [ht]; exact hwb.more t, hr⟩
    · rw [List.getElem?_append_left (by omega)]; exact hp
    · rw [List.getElem?_append_left (by omega)]; exact he
  · obtain rfl : i = j := by omega
    refine ⟨ys.length, (nameR short l ys m).1.length, ?_, ?_, by rw [hl]; exact hw, by rw [hl]; exact hs3⟩
    · rw [List.getElem?_append_left (by rw [List.length_append, h1]; simp), List.getElem?_append_right (by omega), h1]; simp
    · rw [List.getElem?_append_right (by rw [List.length_append, h1]; simp), List.length_append, h1]; simp
end Go.Proofs.Ytahnncccdlblgaa.G
