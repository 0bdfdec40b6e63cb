/- The Writer as a thing in memory: which blocks are its, what it holds; New, Raw, Num, Set, Len and Bytes on it. Conditions: fewer bytes than may be appended to. -/
import Derived.Test.YtahnncccdlblgaaGwriter
import Derived.Below
import Derived.Deep.Draws
import Derived.Deep.AppendLies
import Derived.Maps.AppendAt
import Derived.OwnWalk
import Derived.Laws.BytesArg
import Derived.Laws.MakeOwn
import Derived.Laws.OwnMore
import Derived.Deep.OwnRows
import Derived.Tactics
import Derived.Lib.ConvBytes
import Derived.Laws.Slices
import Derived.WalkKit
import Derived.KernelRfl
import Derived.RowKit3
import Derived.Deep.LoopGhost
import Derived.Deep.QuietTactic
import Derived.BigQuiet
import Derived.WideLaws
import Derived.Deep.DeepCutAuto
import Derived.Deep.CutBlock
import Derived.Deep.RegionHeld3
import Derived.Laws.Rows
import Derived.Lib.AppendStr
import Derived.ArgAppend
import Derived.Laws.IdiomCopy
import Derived.OrdersHeld
import Derived.Laws.BitsLemmas
import Derived.RowKit
namespace Go.Proofs.Ytahnncccdlblgaa.G
open Go.RowKit Go.Proofs.YtahnncccdlblgaaW.PrintWords Go.Proofs.YtahnncccdlblgaaW.PrintLast Go.Proofs.YtahnncccdlblgaaW.PrintMore Go.Proofs.Ytahnncccdlblgaa.Plain
attribute [local go_sem] max2_int min2_int max_two min_two max_three min_three max_four min_four
set_option linter.unusedVariables false
set_option linter.unusedSimpArgs false
open Go.Maps (Keyed string_keyed)
/-- w' is w but for the blocks of F and for new ones. -/
structure Upd (w w' : World) (F : Nat → Prop) : Prop where
  os : w'.os = w.os
  tape : w'.tape = w.tape
  output : w'.output = w.output
  size : w.heap.size ≤ w'.heap.size
  block : ∀ k, k < w.heap.size → ¬ F k → w'.heap[k]? = w.heap[k]?
theorem Upd.of_below {w w' : World} (h : Below w.heap.size w w') (F : Nat → Prop) : Upd w w' F := ⟨h.os, h.tape, h.output, h.size, fun k hk _ => h.block k hk⟩
theorem Upd.refl (w : World) (F : Nat → Prop) : Upd w w F := Upd.of_below (Below.refl _ _) F
theorem Upd.of_grown {w w' : World} {row : Option Nat} (h : w.grownBy w' row) {F : Nat → Prop} (hr : ∀ k, row = some k → F k) : Upd w w' F := ⟨h.os, h.tape, h.output, h.size, fun k hk hn => h.block k hk (fun e => hn (hr k e.symm))⟩
theorem Upd.trans {a b c : World} {F F' : Nat → Prop} (h : Upd a b F) (k : Upd b c F') (hs : ∀ k, F' k → F k ∨ a.heap.size ≤ k) : Upd a c F :=
  ⟨k.os.trans h.os, k.tape.trans h.tape, k.output.trans h.output, Nat.le_trans h.size k.size, fun i hi hn => (k.block i (Nat.lt_of_lt_of_le hi h.size) (fun hf => (hs i hf).elim hn (fun hge => absurd hi (Nat.not_lt.2 hge)))).trans (h.block i hi hn)⟩
theorem Upd.mono {w w' : World} {F F' : Nat → Prop} (h : Upd w w' F) (hs : ∀ k, F k → F' k) : Upd w w' F' := ⟨h.os, h.tape, h.output, h.size, fun i hi hn => h.block i hi (fun hf => hn (hs i hf))⟩
theorem Upd.set {w w' : World} {F : Nat → Prop} (h : Upd w w' F) {p : Addr} (hp : F p.block) (u : Value) : Upd w (w'.setCell p u) F :=
  ⟨h.os, h.tape, h.output, by simpa using h.size, fun i hi hn => (Below.heap_setCell w' p u i (fun e => hn (e ▸ hp))).trans (h.block i hi hn)⟩
theorem Upd.below {w w' : World} {F : Nat → Prop} (h : Upd w w' F) {base : Nat} (hF : ∀ k, F k → base ≤ k) (hb : base ≤ w.heap.size) : Below base w w' :=
  ⟨h.os, h.tape, h.output, h.size, fun k hk => h.block k (Nat.lt_of_lt_of_le hk hb) (fun hf => absurd hk (Nat.not_lt.2 (hF k hf)))⟩
theorem Upd.blk {w w' : World} {F : Nat → Prop} (h : Upd w w' F) {k : Nat} {o : Obj} (hk : w.heap[k]? = some o) (hn : ¬ F k) : w'.heap[k]? = some o := (h.block k (blk_lt hk) hn).trans hk
theorem R_upd {α : Type} {d : Kd α} {e : Nat} {w w' : World} {base : Nat} {ok F : Nat → Prop} {v : Value} {xs : List α} (h : d.R e w base ok v xs) (hu : Upd w w' F) (hn : ∀ k, ok k → ¬ F k) : d.R e w' base ok v xs :=
  Kd.R_step h (fun k ho hk => hu.block k hk (hn k ho))

/-- '[]T{}'. -/
theorem lit_empty {P : Program} {o : Oper} {a : Act} {W : World} (t e : TypeId) (ho : o.op = .buildSlice t 0 #[]) (ht : P.underlying t = some (.slice e)) {i : TypeInfo} (hi : P.info? e = some i) :
    (execOp a.eval o).run P W = .ok (.value (.slice (some ⟨W.heap.size, 0, none⟩) ([] : List Int).length ([] : List Int).length)) (W.alloc (.cells ([] : List Value).toArray e)) := by
  unfold execOp
  rw [ho]
  simp [go_sem, run_underlying ht, sizeOf, typeInfo, hi, Result.andThen]
theorem lit_u8 {o : Oper} {a : Act} {W : World} (ho : o.op = .buildSlice 24 0 #[]) :
    (execOp a.eval o).run Try.prog W = .ok (.value (.slice (some ⟨W.heap.size, 0, none⟩) ([] : List Int).length ([] : List Int).length)) (W.alloc (.cells ([] : List Value).toArray 5)) := by
  obtain ⟨i8, hi8, _⟩ := info_parts infoB
  exact lit_empty _ _ ho Try.underlying24 hi8
/-- The Writer at block g holds bytes ys, and its map, of at most n entries, reads as D; F: its blocks. -/
def Wr (w : World) (base : Nat) (F : Nat → Prop) (g : Nat) (ys : List Int) (n : Nat) (D : DataW Unit) : Prop :=
  ∃ (b : Nat) (A : Option Addr) (c : Nat), w.heap[g]? = some (.cells #[.slice A ys.length c, .map (some b)] 82 (0, 0)) ∧ Kd.R (Kd.int .u8) 5 w base F (.slice A ys.length c) ys ∧
    w.ownsMap Try.prog 9 (plainElem Try.prog 3) b n D ∧ F g ∧ F b ∧ (∀ k, F k → base ≤ k ∧ k < w.heap.size)
theorem map_ne {w : World} {P : Program} {k : TypeId} {R : Value → Option (DataW Unit × List MemPlace)} {b n : Nat} {D : DataW Unit} (h : w.ownsMap P k R b n D) {g : Nat} {cs : Array Value} {t : TypeId} {z : Nat × Nat} (hg : w.heap[g]? = some (.cells cs t z)) : b ≠ g := by
  rintro rfl
  obtain ⟨es, cl, hb, _⟩ := h
  rw [hg] at hb
  cases hb
theorem map_own_ne {w : World} {P : Program} {k : TypeId} {R : Value → Option (DataW Unit × List MemPlace)} {b n : Nat} {D : DataW Unit} (h : w.ownsMap P k R b n D) {α : Type} {d : Kd α} {e base : Nat} {ok : Nat → Prop} {v : Value} {xs : List α} (hr : d.R e w base ok v xs) : some b ≠ v.ownBlock := by
  intro hv
  obtain ⟨cells, hc⟩ := Kd.R_typed hr b hv.symm
  exact map_ne h hc rfl
theorem Wr.upd {w w' : World} {base : Nat} {F G : Nat → Prop} {g : Nat} {ys : List Int} {n : Nat} {D : DataW Unit} (h : Wr w base G g ys n D) (hu : Upd w w' F) (hn : ∀ k, G k → ¬ F k) : Wr w' base G g ys n D := by
  obtain ⟨b, A, c, h1, h2, h3, h4, h5, h6⟩ := h
  refine ⟨b, A, c, hu.blk h1 (hn g h4), R_upd h2 hu hn, ?_, h4, h5, fun k hk => ⟨(h6 k hk).1, Nat.lt_of_lt_of_le (h6 k hk).2 hu.size⟩⟩
  obtain ⟨es, cl, hb, r⟩ := h3
  exact ⟨es, cl, hu.blk hb (hn b h5), r⟩
theorem Wr.below {w w' : World} {base : Nat} {G : Nat → Prop} {g : Nat} {ys : List Int} {n : Nat} {D : DataW Unit} (h : Wr w base G g ys n D) (hb : Below w.heap.size w w') : Wr w' base G g ys n D :=
  h.upd (Upd.of_below hb (fun _ => False)) (fun _ _ h => h)
theorem Wr.base_le {w : World} {base : Nat} {G : Nat → Prop} {g : Nat} {ys : List Int} {n : Nat} {D : DataW Unit} (h : Wr w base G g ys n D) : base ≤ w.heap.size := by
  obtain ⟨b, A, c, h1, h2, h3, h4, h5, h6⟩ := h
  have := h6 g h4
  omega

theorem Wr.alloc {w : World} {base : Nat} {G : Nat → Prop} {g : Nat} {ys : List Int} {n : Nat} {D : DataW Unit} (h : Wr w base G g ys n D) (o : Obj) : Wr (w.alloc o) base G g ys n D := h.below (below_alloc (Below.refl _ _) o)
theorem Wr.drew {w : World} {base : Nat} {G : Nat → Prop} {g : Nat} {ys : List Int} {n : Nat} {D : DataW Unit} (h : Wr w base G g ys n D) : Wr w.drew base G g ys n D := h.below (below_drew (Below.refl _ _))
theorem Wr.drewN {w : World} {base : Nat} {G : Nat → Prop} {g : Nat} {ys : List Int} {n : Nat} {D : DataW Unit} (h : Wr w base G g ys n D) (m : Nat) : Wr (w.drewN m) base G g ys n D := h.below (pw_below_drewN (Below.refl _ _) m)
theorem Wr.grown {w w' : World} {base : Nat} {G : Nat → Prop} {g : Nat} {ys : List Int} {n : Nat} {D : DataW Unit} (h : Wr w base G g ys n D) {row : Option Nat} (hg : w.grownBy w' row) (hn : ∀ k, row = some k → ¬ G k) : Wr w' base G g ys n D :=
  h.upd (Upd.of_grown hg (F := fun k => row = some k) (fun _ h => h)) (fun k hG he => hn k he hG)
theorem Wr.lt {w : World} {base : Nat} {G : Nat → Prop} {g : Nat} {ys : List Int} {n : Nat} {D : DataW Unit} (h : Wr w base G g ys n D) {k : Nat} (hk : w.heap.size ≤ k) : ¬ G k := by
  obtain ⟨b, A, c, h1, h2, h3, h4, h5, h6⟩ := h
  intro hG
  have := (h6 k hG).2
  omega
theorem Wr.ge {w : World} {base : Nat} {G : Nat → Prop} {g : Nat} {ys : List Int} {n : Nat} {D : DataW Unit} (h : Wr w base G g ys n D) {k : Nat} (hk : G k) : base ≤ k := by
  obtain ⟨b, A, c, h1, h2, h3, h4, h5, h6⟩ := h
  exact (h6 k hk).1
theorem Wr.len {w : World} {base : Nat} {G : Nat → Prop} {g : Nat} {ys : List Int} {n : Nat} {D : DataW Unit} (h : Wr w base G g ys n D) : ys.length ≤ 9223372036854775807 := by
  obtain ⟨b, A, c, h1, h2, h3, h4, h5, h6⟩ := h
  exact Kd.C_max (Kd.R_reads' h2).2.2

/-! ### New -/
theorem wname_New_Wr (w : World) : Calls Try.prog 23 #[] w fun e w' => e = .returned (.pointer (some ⟨w.heap.size + 1, 0, none⟩)) ∧ Below w.heap.size w w' ∧ ∃ F, Wr w' w.heap.size F (w.heap.size + 1) [] 0 (.map []) ∧ ∀ k, F k → w.heap.size ≤ k := by
  refine (wname_New_walk w).mono ?_
  rintro e w' ⟨rfl, rfl⟩
  have h0 := World.ownsMap_made (H := Unit) w Try.prog 9 (plainElem Try.prog 3)
  have hsz : (w.alloc (.map #[] 0)).heap.size = w.heap.size + 1 := by simp
  refine ⟨rfl, ((Below.refl _ _).alloc (Nat.le_refl _) _).alloc (by omega) _, fun k => w.heap.size ≤ k ∧ k < w.heap.size + 2, ⟨w.heap.size, none, 0, ?_, Kd.R_nil _ _ _ _ _, h0.alloc _, ⟨by omega, by omega⟩, ⟨by omega, by omega⟩, fun k hk => ⟨hk.1, ?_⟩⟩, fun k hk => hk.1⟩
  · have := (MapKept.heap_alloc (w.alloc (.map #[] 0)) (.cells #[.slice none 0 0, .map (some w.heap.size)] 82)).1
    rw [hsz] at this
    exact this
  · have h2 : ((w.alloc (.map #[] 0)).alloc (.cells #[.slice none 0 0, .map (some w.heap.size)] 82)).heap.size = w.heap.size + 2 := by simp
    omega
/-! ### Raw -/
theorem wname_Raw (base g : Nat) (F : Nat → Prop) (ys : List Int) (n : Nat) (D : DataW Unit) (B : Option Addr) (cb : Nat) (zs : List Int) (w : World) (h : Wr w base F g ys n D) (hz : Kd.C (Kd.int .u8) w B zs.length zs) (hl : ys.length + zs.length < 140737488355328) :
    Calls Try.prog 25 #[.pointer (some ⟨g, 0, none⟩), .slice B zs.length cb] w fun e w' => e = .returned (.tuple #[]) ∧ ∃ F', Wr w' base F' g (ys ++ zs) n D ∧ Upd w w' F ∧ ∀ k, F' k → F k ∨ w.heap.size ≤ k := by
  have hbase := h.base_le
  obtain ⟨b, A, c, hg, hr, hm, hFg, hFb, hF⟩ := h
  have HG := Aside0.mk hg
  have HR := Aside0.mk (Kd.R_mono (ok' := fun k => F k ∨ w.heap.size ≤ k) hr (fun k hk => .inl hk))
  have HRO := Aside0.mk hr.1
  have HZ := Aside0.mk hz
  have HM := Aside0.mk hm
  have HF := Aside0.mk hF
  have HFG := Aside0.mk hFg
  have HFB := Aside0.mk hFb
  have h0 := (blk_cell hg 0).trans (show _ = some (Value.slice A ys.length c) from rfl)
  clear hg hr hz hm hF hFg hFb
  go_enter Try.func25, Try.ntmps25
  go_wp2_with ((with_reducible refine gate_builtin (b := .append) (xs := #[.tmp 10, .tmp 11]) rfl ?_); at_builtin; refine Kd.R_append_rows (Kd.int .u8) (w0 := w) base rfl (.tmp 10) (.tmp 11) 24 5 (.int .u8 0) 1 rfl Try.underlying24 infoB rfl (by decide) (by omega) (.slice A ys.length c) ys zs _ _ _ (fun k => F k ∨ w.heap.size ≤ k) (fun _ => False) rfl rfl HR.out HZ.out (fun _ _ h => h) (fun _ h => h.elim) (fun _ h => .inr h) (Below.refl _ _) hbase (by omega) ?_; intro v2 w2 ho hb hg hat; have HO := Aside0.mk ho; have HB2 := Aside0.mk hb; have HG2 := Aside0.mk (blk_grown HG.out hg (Kd.R_ne HR.out HG.out (by decide))); have HGR := Aside0.mk hg; have HM2 := Aside0.mk (HM.out.kept hg (map_own_ne HM.out HR.out)); clear ho hb hg hat; obtain ⟨A2, c2, e2⟩ := Kd.R_slice HO.out; subst e2; have hy0 := (blk_cell HG2.out 0).trans (show _ = some (Value.slice A ys.length c) from rfl); have hy1 := blk_frozen HG2.out 0)
  go_end0
  have hle := HGR.out.size
  refine ⟨rfl, fun k => (F k ∨ w.heap.size ≤ k) ∧ k < w2.heap.size, ⟨b, A2, c2, blk_put HG2.out 0 _ (by rw [List.length_append]; rfl), Kd.R_mono (Kd.R_bound (Kd.R_set HO.out HG2.out (by decide) 0 _)) (fun k hk => ⟨hk.1, by have := hk.2.2.1; simpa using this⟩), HM2.out.setCell (map_ne HM2.out HG2.out) _, ?_, ?_, ?_⟩, ?_, fun k hk => hk.1⟩
  · exact ⟨.inl HFG.out, blk_lt HG2.out⟩
  · exact ⟨.inl HFB.out, HM2.out.lt⟩
  · rintro k ⟨hk | hk, h2⟩
    · exact ⟨(HF.out k hk).1, by simpa using h2⟩
    · exact ⟨Nat.le_trans hbase hk, by simpa using h2⟩
  · exact (Upd.of_grown HGR.out (fun k hk => HRO.out k hk)).set HFG.out _
/-! ### Num -/
theorem numB_len (n s : Int) : (numB n s).length ≤ 7 := by
  unfold numB
  split
  · rename_i h; rw [be_length]; have := (fits_iff.1 h).2.1; omega
  · simp
theorem wname_Num (base g : Nat) (F : Nat → Prop) (ys : List Int) (k : Nat) (D : DataW Unit) (n s : Int) (w : World) (h : Wr w base F g ys k D) (hl : ys.length < 140737488355000) :
    Calls Try.prog 27 #[.pointer (some ⟨g, 0, none⟩), .int .i64 n, .int .i64 s] w fun e w' => e = .returned (.tuple #[]) ∧ ∃ F', Wr w' base F' g (ys ++ numB n s) k D ∧ Upd w w' F ∧ ∀ k, F' k → F k ∨ w.heap.size ≤ k := by
  have HP := Aside0.mk (show num_Put.f [] n s = some (numB n s) by unfold num_Put.f numB; rw [if_pos (by simp)]; simp)
  have hn := numB_len n s
  have HW := Aside0.mk h
  clear h
  go_enter Try.func27, Try.ntmps27
  go_wp2_with (first | (go_at_call 40; (refine (num_Put.calls none 0 [] n s _ _ (Kd.C_nil _ _) (Nat.le_refl _) HP.out).mono ?_); rintro e w2 ⟨v2, rfl, ho, hb⟩; have HO := Aside0.mk ho; have HBB := Aside0.mk hb; clear ho hb; obtain ⟨A2, c2, e2⟩ := Kd.R_slice HO.out; subst e2) | (go_at_call 25; (with_reducible refine (wname_Raw base g F ys k D A2 c2 (numB n s) _ (HW.out.below HBB.out) (Kd.R_reads' HO.out).2.2 (by omega)).mono ?_); rintro e w3 ⟨rfl, F3, q1, q2, q3⟩))
  go_end0
  exact ⟨rfl, F3, q1, (Upd.of_below HBB.out F).trans q2 (fun _ h => .inl h), fun j hj => (q3 j hj).imp id (fun hh => Nat.le_trans HBB.out.size hh)⟩
/-! ### Len and Bytes -/
theorem wname_Len (base g : Nat) (F : Nat → Prop) (ys : List Int) (k : Nat) (D : DataW Unit) (w : World) (h : Wr w base F g ys k D) :
    Calls Try.prog 32 #[.pointer (some ⟨g, 0, none⟩)] w fun e w' => e = .returned (.int .i64 ys.length) ∧ w = w' := by
  obtain ⟨b, A, c, hg, _⟩ := h
  exact wname_Len_some g A ys.length c w ((blk_cell hg 0).trans rfl)
theorem wname_Bytes (base g : Nat) (F : Nat → Prop) (ys : List Int) (k : Nat) (D : DataW Unit) (w : World) (h : Wr w base F g ys k D) (hl : ys.length < 140737488355328) :
    Calls Try.prog 33 #[.pointer (some ⟨g, 0, none⟩)] w fun e w' => ∃ v0_ : Value, e = .returned v0_ ∧ Kd.R (Kd.int .u8) 5 w' w.heap.size (fun _ => True) v0_ ys ∧ Below w.heap.size w w' := by
  obtain ⟨b, A, c, hg, hr, _⟩ := h
  have h1 := Kd.R_reads' hr
  exact wname_Bytes_some g A c ys w ((blk_cell hg 0).trans rfl) h1.2.2 h1.2.1 hl
/-! ### Set -/
theorem wname_Set_refuses (base g : Nat) (F : Nat → Prop) (ys : List Int) (k : Nat) (D : DataW Unit) (p n s : Int) (w : World) (h : Wr w base F g ys k D) (hl : ys.length < 140737488355328) (hs : s ≤ 9223372036854775807) (hbad : fits n s = false ∨ p < 0 ∨ (ys.length : Int) < p ∨ (ys.length : Int) - p < s) :
    Calls Try.prog 35 #[.pointer (some ⟨g, 0, none⟩), .int .i64 p, .int .i64 n, .int .i64 s] w fun e w' => e = .returned (.int .i64 1) ∧ Drawn0 w w' := by
  obtain ⟨b, A, c, hg, _⟩ := h
  exact wname_Set_bad g A c ys.length p n s w ((blk_cell hg 0).trans rfl) (by omega) hs hbad
end Go.Proofs.Ytahnncccdlblgaa.G
