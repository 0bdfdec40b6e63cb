/- Arguments as data, read as values of the print's kinds: numbers, bools, strings, slices of these, structs of one-cell fields. Conditions: none. -/
import Derived.Test.YtahnncccdlblgaaWMore
import Derived.Deep.Slices
import Derived.Deep.Fields
import Derived.ChangeSame
import Derived.SizedLaws
namespace Go.Proofs.Ytahnncccdlblgaa.Open
open Go.ChangeShapes Go.WideShapes Go.Deep Go.RowKit Go.Proofs.YtahnncccdlblgaaW.PrintWords
section
variable {H : Type} {enc : TypeId × Value → H} {P : Program} {w : World} {base : Nat} {spare : Nat → Bool} {held : Bool}
/-- What is met in a datum takes no more than the form's reach. -/
def Small (P : Program) (t : TypeId) (d : DataW H) : Prop := (d.weights P t).all (· ≤ reachBytes) = true
/-- Whatever is read as a datum of type t is a value of kind d, and meets ok. -/
def Opens {α : Type} (enc : TypeId × Value → H) (P : Program) (w : World) (base : Nat) (spare : Nat → Bool) (held : Bool) (t : TypeId) (d : Kd α) (ok : α → Prop) : Prop :=
  ∀ fuel cs x, DataW.trod enc P w base spare held fuel t cs = some x → Small P t x.1 → ∃ a, d.K w a cs ∧ ok a
theorem opens_int {t : TypeId} {k : IntKind} (ht : P.underlying t = some (.int k)) : Opens enc P w base spare held t (Kd.int k) (fun n => (Lit.int k n).wf = true) := by
  intro fuel cs x h _
  obtain ⟨n, rfl, _, hw⟩ := DataW.trod_int ht h
  exact ⟨n, rfl, hw⟩
theorem opens_bool {t : TypeId} (ht : P.underlying t = some .bool) : Opens enc P w base spare held t Kd.bool (fun _ => True) := by
  intro fuel cs x h _
  obtain ⟨b, rfl, _⟩ := DataW.trod_bool ht h
  exact ⟨b, rfl, trivial⟩
theorem opens_string {t : TypeId} (ht : P.underlying t = some .string) : Opens enc P w base spare held t Kd.string (fun s => s.size ≤ 140737488351232) := by
  intro fuel cs x h hs
  obtain ⟨s, rfl, rfl, _⟩ := DataW.trod_string ht h
  refine ⟨s, rfl, ?_⟩
  unfold Small at hs
  simp only [DataW.weights, List.all_cons, List.all_nil, Bool.and_true, decide_eq_true_eq] at hs
  rw [Array.length_toList] at hs
  exact hs
theorem small_all {e : TypeId} : ∀ {l : List (DataW H)}, (DataW.weightsAll P e l).all (· ≤ reachBytes) = true → ∀ d ∈ l, Small P e d
  | [], _, d, hd => by simp at hd
  | x :: l, h, d, hd => by
    simp only [DataW.weightsAll, List.all_append, Bool.and_eq_true] at h
    rcases List.mem_cons.1 hd with rfl | hd
    · exact h.1
    · exact small_all h.2 d hd
theorem small_each : ∀ {ts : List TypeId} {ds : List (DataW H)}, (DataW.weightsEach P ts ds).all (· ≤ reachBytes) = true → ∀ (j : Nat) t d, ts[j]? = some t → ds[j]? = some d → Small P t d
  | [], _, _, j, t, d, ht, _ => by simp at ht
  | _ :: _, [], _, j, t, d, _, hd => by simp at hd
  | t0 :: ts, d0 :: ds, h, j, t, d, ht, hd => by
    simp only [DataW.weightsEach, List.all_append, Bool.and_eq_true] at h
    cases j with
    | zero =>
      simp only [List.getElem?_cons_zero, Option.some.injEq] at ht hd
      subst ht hd
      exact h.1
    | succ j => exact small_each h.2 j t d (by simpa using ht) (by simpa using hd)
theorem opens_slice {α : Type} {t e : TypeId} {d : Kd α} {oke : α → Prop} {B : Nat} (ht : P.underlying t = some (.slice e)) (hC : P.cellsOf e = d.sz) (hB : P.bytesOf e = B) (he : Opens enc P w base spare held e d oke) :
    Opens enc P w base spare held t (Kd.slice e d) (fun xs => xs.length * B ≤ 140737488351232 ∧ ∀ x ∈ xs, oke x) := by
  intro fuel cs x h hs
  rcases open_slice ht h with ⟨rfl, _⟩ | ⟨a, len, cap, m, n, D, Pl, rfl, hb, hl, hm, hmm, rfl, hi⟩
  · exact ⟨[], ⟨none, 0, rfl, Nat.le_refl _, Kd.C_nil _ _⟩, by simp, fun x hx => by simp at hx⟩
  · unfold Small at hs
    simp only [DataW.weights, ht, List.all_cons, List.all_append, Bool.and_eq_true, decide_eq_true_eq, List.length_map, List.length_range] at hs
    obtain ⟨hsz, hse, _⟩ := hs
    have hlm : len ≤ m := by rw [hmm]; split; exact hl; exact Nat.le_refl _
    have each : ∀ i, i < len → ∃ x : α, oke x ∧ ∃ c, c.length = d.sz ∧ d.K w x c ∧ ∀ j u, c[j]? = some u → w.cell? (a.add (i * d.sz + j)) = some u := by
      intro i hil
      obtain ⟨cs', hc, htr⟩ := hi i (by omega)
      have hsm : Small P e (D i) := small_all hse _ (List.mem_map.2 ⟨i, by simpa using hil, rfl⟩)
      obtain ⟨x, hK, hok⟩ := he _ _ _ htr hsm
      rw [hC] at hc
      obtain ⟨_, hcl, hat⟩ := World.cells?_some hc
      refine ⟨x, hok, cs', d.K_len hK, hK, fun j u hu => ?_⟩
      have hj : j < d.sz := by
        have := (List.getElem?_eq_some_iff.1 hu).1
        rwa [d.K_len hK] at this
      rw [← Go.Deep.add_add, hat j hj, hu]
    let f : Fin len → α := fun i => Classical.choose (each i.1 i.2)
    have hf : ∀ i : Fin len, oke (f i) ∧ ∃ c, c.length = d.sz ∧ d.K w (f i) c ∧ ∀ j u, c[j]? = some u → w.cell? (a.add (i.1 * d.sz + j)) = some u := fun i => Classical.choose_spec (each i.1 i.2)
    refine ⟨List.ofFn f, ⟨some a, cap, by simp, by simpa using hl, ?_⟩, ?_, ?_⟩
    · refine ⟨rfl, by simp only [List.length_ofFn]; simp only [maxLen] at hm; omega, fun _ => ⟨a, rfl, fun j p hp => ?_⟩⟩
      rw [List.getElem?_ofFn] at hp
      split at hp
      · rename_i hj
        obtain rfl := Option.some.inj hp
        obtain ⟨_, c, h1, h2, h3⟩ := hf ⟨j, hj⟩
        exact ⟨c, h1, h2, h3⟩
      · cases hp
    · simp only [List.length_ofFn]
      rw [← hB]
      exact Nat.le_trans (Nat.mul_le_mul_right _ (Nat.le_add_right len (m - len))) hsz
    · intro x hx
      obtain ⟨i, rfl⟩ := List.mem_ofFn.1 hx
      exact (hf i).1
/-- An argument that is a slice. -/
theorem arg_slice {α : Type} {t e : TypeId} {d : Kd α} {ok : List α → Prop} (ho : Opens enc P w base spare held t (Kd.slice e d) ok) {a : Option Addr} {len cap : Nat} {dd : DataW H} {ps : List MemPlace} (h : DataW.Trod enc P w base spare held t (.slice a len cap) dd ps) (hs : Small P t dd) :
    ∃ l : List α, len = l.length ∧ l.length ≤ cap ∧ d.C w a l.length l ∧ ok l := by
  obtain ⟨fuel, hf⟩ := h
  obtain ⟨l, ⟨A, c, hcs, hc, hC⟩, hok⟩ := ho _ _ _ hf hs
  simp only [Value.cells, List.cons.injEq, and_true, Value.slice.injEq] at hcs
  obtain ⟨rfl, rfl, rfl⟩ := hcs
  exact ⟨l, rfl, hc, hC, hok⟩
/-- A struct of one-cell fields: its cells, one by one. -/
theorem struct_cells {t : TypeId} {fs : Array Field} {fuel : Nat} {cs : List Value} {x : DataW H × List MemPlace} (hs : P.underlying t = some (.struct fs)) (hone : oneCellFields P fs = true) (hC : P.cellsOf t = fs.size)
    (h : DataW.trod enc P w base spare held fuel t cs = some x) (hsm : Small P t x.1) :
    cs.length = fs.size ∧ ∀ (j : Nat) (f : Field), fs[j]? = some f → ∃ (v : Value) (y : DataW H × List MemPlace) (n : Nat), cs[j]? = some v ∧ DataW.trod enc P w base spare held n f.type [v] = some y ∧ Small P f.type y.1 := by
  obtain ⟨ys, n', _, rfl, hlen, hyl, hf⟩ := DataW.trod_struct hs h
  rw [hC] at hlen
  refine ⟨hlen, fun j f hj => ?_⟩
  obtain ⟨ho, hk⟩ := hone_of hone j f hj
  have hjl : j < fs.size := (Array.getElem?_eq_some_iff.1 hj).1
  have h1 := hf j f hj
  rw [ho, hk] at h1
  have hone' : (cs.drop j).take 1 = [cs[j]'(by omega)] := by
    rw [List.drop_eq_getElem_cons (by omega)]
    rfl
  rw [hone'] at h1
  have hys : ys[j]? = some (ys[j]'(by omega)) := List.getElem?_eq_getElem (by omega)
  refine ⟨_, _, _, List.getElem?_eq_getElem (by omega), h1.trans hys, ?_⟩
  unfold Small at hsm
  simp only [DataW.weights, hs] at hsm
  refine small_each hsm j f.type _ ?_ ?_
  · rw [List.getElem?_map, Array.getElem?_toList, hj]; rfl
  · rw [List.getElem?_map, hys]; rfl
end
end Go.Proofs.Ytahnncccdlblgaa.Open
