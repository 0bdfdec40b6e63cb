/- Names as lists of labels: what the Writer writes for a name, and which places it keeps; plain lists, and the map that holds them. Conditions: none. -/
import Derived.Test.YtahnncccdlblgaaRest
import Derived.Test.YtahnncccdlblgaaGbytes
import Derived.Test.YtahnncccdlblgaaSetok
import Derived.Maps.Views
import Derived.Below
import Derived.Deep.Draws
import Derived.Deep.AppendLies
import Derived.Maps.AppendAt
import Derived.OwnWalk
import Derived.Laws.BytesArg
import Derived.Laws.MakeOwn
import Derived.Laws.OwnMore
import Derived.Deep.OwnRows
import Derived.Tactics
import Derived.Lib.ConvBytes
import Derived.Laws.Slices
import Derived.WalkKit
import Derived.KernelRfl
import Derived.RowKit3
import Derived.Deep.LoopGhost
import Derived.Deep.QuietTactic
import Derived.BigQuiet
import Derived.WideLaws
import Derived.Deep.DeepCutAuto
import Derived.Deep.CutBlock
import Derived.Deep.RegionHeld3
import Derived.Laws.Rows
import Derived.Lib.AppendStr
import Derived.ArgAppend
import Derived.Laws.IdiomCopy
import Derived.OrdersHeld
import Derived.Laws.BitsLemmas
import Derived.RowKit
namespace Go.Proofs.Ytahnncccdlblgaa.G
open Go.RowKit Go.Proofs.YtahnncccdlblgaaW.PrintWords Go.Proofs.YtahnncccdlblgaaW.PrintLast Go.Proofs.YtahnncccdlblgaaW.PrintMore Go.Proofs.Ytahnncccdlblgaa.Plain
attribute [local go_sem] max2_int min2_int max_two min_two max_three min_three max_four min_four
set_option linter.unusedVariables false
set_option linter.unusedSimpArgs false
/-- May all labels be? -/
def labOk (l : List ByteArray) : Prop := ∀ s ∈ l, 1 ≤ s.size ∧ s.size ≤ 63
theorem sizeL_rest (l : List ByteArray) : sizeL l = 1 + ((restL l).length : Int) := by
  unfold sizeL
  suffices ∀ a : Int, l.foldl (fun n s => n + (1 + (s.size : Int))) a = a + ((restL l).length : Int) by rw [this]
  induction l with
  | nil => intro a; simp [restL]
  | cons x l ih =>
    intro a
    rw [List.foldl_cons, ih, restL_cons, List.length_append, lab_length]
    omega
theorem sound_iff {l : List ByteArray} : soundB l = true ↔ l.length ≤ 255 ∧ labOk l ∧ (restL l).length ≤ 254 := by
  unfold soundB
  rw [Bool.and_eq_true, Bool.and_eq_true, decide_eq_true_iff, decide_eq_true_iff, sizeL_rest, Bool.not_eq_true', List.any_eq_false]
  unfold labOk badLab
  constructor
  · rintro ⟨⟨h1, h2⟩, h3⟩
    refine ⟨h1, fun s hs => ?_, by omega⟩
    have := h2 s hs
    rw [Bool.not_eq_true, decide_eq_false_iff_not] at this
    omega
  · rintro ⟨h1, h2, h3⟩
    refine ⟨⟨h1, fun s hs => ?_⟩, by omega⟩
    have := h2 s hs
    rw [Bool.not_eq_true, decide_eq_false_iff_not]
    omega
theorem bytesOf_range (s : ByteArray) : ∀ x ∈ bytesOf s, 0 ≤ x ∧ x ≤ 255 := by
  intro x hx
  simp only [bytesOf, List.mem_map] at hx
  obtain ⟨b, _, rfl⟩ := hx
  have := b.toNat_lt
  omega
theorem lab_range (s : ByteArray) : ∀ x ∈ lab s, 0 ≤ x ∧ x ≤ 255 := by
  intro x hx
  rcases List.mem_cons.1 hx with rfl | hx
  · omega
  · exact bytesOf_range s x hx
theorem restL_range (l : List ByteArray) : ∀ x ∈ restL l, 0 ≤ x ∧ x ≤ 255 := by
  intro x hx
  obtain ⟨s, _, h⟩ := List.mem_flatMap.1 hx
  exact lab_range s x h
theorem bytesOf_inj {s t : ByteArray} (h : bytesOf s = bytesOf t) : s = t := by
  obtain ⟨⟨a⟩⟩ := s
  obtain ⟨⟨b⟩⟩ := t
  congr
  exact (List.map_inj_right (f := fun x : UInt8 => (x.toNat : Int)) (fun x y hxy => UInt8.toNat_inj.1 (Int.ofNat.inj hxy))).1 h
theorem restL_inj {l m : List ByteArray} (hl : labOk l) (hm : labOk m) (h : restL l = restL m) : l = m := by
  induction l generalizing m with
  | nil =>
    cases m with
    | nil => rfl
    | cons t m => rw [restL_cons] at h; simp [restL, lab] at h
  | cons s l ih =>
    cases m with
    | nil => rw [restL_cons] at h; simp [restL, lab] at h
    | cons t m =>
      rw [restL_cons, restL_cons] at h
      have hs := hl s (by simp)
      have ht := hm t (by simp)
      have h0 : (s.size : Int) % 256 = (t.size : Int) % 256 := by
        simp only [lab, List.cons_append] at h
        exact (List.cons.inj h).1
      have hst : s.size = t.size := by omega
      obtain ⟨h1, h2⟩ := List.append_inj h (by rw [lab_length, lab_length, hst])
      have h3 : bytesOf s = bytesOf t := (List.cons.inj h1).2
      rw [bytesOf_inj h3, ih (fun x hx => hl x (by simp [hx])) (fun x hx => hm x (by simp [hx])) h2]
/-- The map's key of labels. -/
def keyL (l : List ByteArray) : List UInt8 := (strOfNums (restL l)).data.toList
theorem keyL_inj {l m : List ByteArray} (hl : labOk l) (hm : labOk m) (h : keyL l = keyL m) : l = m := by
  have e := str_eq (bytesB_iff.2 (restL_range l)) (bytesB_iff.2 (restL_range m))
  rw [ByteArray.toList_eq, ByteArray.toList_eq] at e
  have e2 : ((strOfNums (restL l)).data.toList == (strOfNums (restL m)).data.toList) = true := beq_iff_eq.2 h
  rw [e2] at e
  exact restL_inj hl hm (of_decide_eq_true e.symm)
theorem strOfNums_size (l : List Int) : (strOfNums l).size = l.length := by
  show (l.map fun n => UInt8.ofNat n.toNat).toArray.size = _
  simp
/-- Where the rests of names stand. -/
abbrev PMap := List ByteArray → Option Int
def updM (m : PMap) (l : List ByteArray) (p : Int) : PMap := fun x => if x = l then some p else m x
/-- The map's datum is such a map. -/
def Rep (D : DataW Unit) (m : PMap) : Prop := ∀ l, labOk l → Maps.has D (.string (keyL l)) = (m l).isSome ∧ ∀ p, m l = some p → D.atKey (.string (keyL l)) (.lit (.int .i64 0)) = .lit (.int .i64 p)
theorem rep_nil : Rep (.map []) (fun _ => none) := fun l _ => ⟨rfl, fun p h => by cases h⟩
theorem KL (t : List UInt8) : WideAt.IsKeyLit (.string t) := by first | trivial | (unfold WideAt.IsKeyLit; simp) | simp [WideAt.IsKeyLit]
theorem rep_put {D : DataW Unit} {m : PMap} (h : Rep D m) (hD : Go.Maps.IsMap D) {l : List ByteArray} (hl : labOk l) (p : Int) : Rep (D.put (.string (keyL l)) (.lit (.int .i64 p))) (updM m l p) := by
  intro x hx
  unfold updM
  by_cases e : x = l
  · subst e
    refine ⟨by rw [if_pos rfl]; exact Maps.has_put_same hD (KL _) _, fun q hq => ?_⟩
    rw [if_pos rfl] at hq
    injection hq with hq
    subst hq
    exact Maps.atKey_put_same hD (KL _) _ _
  · have hne : (Lit.string (keyL x)) ≠ .string (keyL l) := fun he => e (keyL_inj hx hl (by injection he))
    rw [if_neg e, Maps.has_put_other hne, Maps.atKey_put_other hne]
    exact h x hx
/-- What is written of a name's labels, and which places are kept. -/
def nameR (short : Bool) : List ByteArray → List Int → PMap → List Int × PMap
  | [], ys, m => (ys ++ [0], m)
  | s :: l, ys, m =>
    match m (s :: l) with
    | some p => if short = true then (ys ++ be (49152 + p) 2, m) else nameR short l (ys ++ lab s) m
    | none => nameR short l (ys ++ lab s) (if ys.length < 16384 then updM m (s :: l) ys.length else m)
theorem or_pointer (p : Int) (h0 : 0 ≤ p) (h1 : p < 16384) : bits .or .i64 49152 p = 49152 + p := by
  obtain ⟨b, rfl⟩ := Int.eq_ofNat_of_zero_le h0
  have h := (bits_nat .i64 62 (by decide) (fun m hm0 hm1 => by rw [IntKind.wrap_i64]; omega) 49152 b (by decide) (by omega)).2
  have e : (49152 ||| b) = 49152 + b := by
    have := Nat.two_pow_add_eq_or_of_lt (b := b) (i := 14) (by omega) 3
    simpa using this.symm
  rw [e] at h
  rw [show ((49152 : Int)) = ((49152 : Nat) : Int) from rfl, h]
  omega
theorem numB_one (n : Int) (h0 : 0 ≤ n) (h1 : n ≤ 255) : numB n 1 = [n] := by
  unfold numB
  rw [if_pos (fits_iff.2 ⟨by omega, by omega, h0, by show n < 256; omega⟩)]
  show [n / 256 ^ 0 % 256] = [n]
  simp
  omega
theorem numB_two (p : Int) (h0 : 0 ≤ p) (h1 : p < 16384) : numB (49152 + p) 2 = be (49152 + p) 2 := by
  unfold numB
  rw [if_pos (fits_iff.2 ⟨by omega, by omega, by omega, by show 49152 + p < 65536; omega⟩)]
  rfl
end Go.Proofs.Ytahnncccdlblgaa.G
