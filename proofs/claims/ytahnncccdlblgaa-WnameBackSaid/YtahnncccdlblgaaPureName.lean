/- What the Writer writes of a name is read as it is: over lists. Conditions: sound labels. -/
import Derived.Test.YtahnncccdlblgaaNames
import Derived.Test.YtahnncccdlblgaaGets
import Derived.Test.YtahnncccdlblgaaPureWnameLoops
namespace Go.Proofs.Ytahnncccdlblgaa.G
open Go.RowKit Go.Proofs.YtahnncccdlblgaaW.PrintWords Go.Proofs.YtahnncccdlblgaaW.PrintLast Go.Proofs.YtahnncccdlblgaaW.PrintMore Go.Proofs.Ytahnncccdlblgaa.Plain
set_option linter.unusedVariables false
set_option linter.unusedSimpArgs false
/-- At p stands a name, whose labels are l, and which ends ahead of e; its first pointer leads ahead of beg, and each further one ahead of where the one ahead of it led. -/
inductive WB (b : List Int) : Nat → Nat → List ByteArray → Nat → Prop
  | zero {beg p : Nat} : b[p]? = some 0 → WB b beg p [] (p + 1)
  | lab {beg p : Nat} {s : ByteArray} {l : List ByteArray} {e : Nat} : 1 ≤ s.size → s.size ≤ 63 → (b.drop p).take (s.size + 1) = lab s → WB b beg (p + (s.size + 1)) l e → WB b beg p (s :: l) e
  | ptr {beg p t : Nat} {l : List ByteArray} {e : Nat} : t < beg → t < 16384 → (b.drop p).take 2 = be (49152 + t) 2 → WB b t t l e → e ≤ p + 2 → WB b beg p l (p + 2)
theorem take_of_append {b z : List Int} {p n : Nat} {t : List Int} (h : (b.drop p).take n = t) (ht : t.length = n) (hn : 0 < n) : ((b ++ z).drop p).take n = t := by
  have hl : p + n ≤ b.length := by
    have := congrArg List.length h
    rw [List.length_take, List.length_drop, ht] at this
    omega
  rw [List.drop_append_of_le_length (by omega), List.take_append_of_le_length (by rw [List.length_drop]; omega), h]
theorem WB.more {b : List Int} {beg p : Nat} {l : List ByteArray} {e : Nat} (h : WB b beg p l e) (z : List Int) : WB (b ++ z) beg p l e := by
  induction h with
  | zero h => exact .zero (by rw [List.getElem?_append_left (List.getElem?_eq_some_iff.1 h).1]; exact h)
  | lab h1 h2 h3 _ ih => exact .lab h1 h2 (take_of_append h3 (lab_length _) (by omega)) ih
  | ptr h1 h2 h3 _ h5 ih => exact .ptr h1 h2 (take_of_append h3 (be_length _ _) (by omega)) ih h5
theorem WB.lower {b : List Int} {beg beg' p : Nat} {l : List ByteArray} {e : Nat} (h : WB b beg p l e) (hb : beg ≤ beg') : WB b beg' p l e := by
  induction h with
  | zero h => exact .zero h
  | lab h1 h2 h3 _ ih => exact .lab h1 h2 h3 (ih hb)
  | ptr h1 h2 h3 h4 h5 _ => exact .ptr (by omega) h2 h3 h4 h5
theorem WB.lt {b : List Int} {beg p : Nat} {l : List ByteArray} {e : Nat} (h : WB b beg p l e) : p < b.length := by
  cases h with
  | zero h => exact (List.getElem?_eq_some_iff.1 h).1
  | lab h1 h2 h3 _ =>
    have := congrArg List.length h3
    rw [List.length_take, List.length_drop, lab_length] at this
    omega
  | ptr h1 h2 h3 _ _ =>
    have := congrArg List.length h3
    rw [List.length_take, List.length_drop, be_length] at this
    omega
theorem strOfNums_bytesOf (s : ByteArray) : strOfNums (bytesOf s) = s := by
  obtain ⟨⟨a⟩⟩ := s
  show ByteArray.mk ((List.map (fun n : Int => UInt8.ofNat n.toNat) (List.map (fun b : UInt8 => (b.toNat : Int)) a)).toArray) = _
  congr
  rw [List.map_map]
  conv => rhs; rw [← List.map_id a]
  apply List.map_congr_left
  intro x _
  simp
theorem getD_of_take {b : List Int} {p n : Nat} {x : Int} {t : List Int} (h : (b.drop p).take (n + 1) = x :: t) : p < b.length ∧ b.getD p 0 = x ∧ (b.drop (p + 1)).take n = t := by
  cases hd : b.drop p with
  | nil => rw [hd] at h; simp at h
  | cons y r =>
    rw [hd, List.take_succ_cons] at h
    obtain ⟨rfl, rfl⟩ := List.cons.inj h
    have hl : p < b.length := by
      have := congrArg List.length hd
      rw [List.length_drop, List.length_cons] at this
      omega
    refine ⟨hl, ?_, ?_⟩
    · rw [List.drop_eq_getElem_cons hl] at hd
      rw [List.getD_eq_getElem?_getD, List.getElem?_eq_getElem hl]
      exact (List.cons.inj hd).1
    · rw [List.drop_eq_getElem_cons hl] at hd
      rw [(List.cons.inj hd).2]
open HWnameLoops in
theorem get_of_WB (b : List Int) (hb : bytesB b = true) (hlen : b.length ≤ 1000000000) {beg p : Nat} {l : List ByteArray} {e : Nat} (h : WB b beg p l e) :
    ∀ (acc : List ByteArray) (nx sz : Int), (acc.length : Int) ≤ sz → 1 ≤ sz → sz + ((restL l).length : Int) ≤ 255 → ∃ K, ∀ k, K ≤ k → wname_Get.l0 k b (p : Int) acc nx (beg : Int) sz = some (acc ++ l, mx nx (e : Int), 0) := by
  induction h with
  | @zero beg p h =>
    intro acc nx sz _ h1 h2
    refine ⟨1, fun k hk => ?_⟩
    obtain ⟨k, rfl⟩ : ∃ m, k = m + 1 := ⟨k - 1, by omega⟩
    obtain ⟨hp, hv⟩ := List.getElem?_eq_some_iff.1 h
    simp only [wname_Get.l0]
    rw [get1 b hb p hp, show b.getD p 0 = 0 by rw [List.getD_eq_getElem?_getD, h]; rfl]
    simp only [Option.bind_some, if_true]
    rw [wrap_id (by omega) (by omega), List.append_nil]
    rfl
  | @lab beg p s l e h1 h2 h3 h4 ih =>
    intro acc nx sz ha hs1 hs2
    rw [restL_cons, List.length_append, lab_length] at hs2
    obtain ⟨K, hK⟩ := ih (acc ++ [s]) nx (sz + (1 + (s.size : Int))) (by rw [List.length_append, List.length_singleton]; omega) (by omega) (by omega)
    refine ⟨K + 1, fun k hk => ?_⟩
    obtain ⟨k, rfl⟩ : ∃ m, k = m + 1 := ⟨k - 1, by omega⟩
    have hl := congrArg List.length h3
    rw [List.length_take, List.length_drop, lab_length] at hl
    obtain ⟨hp, hv, ht⟩ := getD_of_take (show (b.drop p).take (s.size + 1) = ((s.size : Int) % 256) :: bytesOf s from h3)
    simp only [wname_Get.l0]
    rw [get1 b hb p hp, hv, show (s.size : Int) % 256 = (s.size : Int) by omega]
    simp only [Option.bind_some, if_true]
    rw [if_neg (by omega), if_neg (by omega), if_neg (by omega), wrap_id (n := (b.length : Int) - (p : Int)) (by omega) (by omega), wrap_id (n := (b.length : Int) - (p : Int) - 1) (by omega) (by omega), if_neg (by omega),
      wrap_id (n := 1 + (s.size : Int)) (by omega) (by omega), wrap_id (n := sz + (1 + (s.size : Int))) (by omega) (by omega), if_neg (by omega), wrap_id (n := (p : Int) + 1) (by omega) (by omega), wrap_id (n := (p : Int) + 1 + (s.size : Int)) (by omega) (by omega), wrap_id (n := (p : Int) + (1 + (s.size : Int))) (by omega) (by omega),
      if_pos (by omega), if_pos (by omega), if_pos (by omega), if_pos (by omega)]
    have e1 : (b.take ((p : Int) + 1 + (s.size : Int)).toNat).drop ((p : Int) + 1).toNat = bytesOf s := by
      rw [List.drop_take, show ((p : Int) + 1 + (s.size : Int)).toNat - ((p : Int) + 1).toNat = s.size by omega, show ((p : Int) + 1).toNat = p + 1 by omega, ht]
    rw [e1, strOfNums_bytesOf, show (p : Int) + (1 + (s.size : Int)) = ((p + (s.size + 1) : Nat) : Int) by omega, hK k (by omega)]
    simp
  | @ptr beg p t l e h1 h2 h3 h4 h5 ih =>
    intro acc nx sz ha hs1 hs2
    obtain ⟨K, hK⟩ := ih acc (mx nx ((p : Int) + 2)) sz ha hs1 hs2
    refine ⟨K + 1, fun k hk => ?_⟩
    obtain ⟨k, rfl⟩ : ∃ m, k = m + 1 := ⟨k - 1, by omega⟩
    have hl := congrArg List.length h3
    rw [List.length_take, List.length_drop, be_length] at hl
    obtain ⟨hp, hv, ht⟩ := getD_of_take (n := 1) (show (b.drop p).take (1 + 1) = ((49152 + (t : Int)) / 256 ^ 1 % 256) :: be (49152 + t) 1 from h3)
    obtain ⟨hp1, hv1, _⟩ := getD_of_take (n := 0) (show (b.drop (p + 1)).take (0 + 1) = ((49152 + (t : Int)) / 256 ^ 0 % 256) :: be (49152 + t) 0 from ht)
    have hv : b.getD p 0 = (49152 + (t : Int)) / 256 := by rw [hv, Int.pow_one]; omega
    have hv1 : b.getD (p + 1) 0 = (t : Int) % 256 := by rw [hv1, Int.pow_zero]; omega
    simp only [wname_Get.l0]
    rw [get1 b hb p hp, hv]
    simp only [Option.bind_some, if_true]
    rw [if_neg (by omega), if_pos (by omega), get2 b hb p hp1, hv, hv1]
    simp only [Option.bind_some, if_true]
    rw [mask14 _ (by omega) (by omega), show ((49152 + (t : Int)) / 256 * 256 + (t : Int) % 256) % 16384 = (t : Int) by omega, if_neg (by omega), wrap_id (n := (p : Int) + 2) (by omega) (by omega), hK k (by omega)]
    have hmx : mx (mx nx ((p : Int) + 2)) (e : Int) = mx nx ((p + 2 : Nat) : Int) := by
      unfold mx
      split <;> split <;> (try split) <;> omega
    rw [hmx]
open HWnameLoops in
theorem get_reads (b : List Int) (hb : bytesB b = true) (hlen : b.length ≤ 1000000) {p : Nat} {l : List ByteArray} {e : Nat} (h : WB b p p l e) (hl : (restL l).length ≤ 254) : ∃ k, wname_Get.f k b (p : Int) = some (l, (e : Int), 0) := by
  obtain ⟨K, hK⟩ := get_of_WB b hb (by omega) h [] 0 1 (by simp) (by omega) (by omega)
  refine ⟨K, ?_⟩
  unfold wname_Get.f
  rw [if_neg (by omega), hK K (Nat.le_refl _), List.nil_append]
  have : mx 0 (e : Int) = (e : Int) := by unfold mx; split <;> omega
  rw [this]
/-! ### what nameR leaves -/
/-- Each place that is kept bears the name that it is kept for. -/
def Holds (ys : List Int) (m : PMap) : Prop := ∀ x p, m x = some p → x ≠ [] ∧ ∃ q : Nat, p = (q : Int) ∧ q < 16384 ∧ ∃ e, WB ys q q x e ∧ e ≤ ys.length
theorem nameR_wb (short : Bool) (ys0 : List Int) (m0 : PMap) (H0 : Holds ys0 m0) : ∀ (l : List ByteArray) (ys : List Int) (m : PMap), labOk l → (∃ zs, ys = ys0 ++ zs) → (∀ x, x.length ≤ l.length → m x = m0 x) →
    (∃ t, (nameR short l ys m).1 = ys ++ t ∧ 1 ≤ t.length ∧ t.length ≤ (restL l).length + 1 ∧ (bytesB ys = true → bytesB (ys ++ t) = true)) ∧
    (∀ beg, ys0.length ≤ beg → WB (nameR short l ys m).1 beg ys.length l (nameR short l ys m).1.length) ∧
    (∀ x p, (nameR short l ys m).2 x = some p → m x = some p ∨ (x ≠ [] ∧ ∃ q : Nat, p = (q : Int) ∧ q < 16384 ∧ ys0.length ≤ q ∧ WB (nameR short l ys m).1 q q x (nameR short l ys m).1.length)) := by
  intro l
  induction l with
  | nil =>
    rintro ys m _ ⟨zs, rfl⟩ _
    refine ⟨⟨[0], rfl, by simp, by simp, fun hb => ?_⟩, fun beg _ => ?_, fun x p h => .inl h⟩
    · rw [bytesB_iff] at hb ⊢
      intro x hx
      rcases List.mem_append.1 hx with h | h
      · exact hb x h
      · rw [List.mem_singleton] at h; omega
    · have : (nameR short [] (ys0 ++ zs) m).1.length = (ys0 ++ zs).length + 1 := by simp [nameR]; omega
      rw [this]
      exact .zero (by simp [nameR])
  | cons s l ih =>
    intro ys m hlab hz hm
    have hs := hlab s (by simp)
    have hl : labOk l := fun x hx => hlab x (by simp [hx])
    obtain ⟨zs, rfl⟩ := hz
    have hms : m (s :: l) = m0 (s :: l) := hm _ (Nat.le_refl _)
    -- the label is written
    have go : ∀ m', (∀ x, x.length ≤ l.length → m' x = m0 x) → (∀ x p, m' x = some p → m x = some p ∨ (x = s :: l ∧ p = (((ys0 ++ zs).length : Nat) : Int) ∧ (ys0 ++ zs).length < 16384)) → nameR short (s :: l) (ys0 ++ zs) m = nameR short l (ys0 ++ zs ++ lab s) m' →
        (∃ t, (nameR short (s :: l) (ys0 ++ zs) m).1 = (ys0 ++ zs) ++ t ∧ 1 ≤ t.length ∧ t.length ≤ (restL (s :: l)).length + 1 ∧ (bytesB (ys0 ++ zs) = true → bytesB (ys0 ++ zs ++ t) = true)) ∧
        (∀ beg, ys0.length ≤ beg → WB (nameR short (s :: l) (ys0 ++ zs) m).1 beg (ys0 ++ zs).length (s :: l) (nameR short (s :: l) (ys0 ++ zs) m).1.length) ∧
        (∀ x p, (nameR short (s :: l) (ys0 ++ zs) m).2 x = some p → m x = some p ∨ (x ≠ [] ∧ ∃ q : Nat, p = (q : Int) ∧ q < 16384 ∧ ys0.length ≤ q ∧ WB (nameR short (s :: l) (ys0 ++ zs) m).1 q q x (nameR short (s :: l) (ys0 ++ zs) m).1.length)) := by
      intro m' hm' hnew heq
      rw [heq]
      obtain ⟨⟨t, ht, ht1, ht2, ht3⟩, h2, h3⟩ := ih (ys0 ++ zs ++ lab s) m' hl ⟨zs ++ lab s, by simp⟩ hm'
      have hlen : (ys0 ++ zs ++ lab s).length = (ys0 ++ zs).length + (s.size + 1) := by rw [List.length_append, lab_length]
      have hwb : ∀ beg, ys0.length ≤ beg → WB (nameR short l (ys0 ++ zs ++ lab s) m').1 beg (ys0 ++ zs).length (s :: l) (nameR short l (ys0 ++ zs ++ lab s) m').1.length := by
        intro beg hbeg
        refine .lab hs.1 hs.2 ?_ ?_
        · rw [ht, show ys0 ++ zs ++ lab s ++ t = (ys0 ++ zs) ++ (lab s ++ t) by simp, List.drop_left, List.take_append_of_le_length (by rw [lab_length]; exact Nat.le_refl _), List.take_of_length_le (by rw [lab_length]; exact Nat.le_refl _)]
        · rw [← hlen]
          exact h2 beg hbeg
      refine ⟨⟨lab s ++ t, by rw [ht]; simp, by rw [List.length_append]; omega, by rw [List.length_append, lab_length, restL_cons, List.length_append, lab_length]; omega, fun hb => ?_⟩, hwb, fun x p hx => ?_⟩
      · rw [show ys0 ++ zs ++ (lab s ++ t) = ys0 ++ zs ++ lab s ++ t by simp]
        refine ht3 ?_
        rw [bytesB_iff] at hb ⊢
        intro x hx
        rcases List.mem_append.1 hx with h | h
        · exact hb x h
        · exact lab_range s x h
      · rcases h3 x p hx with h | h
        · rcases hnew x p h with h | ⟨rfl, rfl, hlt⟩
          · exact .inl h
          · exact .inr ⟨by simp, _, rfl, hlt, by simp, hwb _ (by simp)⟩
        · exact .inr h
    cases hmo : m (s :: l) with
    | some p =>
      cases short with
      | true =>
        have heq : nameR true (s :: l) (ys0 ++ zs) m = (ys0 ++ zs ++ be (49152 + p) 2, m) := by simp only [nameR, hmo, if_true]
        rw [heq]
        obtain ⟨_, q, rfl, hq, e, hw, he⟩ := H0 (s :: l) p (by rw [← hms]; exact hmo)
        have hqlt := hw.lt
        refine ⟨⟨_, rfl, by rw [be_length]; omega, by rw [be_length, restL_cons, List.length_append, lab_length]; omega, fun hb => ?_⟩, fun beg hbeg => ?_, fun x p h => .inl h⟩
        · rw [bytesB_iff] at hb ⊢
          intro x hx
          rcases List.mem_append.1 hx with h | h
          · exact hb x h
          · simp only [be, List.mem_cons, List.not_mem_nil, or_false] at h
            omega
        · have hl2 : (ys0 ++ zs ++ be (49152 + (q : Int)) 2).length = (ys0 ++ zs).length + 2 := by rw [List.length_append, be_length]
          show WB (ys0 ++ zs ++ be (49152 + (q : Int)) 2) beg (ys0 ++ zs).length (s :: l) (ys0 ++ zs ++ be (49152 + (q : Int)) 2).length
          rw [hl2]
          refine .ptr (t := q) (e := e) (by omega) hq ?_ ?_ (by rw [List.length_append]; omega)
          · rw [List.drop_left, List.take_of_length_le (by rw [be_length]; exact Nat.le_refl _)]
          · rw [List.append_assoc]; exact hw.more _
      | false =>
        exact go m (fun x hx => hm x (by rw [List.length_cons]; omega)) (fun x p h => .inl h) (by simp only [nameR, hmo, Bool.false_eq_true, if_false])
    | none =>
      refine go (if (ys0 ++ zs).length < 16384 then updM m (s :: l) (ys0 ++ zs).length else m) ?_ ?_ (by simp only [nameR, hmo])
      · intro x hx
        split
        · unfold updM
          rw [if_neg (fun e => by rw [e] at hx; simp at hx; omega)]
          exact hm x (by rw [List.length_cons]; omega)
        · exact hm x (by rw [List.length_cons]; omega)
      · intro x p h
        split at h
        · rename_i hlt
          unfold updM at h
          split at h
          · rename_i e
            injection h with h
            exact .inr ⟨e, h.symm, hlt⟩
          · exact .inl h
        · exact .inl h
/-- Behind one name. -/
theorem nameR_holds (short : Bool) (ys : List Int) (m : PMap) (H : Holds ys m) (l : List ByteArray) (hl : labOk l) :
    Holds (nameR short l ys m).1 (nameR short l ys m).2 ∧ (∃ t, (nameR short l ys m).1 = ys ++ t ∧ 1 ≤ t.length ∧ t.length ≤ (restL l).length + 1 ∧ (bytesB ys = true → bytesB (ys ++ t) = true)) ∧ WB (nameR short l ys m).1 ys.length ys.length l (nameR short l ys m).1.length := by
  obtain ⟨h1, h2, h3⟩ := nameR_wb short ys m H l ys m hl ⟨[], by simp⟩ (fun _ _ => rfl)
  refine ⟨fun x p hx => ?_, h1, h2 _ (Nat.le_refl _)⟩
  rcases h3 x p hx with h | ⟨hne, q, hq, hlt, _, hw⟩
  · obtain ⟨hne, q, hq, hlt, e, hw, he⟩ := H x p h
    obtain ⟨t, ht, _⟩ := h1
    refine ⟨hne, q, hq, hlt, e, by rw [ht]; exact hw.more t, by rw [ht, List.length_append]; omega⟩
  · exact ⟨hne, q, hq, hlt, _, hw, Nat.le_refl _⟩
theorem holds_none (ys : List Int) : Holds ys (fun _ => none) := fun x p h => by cases h
theorem holds_more {ys : List Int} {m : PMap} (H : Holds ys m) (t : List Int) : Holds (ys ++ t) m := fun x p hx => by
  obtain ⟨hne, q, hq, hlt, e, hw, he⟩ := H x p hx
  exact ⟨hne, q, hq, hlt, e, hw.more t, by rw [List.length_append]; omega⟩
/-- A name in full. -/
theorem nameR_false (l : List ByteArray) : ∀ (ys : List Int) (m : PMap), (nameR false l ys m).1 = ys ++ (restL l ++ [0]) := by
  induction l with
  | nil => intro ys m; simp [nameR, restL]
  | cons s l ih =>
    intro ys m
    rw [restL_cons]
    cases hmo : m (s :: l) with
    | some p => simp only [nameR, hmo, Bool.false_eq_true, if_false]; rw [ih]; simp
    | none => simp only [nameR, hmo]; rw [ih]; simp
/-- A name none of whose rests stands ahead. -/
theorem nameR_new (l : List ByteArray) : ∀ (ys : List Int) (m : PMap), (∀ x, x.length ≤ l.length → m x = none) →
    (nameR true l ys m).1 = ys ++ (restL l ++ [0]) ∧ (∀ x, l.length < x.length → (nameR true l ys m).2 x = m x) ∧ (16384 ≤ ys.length → (nameR true l ys m).2 = m) := by
  induction l with
  | nil => intro ys m _; exact ⟨by simp [nameR, restL], fun _ _ => rfl, fun _ => rfl⟩
  | cons s l ih =>
    intro ys m hm
    have hmo := hm (s :: l) (Nat.le_refl _)
    have heq : nameR true (s :: l) ys m = nameR true l (ys ++ lab s) (if ys.length < 16384 then updM m (s :: l) ys.length else m) := by simp only [nameR, hmo]
    have hup : ∀ x, x ≠ s :: l → (if ys.length < 16384 then updM m (s :: l) ys.length else m) x = m x := by
      intro x hx
      split
      · unfold updM; rw [if_neg hx]
      · rfl
    obtain ⟨h1, h2, h3⟩ := ih (ys ++ lab s) (if ys.length < 16384 then updM m (s :: l) ys.length else m) (fun x hx => by
      rw [hup x (fun e => by rw [e] at hx; simp at hx; omega)]
      exact hm x (by rw [List.length_cons]; omega))
    rw [heq, restL_cons]
    refine ⟨by rw [h1]; simp, fun x hx => ?_, fun hge => ?_⟩
    · rw [List.length_cons] at hx
      rw [h2 x (by omega), hup x (fun e => by rw [e] at hx; simp at hx)]
    · rw [h3 (by rw [List.length_append]; omega), if_neg (by omega)]
theorem nameR_first (s : ByteArray) (l : List ByteArray) (ys : List Int) : (nameR true (s :: l) ys (fun _ => none)).1 = ys ++ (restL (s :: l) ++ [0]) ∧
    (ys.length < 16384 → (nameR true (s :: l) ys (fun _ => none)).2 (s :: l) = some (ys.length : Int)) ∧ (16384 ≤ ys.length → (nameR true (s :: l) ys (fun _ => none)).2 = fun _ => none) := by
  obtain ⟨h1, _, h3⟩ := nameR_new (s :: l) ys (fun _ => none) (fun _ _ => rfl)
  refine ⟨h1, fun hlt => ?_, h3⟩
  have heq : nameR true (s :: l) ys (fun _ => none) = nameR true l (ys ++ lab s) (updM (fun _ => none) (s :: l) ys.length) := by simp only [nameR]; rw [if_pos hlt]
  obtain ⟨_, h2, _⟩ := nameR_new l (ys ++ lab s) (updM (fun _ => none) (s :: l) ys.length) (fun x hx => by
    unfold updM
    rw [if_neg (fun e => by rw [e] at hx; simp at hx; omega)])
  rw [heq, h2 (s :: l) (by rw [List.length_cons]; omega)]
  unfold updM
  rw [if_pos rfl]
end Go.Proofs.Ytahnncccdlblgaa.G
