/- The reference's Writer as a thing in memory; what its Raw, Num and find do. Conditions: fewer bytes than may be appended to. -/
import Derived.Test.YtahnncccdlblgaaName
import Derived.Test.YtahnncccdlblgaaRefN
import Derived.Below
import Derived.Deep.Draws
import Derived.Deep.AppendLies
import Derived.Maps.AppendAt
import Derived.OwnWalk
import Derived.Laws.BytesArg
import Derived.Laws.MakeOwn
import Derived.Laws.OwnMore
import Derived.Deep.OwnRows
import Derived.Tactics
import Derived.Lib.ConvBytes
import Derived.Laws.Slices
import Derived.WalkKit
import Derived.KernelRfl
import Derived.RowKit3
import Derived.Deep.LoopGhost
import Derived.Deep.QuietTactic
import Derived.BigQuiet
import Derived.WideLaws
import Derived.Deep.DeepCutAuto
import Derived.Deep.CutBlock
import Derived.Deep.RegionHeld3
import Derived.Laws.Rows
import Derived.Lib.AppendStr
import Derived.ArgAppend
import Derived.Laws.IdiomCopy
import Derived.OrdersHeld
import Derived.Laws.BitsLemmas
import Derived.RowKit
namespace Go.Proofs.Ytahnncccdlblgaa.G
open Go.RowKit Go.Proofs.YtahnncccdlblgaaW.PrintWords Go.Proofs.YtahnncccdlblgaaW.PrintLast Go.Proofs.YtahnncccdlblgaaW.PrintMore Go.Proofs.Ytahnncccdlblgaa.Plain
attribute [local go_sem] max2_int min2_int max_two min_two max_three min_three max_four min_four
set_option linter.unusedVariables false
set_option linter.unusedSimpArgs false
/-- A rest: where it stands, and its labels. -/
def kRest : Kd (Int × List ByteArray) := Kd.pair (Kd.int .i64) (Kd.slice 9 Kd.string)
/-- The reference's Writer at block g holds bytes ys and the rests rs; G: its blocks. -/
def Rw (w : World) (base : Nat) (G : Nat → Prop) (g : Nat) (ys : List Int) (rs : List (Int × List ByteArray)) : Prop :=
  ∃ (A : Option Addr) (c : Nat) (B : Option Addr) (d : Nat), w.heap[g]? = some (.cells #[.slice A ys.length c, .slice B rs.length d] 53 (0, 0)) ∧ Kd.R (Kd.int .u8) 5 w base G (.slice A ys.length c) ys ∧
    kRest.R 86 w base G (.slice B rs.length d) rs ∧ G g ∧ (∀ k, G k → base ≤ k ∧ k < w.heap.size)
section
variable {w w' : World} {base g : Nat} {F G : Nat → Prop} {ys : List Int} {rs : List (Int × List ByteArray)}
theorem Rw.upd (h : Rw w base G g ys rs) (hu : Upd w w' F) (hn : ∀ k, G k → ¬ F k) : Rw w' base G g ys rs := by
  obtain ⟨A, c, B, d, h1, h2, h3, h4, h5⟩ := h
  exact ⟨A, c, B, d, hu.blk h1 (hn g h4), R_upd h2 hu hn, R_upd h3 hu hn, h4, fun k hk => ⟨(h5 k hk).1, Nat.lt_of_lt_of_le (h5 k hk).2 hu.size⟩⟩
theorem Rw.below (h : Rw w base G g ys rs) (hb : Below w.heap.size w w') : Rw w' base G g ys rs := h.upd (Upd.of_below hb (fun _ => False)) (fun _ _ h => h)
theorem Rw.alloc (h : Rw w base G g ys rs) (o : Obj) : Rw (w.alloc o) base G g ys rs := h.below (below_alloc (Below.refl _ _) o)
theorem Rw.drew (h : Rw w base G g ys rs) : Rw w.drew base G g ys rs := h.below (below_drew (Below.refl _ _))
theorem Rw.drewN (h : Rw w base G g ys rs) (k : Nat) : Rw (w.drewN k) base G g ys rs := h.below (pw_below_drewN (Below.refl _ _) k)
theorem Rw.lt (h : Rw w base G g ys rs) {k : Nat} (hk : w.heap.size ≤ k) : ¬ G k := by
  obtain ⟨A, c, B, d, h1, h2, h3, h4, h5⟩ := h
  intro hG
  have := (h5 k hG).2
  omega
theorem Rw.ge (h : Rw w base G g ys rs) {k : Nat} (hk : G k) : base ≤ k := by
  obtain ⟨A, c, B, d, h1, h2, h3, h4, h5⟩ := h
  exact (h5 k hk).1
theorem Rw.base_le (h : Rw w base G g ys rs) : base ≤ w.heap.size := by
  obtain ⟨A, c, B, d, h1, h2, h3, h4, h5⟩ := h
  have := h5 g h4
  omega
/-- New bytes, in a row that is new since w. -/
theorem Rw.put {w1 : World} (h : Rw w base G g ys rs) (hb : Below w.heap.size w w1) {zs : List Int} {A2 : Option Addr} {c2 : Nat} (hr : Kd.R (Kd.int .u8) 5 w1 w.heap.size (fun _ => True) (.slice A2 zs.length c2) zs) :
    ∃ G', Rw (w1.setCell ⟨g, 0, none⟩ (.slice A2 zs.length c2)) base G' g zs rs ∧ Upd w (w1.setCell ⟨g, 0, none⟩ (.slice A2 zs.length c2)) G ∧ ∀ k, G' k → G k ∨ w.heap.size ≤ k := by
  have hbase := h.base_le
  obtain ⟨A, c, B, d, h1, h2, h3, h4, h5⟩ := h
  have h1' := blk_below h1 hb
  have hsz := hb.size
  refine ⟨fun k => (G k ∨ w.heap.size ≤ k) ∧ k < w1.heap.size, ⟨A2, c2, B, d, blk_put h1' 0 _ rfl, ?_, ?_, ⟨.inl h4, blk_lt h1'⟩, ?_⟩, (Upd.of_below hb G).set h4 _, fun k hk => hk.1⟩
  · exact Kd.R_mono (Kd.R_set (Kd.R_lower (Kd.R_bound hr) hbase) h1' (by decide) 0 _) (fun k hk => ⟨.inr hk.2.1, hk.2.2.1⟩)
  · exact Kd.R_mono (Kd.R_set (Kd.R_below (Kd.R_bound h3) hb) h1' (by decide) 0 _) (fun k hk => ⟨.inl hk.1, Nat.lt_of_lt_of_le hk.2.2.1 hsz⟩)
  · rintro k ⟨hk | hk, h6⟩
    · exact ⟨(h5 k hk).1, by simpa using h6⟩
    · exact ⟨Nat.le_trans hbase hk, by simpa using h6⟩
end
set_option maxHeartbeats 1000000 in
theorem ref_Raw (base g : Nat) (G : Nat → Prop) (ys : List Int) (rs : List (Int × List ByteArray)) (B : Option Addr) (cb : Nat) (zs : List Int) {m : Nat} (hm : m = zs.length) (w : World) (h : Rw w base G g ys rs) (hz : Kd.C (Kd.int .u8) w B m zs) (hl : ys.length + zs.length < 140737488355328) :
    Calls Try.prog 26 #[.pointer (some ⟨g, 0, none⟩), .slice B m cb] w fun e w' => e = .returned (.tuple #[]) ∧ ∃ G', Rw w' base G' g (ys ++ zs) rs ∧ Upd w w' G ∧ ∀ k, G' k → G k ∨ w.heap.size ≤ k := by
  have H := Aside0.mk h
  have HM := Aside0.mk hm
  obtain ⟨A, c, B2, d, hg, hr, _⟩ := h
  have HG := Aside0.mk hg
  have HY := Aside0.mk (Kd.R_reads' hr).2.2
  have HZ := Aside0.mk hz
  have HL := Aside0.mk hl
  have HB := Aside0.mk (Below.refl w.heap.size w)
  clear hr hz hl hg hm
  go_enter Try.func26, Try.ntmps26
  go_wp2_with (first | ((with_reducible refine gate_dst (N := 5) rfl ?_); refine Kd.R_lit (w0 := w) (Kd.int .u8) w.heap.size 5 ?hg5 (N := 5) ?hd5 (xs := ([] : List Int)) (inner := []) (ok := fun _ => True) (okp := fun _ => False) ?hr5 ?hp5 (fun _ hk => hk.elim) trivial ?hB5 ?hS5 (Nat.zero_le _) ?_; (case hd5 => rfl); (case hg5 => rfl); (case hr5 => exact lit_u8 rfl); (case hp5 => exact (Reps.none _ _)); (case hB5 => exact (by repeat (first | (with_reducible first | exact HB.out | apply below_alloc | apply pw_below_drewN | apply below_drew1) | exact HB.out))); (case hS5 => exact (below_size (by repeat (first | (with_reducible first | exact HB.out | apply below_alloc | apply pw_below_drewN | apply below_drew1) | exact HB.out)))); intro v5 w5 ho hb hg3 hat; clear HB; have HO := Aside0.mk ho; have HB := Aside0.mk hb; have h0_ := (blk_cell (blk_below HG.out hb) 0).trans (show _ = some (Value.slice A ys.length c) from rfl); clear ho hb hg3 hat) | ((with_reducible refine gate_builtin (b := .append) (xs := #[.tmp 5, .tmp 9]) rfl ?_); at_builtin; refine Kd.R_append_rows (Kd.int .u8) (w0 := w) w.heap.size rfl (.tmp 5) (.tmp 9) 24 5 (.int .u8 0) 1 rfl Try.underlying24 infoB rfl (by decide) (by omega) v5 [] ys _ _ _ (fun _ => True) (fun _ => False) rfl rfl ?aO9 ?aR9 (fun _ _ h => h) (fun _ h => h.elim) (fun _ _ => trivial) ?aB9 ?aS9 ?aL9 ?_; (case aR9 => exact (by repeat (first | exact (Kd.C_below HY.out HB.out) | (with_reducible refine Kd.C_alloc ?_ _) | (with_reducible refine Kd.C_drewN ?_ _) | (with_reducible refine Kd.C_drew ?_)))); (case aB9 => exact (by repeat (first | (with_reducible first | exact HB.out | apply below_alloc | apply pw_below_drewN | apply below_drew1) | exact HB.out))); (case aO9 => exact (by first | (with_reducible exact HO.out) | ((with_reducible repeat (first | apply Kd.R_alloc | apply Kd.R_drewN | apply Kd.R_drew)); exact HO.out))); (case aS9 => exact (below_size (by repeat (first | (with_reducible first | exact HB.out | apply below_alloc | apply pw_below_drewN | apply below_drew1) | exact HB.out)))); (case aL9 => have := HL.out; simp; omega); intro v10 w10 ho hb hg3 hat; rw [List.nil_append] at ho; clear HB HO; have HO := Aside0.mk ho; have HB := Aside0.mk hb; clear ho hb hg3 hat) | ((with_reducible refine gate_builtin (b := .append) (xs := #[.tmp 10, .tmp 11]) rfl ?_); at_builtin; refine Kd.R_append_rows (Kd.int .u8) (w0 := w) w.heap.size rfl (.tmp 10) (.tmp 11) 24 5 (.int .u8 0) 1 rfl Try.underlying24 infoB rfl (by decide) (by omega) v10 ys zs _ _ _ (fun _ => True) (fun _ => False) rfl rfl ?aO8 ?aR8 (fun _ _ h => h) (fun _ h => h.elim) (fun _ _ => trivial) ?aB8 ?aS8 ?aL8 ?_; (case aR8 => exact (by repeat (first | exact (Kd.C_below HZ.out HB.out) | (with_reducible refine Kd.C_alloc ?_ _) | (with_reducible refine Kd.C_drewN ?_ _) | (with_reducible refine Kd.C_drew ?_)))); (case aB8 => exact (by repeat (first | (with_reducible first | exact HB.out | apply below_alloc | apply pw_below_drewN | apply below_drew1) | exact HB.out))); (case aO8 => exact (by first | (with_reducible exact HO.out) | ((with_reducible repeat (first | apply Kd.R_alloc | apply Kd.R_drewN | apply Kd.R_drew)); exact HO.out))); (case aS8 => exact (below_size (by repeat (first | (with_reducible first | exact HB.out | apply below_alloc | apply pw_below_drewN | apply below_drew1) | exact HB.out)))); (case aL8 => have := HL.out; have := HM.out; omega); intro v12 w12 ho hb hg3 hat; clear HB HO; have HO := Aside0.mk ho; have HB := Aside0.mk hb; clear ho hb hg3 hat; obtain ⟨A12, c12, e12⟩ := Kd.R_slice HO.out; subst e12; have hy0 := (blk_cell (blk_below HG.out HB.out) 0).trans (show _ = some (Value.slice A ys.length c) from rfl); have hy1 := blk_frozen (blk_below HG.out HB.out) 0))
  go_end0
  obtain ⟨G', q1, q2, q3⟩ := H.out.put HB.out HO.out
  rw [List.length_append] at q1 q2
  exact ⟨rfl, G', q1, q2, q3⟩
set_option maxHeartbeats 1000000 in
theorem ref_Num (base g : Nat) (G : Nat → Prop) (ys : List Int) (rs : List (Int × List ByteArray)) (n s : Int) (w : World) (h : Rw w base G g ys rs) (hn : n ≤ 9223372036854775807) (hl : ys.length ≤ 70368744177664) :
    Calls Try.prog 28 #[.pointer (some ⟨g, 0, none⟩), .int .i64 n, .int .i64 s] w fun e w' => e = .returned (.tuple #[]) ∧ ∃ G', Rw w' base G' g (ys ++ numB n s) rs ∧ Upd w w' G ∧ ∀ k, G' k → G k ∨ w.heap.size ≤ k := by
  have H := Aside0.mk h
  obtain ⟨A, c, B2, d, hg, hr, _⟩ := h
  have HG := Aside0.mk hg
  have HY := Aside0.mk (Kd.R_reads' hr)
  have HP := Aside0.mk (show gazetteerref01_Put.f ys n s = some (ys ++ numB n s) by
    unfold gazetteerref01_Put.f num_Put.f numB
    rw [if_pos hn, if_pos hl]
    split
    · rfl
    · rw [List.append_nil])
  have h0_ := (blk_cell hg 0).trans (show _ = some (Value.slice A ys.length c) from rfl)
  clear hr hl hg hn
  go_enter Try.func28, Try.ntmps28
  go_wp2_with (go_at_call 37; (with_reducible refine (gazetteerref01_Put.calls A c ys n s _ _ HY.out.2.2 HY.out.2.1 HP.out).mono ?_); rintro e w2 ⟨v2, rfl, ho, hb⟩; have HO := Aside0.mk ho; have HB := Aside0.mk hb; clear ho hb; obtain ⟨A2, c2, e2⟩ := Kd.R_slice HO.out; subst e2; have hy0 := (blk_cell (blk_below HG.out HB.out) 0).trans (show _ = some (Value.slice A ys.length c) from rfl); have hy1 := blk_frozen (blk_below HG.out HB.out) 0)
  go_end0
  obtain ⟨G', q1, q2, q3⟩ := H.out.put HB.out HO.out
  rw [List.length_append] at q1 q2
  exact ⟨rfl, G', q1, q2, q3⟩
/-! ### find -/
/-- The first place of a rest; -1: there is none. -/
def findR : List (Int × List ByteArray) → List ByteArray → Int
  | [], _ => -1
  | p :: rs, l => if p.2 = l then p.1 else findR rs l
theorem at_rest {w : World} {A : Option Addr} {n : Nat} {rs : List (Int × List ByteArray)} (h : kRest.C w A n rs) (j : Nat) (hj : j < n) :
    ∃ ad A' c', A = some ad ∧ w.cell? (ad.add (j * 2)) = some (.int .i64 (rs.getD j (0, [])).1) ∧ w.cell? ⟨(ad.add (j * 2)).block, (ad.add (j * 2)).off + 1, none⟩ = some (.slice A' (rs.getD j (0, [])).2.length c') ∧ (rs.getD j (0, [])).2.length ≤ c' ∧ Kd.C Kd.string w A' (rs.getD j (0, [])).2.length (rs.getD j (0, [])).2 := by
  obtain ⟨ad, c, e, hc, hk, hx⟩ := Kd.C_get h (0, []) (j : Int) (by omega) (by omega)
  rw [Int.toNat_natCast] at hk hx
  obtain ⟨c0, c1, rfl, hi, A', c', rfl, hl, hC⟩ := hk
  obtain rfl : c0 = [.int .i64 (rs.getD j (0, [])).1] := hi
  refine ⟨ad, A', c', e, hx 0 _ rfl, ?_, hl, hC⟩
  have := hx 1 _ rfl
  rw [show kRest.sz = 2 from rfl, add_field ad (j * 2) 1 (by omega)] at this
  exact this
set_option maxHeartbeats 1000000 in
theorem ref_find (base g : Nat) (G : Nat → Prop) (ys : List Int) (rs : List (Int × List ByteArray)) (Al : Option Addr) (cl : Nat) (l : List ByteArray) (w : World) (h : Rw w base G g ys rs) (hC : Kd.C Kd.string w Al l.length l) (hc : l.length ≤ cl) :
    Calls Try.prog 47 #[.pointer (some ⟨g, 0, none⟩), .slice Al l.length cl] w fun e w' => e = .returned (.int .i64 (findR rs l)) ∧ Drawn0 w w' := by
  obtain ⟨A, c, B, d, hg, _, hr, _⟩ := h
  have HG := Aside0.mk hg
  have HR := Aside0.mk (Kd.R_reads' hr).2.2
  have HC := Aside0.mk hC
  have HCC := Aside0.mk hc
  have hm := Kd.C_max (Kd.R_reads' hr).2.2
  obtain ⟨r, hr'⟩ : ∃ r, findR rs l = r := ⟨_, rfl⟩
  rw [hr']
  have HF := Aside0.mk hr'
  clear hg hr hC hc hr'
  go_enter Try.func47, Try.ntmps47
  go_wp2
  go_loopw [5] (fun i wr => ∃ (j n : Nat), j ≤ rs.length ∧ i = .int .i64 j ∧ wr = w.drewN n ∧ Aside0 (findR (rs.drop j) l = r)) (fun i _ => rs.length - (intOf i).toNat)
  case atStart => exact ⟨0, 0, Nat.zero_le _, rfl, rfl, ⟨HF.out⟩⟩
  case round =>
    obtain ⟨j, n, hj, rfl, rfl, HJ⟩ := hrel
    have h1 : (w.drewN n).cell? ⟨g, 1, none⟩ = some (.slice B rs.length d) := (blk_cell HG.out 1).trans rfl
    by_cases hlt : j < rs.length
    · obtain ⟨ad, A', c', rfl, hx0, hx1, hl, hC'⟩ := at_rest (Kd.C_drewN HR.out n) j hlt
      have hd : rs.drop j = rs.getD j (0, []) :: rs.drop (j + 1) := by
        rw [List.drop_eq_getElem_cons hlt]
        simp [List.getD_eq_getElem?_getD, hlt]
      obtain ⟨p, q, hpq⟩ : ∃ p q, rs.getD j (0, []) = (p, q) := ⟨_, _, rfl⟩
      rw [hpq] at hx0 hx1 hl hC' hd
      have hj2 := HJ.out
      rw [hd, findR] at hj2
      have HCQ := Aside0.mk hC'
      have HLQ := Aside0.mk hl
      have hx2 : ∀ k, (w.drewN k).cell? (ad.add (j * 2)) = some (.int .i64 p) := fun k => hx0
      have hx3 : ∀ k, (w.drewN k).cell? ⟨g, 1, none⟩ = some (.slice (some ad) rs.length d) := fun k => h1
      clear hd hpq hC' hl hx0
      by_cases hq : q = l
      · rw [if_pos hq] at hj2
        have HQ := Aside0.mk (decide_eq_true hq)
        have HP := Aside0.mk hj2
        clear hq hj2
        go_wp2_with (go_at_call 20; (with_reducible refine (ref_Exact A' c' q Al cl l _ HCQ.out HLQ.out ?x1 HCC.out).mono ?_); (case x1 => exact Kd.C_drewN HC.out n); rintro e w' ⟨rfl, ⟨nd, rfl⟩⟩; rw [HQ.out])
        go_ret
        exact ⟨by rw [← HP.out]; rfl, (by repeat (first | exact Drawn0.refl _ | apply Drawn0.step))⟩
      · rw [if_neg hq] at hj2
        have HQ := Aside0.mk (decide_eq_false hq)
        have HP := Aside0.mk hj2
        clear hq hj2
        go_wp2_with (go_at_call 20; (with_reducible refine (ref_Exact A' c' q Al cl l _ HCQ.out HLQ.out ?x1 HCC.out).mono ?_); (case x1 => exact Kd.C_drewN HC.out n); rintro e w' ⟨rfl, ⟨nd, rfl⟩⟩; rw [HQ.out])
        go_roundw
        case rel => exact ⟨j + 1, _, by omega, by go_num, rfl, ⟨HP.out⟩⟩
        case measure => simp [intOf] <;> omega
    · have he : rs.drop j = [] := List.drop_eq_nil_of_le (by omega)
      have hj2 := HJ.out
      rw [he, findR] at hj2
      have HP := Aside0.mk hj2
      clear he hj2
      go_wp2
      go_ret
      exact ⟨by rw [← HP.out]; rfl, (by repeat (first | exact Drawn0.refl _ | apply Drawn0.step))⟩
end Go.Proofs.Ytahnncccdlblgaa.G
