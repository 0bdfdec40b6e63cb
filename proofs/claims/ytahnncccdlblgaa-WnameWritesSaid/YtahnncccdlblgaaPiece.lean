/- A piece that is written, read as a value; whether it is light. Conditions: none. -/
import Derived.Test.YtahnncccdlblgaaOpen
import Derived.Test.YtahnncccdlblgaaRn
import Derived.Below
import Derived.Deep.Draws
import Derived.Deep.AppendLies
import Derived.Maps.AppendAt
import Derived.OwnWalk
import Derived.Laws.BytesArg
import Derived.Laws.MakeOwn
import Derived.Laws.OwnMore
import Derived.Deep.OwnRows
import Derived.Tactics
import Derived.Lib.ConvBytes
import Derived.Laws.Slices
import Derived.WalkKit
import Derived.KernelRfl
import Derived.RowKit3
import Derived.Deep.LoopGhost
import Derived.Deep.QuietTactic
import Derived.BigQuiet
import Derived.WideLaws
import Derived.Deep.DeepCutAuto
import Derived.Deep.CutBlock
import Derived.Deep.RegionHeld3
import Derived.Laws.Rows
import Derived.Lib.AppendStr
import Derived.ArgAppend
import Derived.Laws.IdiomCopy
import Derived.OrdersHeld
import Derived.Laws.BitsLemmas
import Derived.RowKit
namespace Go.Proofs.Ytahnncccdlblgaa.G
open Go.RowKit Go.Proofs.YtahnncccdlblgaaW.PrintWords Go.Proofs.YtahnncccdlblgaaW.PrintLast Go.Proofs.YtahnncccdlblgaaW.PrintMore Go.Proofs.Ytahnncccdlblgaa.Plain
attribute [local go_sem] max2_int min2_int max_two min_two max_three min_three max_four min_four
set_option linter.unusedVariables false
set_option linter.unusedSimpArgs false
/-- What is written: a name, whether short, bytes, a number, its size, and which of these. -/
structure Pc where
  name : List ByteArray
  short : Bool
  raw : List Int
  n : Int
  size : Int
  kind : Int
def kPc0 : Kd (List ByteArray × Bool × List Int × Int × Int × Int) := Kd.pair (Kd.slice 9 Kd.string) (Kd.pair Kd.bool (Kd.pair (Kd.slice 5 (Kd.int .u8)) (Kd.pair (Kd.int .i64) (Kd.pair (Kd.int .i64) (Kd.int .i64)))))
def kPc : Kd Pc := Kd.iso kPc0 (fun p => (p.name, p.short, p.raw, p.n, p.size, p.kind))
def okPc (p : Pc) : Prop := (p.name.length * 16 ≤ 140737488351232 ∧ ∀ y ∈ p.name, y.size ≤ 140737488351232) ∧ (p.raw.length * 1 ≤ 140737488351232 ∧ ∀ b ∈ p.raw, (Lit.int .u8 b).wf = true) ∧ (Lit.int .i64 p.n).wf = true ∧ (Lit.int .i64 p.size).wf = true ∧ (Lit.int .i64 p.kind).wf = true
instance : Inhabited Pc := ⟨⟨[], false, [], 0, 0, 0⟩⟩
section
variable {H : Type} {enc : TypeId × Value → H} {w : World} {base : Nat} {spare : Nat → Bool} {held : Bool}
open Go.Proofs.Ytahnncccdlblgaa.Open in
theorem opens_piece : Opens enc Try.prog w base spare held 55 kPc okPc := by
  intro fuel cs x h hs
  obtain ⟨hl, hf⟩ := struct_cells Try.underlying55 (by kernel_rfl) (by kernel_rfl) h hs
  obtain ⟨v0, y0, n0, e0, t0, s0⟩ := hf 0 _ rfl
  obtain ⟨v1, y1, n1, e1, t1, s1⟩ := hf 1 _ rfl
  obtain ⟨v2, y2, n2, e2, t2, s2⟩ := hf 2 _ rfl
  obtain ⟨v3, y3, n3, e3, t3, s3⟩ := hf 3 _ rfl
  obtain ⟨v4, y4, n4, e4, t4, s4⟩ := hf 4 _ rfl
  obtain ⟨v5, y5, n5, e5, t5, s5⟩ := hf 5 _ rfl
  obtain ⟨l0, ⟨A0, c0, k0, hc0, hC0⟩, o0⟩ := opens_slice (d := Kd.string) (B := 16) Try.underlying34 (by kernel_rfl) (by kernel_rfl) (opens_string Try.underlying9) _ _ _ t0 s0
  obtain ⟨b1, k1, _⟩ := opens_bool Try.underlying4 _ _ _ t1 s1
  obtain ⟨l2, ⟨A2, c2, k2, hc2, hC2⟩, o2⟩ := opens_slice (d := Kd.int .u8) (B := 1) Try.underlying24 (by kernel_rfl) (by kernel_rfl) (opens_int Try.underlying5) _ _ _ t2 s2
  obtain ⟨i3, k3, o3⟩ := opens_int Try.underlying3 _ _ _ t3 s3
  obtain ⟨i4, k4, o4⟩ := opens_int Try.underlying3 _ _ _ t4 s4
  obtain ⟨i5, k5, o5⟩ := opens_int Try.underlying3 _ _ _ t5 s5
  have k1 : [v1] = [.bool b1] := k1
  have k3 : [v3] = [.int .i64 i3] := k3
  have k4 : [v4] = [.int .i64 i4] := k4
  have k5 : [v5] = [.int .i64 i5] := k5
  injection k0 with k0 _
  injection k1 with k1 _
  injection k2 with k2 _
  injection k3 with k3 _
  injection k4 with k4 _
  injection k5 with k5 _
  subst k0 k1 k2 k3 k4 k5
  obtain rfl : cs = [.slice A0 l0.length c0, .bool b1, .slice A2 l2.length c2, .int .i64 i3, .int .i64 i4, .int .i64 i5] := by
    match cs, hl with
    | [d0, d1, d2, d3, d4, d5], _ => simp only [List.getElem?_cons_zero, List.getElem?_cons_succ, Option.some.injEq] at e0 e1 e2 e3 e4 e5; rw [e0, e1, e2, e3, e4, e5]
  exact ⟨⟨l0, b1, l2, i3, i4, i5⟩, ⟨[.slice A0 l0.length c0], _, rfl, ⟨A0, c0, rfl, hc0, hC0⟩, [.bool b1], _, rfl, rfl, [.slice A2 l2.length c2], _, rfl, ⟨A2, c2, rfl, hc2, hC2⟩, [.int .i64 i3], _, rfl, rfl, [.int .i64 i4], _, rfl, rfl, rfl⟩, o0, o2, o3, o4, o5⟩
theorem opens_pieces : Open.Opens enc Try.prog w base spare held 47 (Kd.slice 55 kPc) (fun xs => xs.length * 80 ≤ 140737488351232 ∧ ∀ x ∈ xs, okPc x) :=
  Open.opens_slice Try.underlying47 (by kernel_rfl) (by kernel_rfl) opens_piece
end
theorem at_piece {w : World} {A : Option Addr} {n : Nat} {l : List Pc} (h : kPc.C w A n l) (j : Nat) (hj : j < n) {p : Pc} (hp : l.getD j default = p) :
    ∃ ad An cn Ar cr, A = some ad ∧ p.name.length ≤ cn ∧ Kd.C Kd.string w An p.name.length p.name ∧ p.raw.length ≤ cr ∧ Kd.C (Kd.int .u8) w Ar p.raw.length p.raw ∧
      w.cell? (ad.add (j * 6)) = some (.slice An p.name.length cn) ∧ w.cell? ⟨(ad.add (j * 6)).block, (ad.add (j * 6)).off + 1, none⟩ = some (.bool p.short) ∧ w.cell? ⟨(ad.add (j * 6)).block, (ad.add (j * 6)).off + 2, none⟩ = some (.slice Ar p.raw.length cr) ∧
      w.cell? ⟨(ad.add (j * 6)).block, (ad.add (j * 6)).off + 3, none⟩ = some (.int .i64 p.n) ∧ w.cell? ⟨(ad.add (j * 6)).block, (ad.add (j * 6)).off + 4, none⟩ = some (.int .i64 p.size) ∧ w.cell? ⟨(ad.add (j * 6)).block, (ad.add (j * 6)).off + 5, none⟩ = some (.int .i64 p.kind) := by
  obtain ⟨ad, c, e, hc, hk, hx⟩ := Kd.C_get h default (j : Int) (by omega) (by omega)
  rw [Int.toNat_natCast] at hk hx
  rw [hp] at hk
  obtain ⟨c0, q0, rfl, ⟨An, cn, rfl, hcn, hCn⟩, c1, q1, rfl, hb, c2, q2, rfl, ⟨Ar, cr, rfl, hcr, hCr⟩, c3, q3, rfl, hi3, c4, c5, rfl, hi4, hi5⟩ := hk
  obtain rfl : c1 = [.bool p.short] := hb
  obtain rfl : c3 = [.int .i64 p.n] := hi3
  obtain rfl : c4 = [.int .i64 p.size] := hi4
  obtain rfl : c5 = [.int .i64 p.kind] := hi5
  have hs : kPc.sz = 6 := rfl
  rw [hs] at hx
  refine ⟨ad, An, cn, Ar, cr, e, hcn, hCn, hcr, hCr, hx 0 _ rfl, ?_, ?_, ?_, ?_, ?_⟩
  · have := hx 1 _ rfl; rwa [add_field ad (j * 6) 1 (by omega)] at this
  · have := hx 2 _ rfl; rwa [add_field ad (j * 6) 2 (by omega)] at this
  · have := hx 3 _ rfl; rwa [add_field ad (j * 6) 3 (by omega)] at this
  · have := hx 4 _ rfl; rwa [add_field ad (j * 6) 4 (by omega)] at this
  · have := hx 5 _ rfl; rwa [add_field ad (j * 6) 5 (by omega)] at this
/-- Is a piece not too large? -/
def lightB (name : List ByteArray) (raw : List Int) : Bool := decide (name.length ≤ 200) && decide (raw.length ≤ 20000) && name.all (fun s => decide (s.size ≤ 300))
theorem all_step {l : List ByteArray} {j : Nat} (hj : j < l.length) (h : l.all (fun s => decide (s.size ≤ 300)) = ((l.drop j).all fun s => decide (s.size ≤ 300))) :
    (300 < (rdOf ByteArray.empty l (j : Int)).size → l.all (fun s => decide (s.size ≤ 300)) = false) ∧ ((rdOf ByteArray.empty l (j : Int)).size ≤ 300 → l.all (fun s => decide (s.size ≤ 300)) = ((l.drop (j + 1)).all fun s => decide (s.size ≤ 300))) := by
  rw [List.drop_eq_getElem_cons hj, List.all_cons] at h
  rw [rd_get hj]
  refine ⟨fun hh => ?_, fun hh => ?_⟩
  · rw [h, decide_eq_false (by omega), Bool.false_and]
  · rw [h, decide_eq_true hh, Bool.true_and]
set_option maxHeartbeats 1000000 in
theorem light_calls (An : Option Addr) (cn : Nat) (name : List ByteArray) (sh : Bool) (Ar : Option Addr) (cr : Nat) (raw : List Int) (n s k : Int) (w : World) (hC : Kd.C Kd.string w An name.length name) (hm : raw.length ≤ 9223372036854775807) (hz : ∀ s ∈ name, s.size ≤ 140737488351232) :
    Calls Try.prog 24 #[.agg #[.slice An name.length cn, .bool sh, .slice Ar raw.length cr, .int .i64 n, .int .i64 s, .int .i64 k]] w fun e w' => e = .returned (.bool (lightB name raw)) ∧ Below w.heap.size w w' := by
  have HC := Aside0.mk hC
  have HM := Aside0.mk hm
  have HZ := Aside0.mk hz
  clear hC hm hz
  have HB := Aside0.mk (Below.refl w.heap.size w)
  unfold lightB
  by_cases h1 : name.length ≤ 200
  · have k1 : decide (200 < name.length) = false := decide_eq_false (by omega)
    have k2 : decide ((200 : Int) < name.length) = false := decide_eq_false (by omega)
    have hn := h1
    rw [decide_eq_true h1, Bool.true_and]
    by_cases h2 : raw.length ≤ 20000
    · have k3 : decide (20000 < raw.length) = false := decide_eq_false (by omega)
      have k4 : decide ((20000 : Int) < raw.length) = false := decide_eq_false (by omega)
      rw [decide_eq_true h2, Bool.true_and]
      obtain ⟨r, hr⟩ : ∃ r, (name.all fun s => decide (s.size ≤ 300)) = r := ⟨_, rfl⟩
      rw [hr]
      have HRR := Aside0.mk hr
      clear h1 h2 hr
      go_enter Try.func24, Try.ntmps24
      go_wp2
      go_loop [3] (fun i => ∃ j : Nat, j ≤ name.length ∧ i = .int .i64 j ∧ Aside0 ((name.all fun s => decide (s.size ≤ 300)) = ((name.drop j).all fun s => decide (s.size ≤ 300)))) (fun i => name.length - (intOf i).toNat)
      case atStart => exact ⟨0, Nat.zero_le _, rfl, ⟨by rw [List.drop_zero]⟩⟩
      case round =>
        obtain ⟨j, hj, rfl, HJ⟩ := hrel
        by_cases hlt : j < name.length
        · obtain ⟨ad, rfl, hx⟩ := Kd.at_string HC.out (j : Int) (by omega) (by omega)
          rw [Int.toNat_natCast] at hx
          have hst := all_step hlt HJ.out
          have hz := HZ.out _ (rdOf_mem hlt)
          obtain ⟨s0, hs0⟩ : ∃ s, rdOf ByteArray.empty name (j : Int) = s := ⟨_, rfl⟩
          rw [hs0] at hx hst hz
          have hxa : ∀ o : Obj, (w.alloc o).cell? (ad.add j) = some (.string s0) := fun o => pw_cell_below (below_alloc (Below.refl _ _) o) hx
          have HST := Aside0.mk hst
          clear hs0 hst
          by_cases h3 : 300 < s0.size
          · have k5 := decide_eq_true h3
            have k6 : decide ((300 : Int) < s0.size) = true := decide_eq_true (by omega)
            have HQ := Aside0.mk (HST.out.1 h3)
            clear h3
            go_wp2
            go_ret
            exact ⟨by rw [← HRR.out, HQ.out]; rfl, (by repeat (first | (with_reducible first | exact HB.out | apply below_alloc | apply pw_below_drewN | apply below_drew1) | exact HB.out))⟩
          · have k5 := decide_eq_false h3
            have k6 : decide ((300 : Int) < s0.size) = false := decide_eq_false (by omega)
            have HQ := Aside0.mk (HST.out.2 (by omega))
            clear h3
            go_wp2
            go_round
            case rel => exact ⟨j + 1, by omega, by go_num, ⟨HQ.out⟩⟩
            case measure => simp [intOf] <;> omega
        · have hq := HJ.out
          rw [List.drop_eq_nil_of_le (by omega)] at hq
          have HQ := Aside0.mk hq
          clear hq
          go_wp2
          go_ret
          exact ⟨by rw [← HRR.out, HQ.out]; rfl, (by repeat (first | (with_reducible first | exact HB.out | apply below_alloc | apply pw_below_drewN | apply below_drew1) | exact HB.out))⟩
    · have k3 : decide (20000 < raw.length) = true := decide_eq_true (by omega)
      have k4 : decide ((20000 : Int) < raw.length) = true := decide_eq_true (by omega)
      rw [decide_eq_false h2, Bool.false_and]
      clear h1 h2
      go_enter Try.func24, Try.ntmps24
      go_wp2
      go_ret
      exact ⟨rfl, (by repeat (first | (with_reducible first | exact HB.out | apply below_alloc | apply pw_below_drewN | apply below_drew1) | exact HB.out))⟩
  · have k1 : decide (200 < name.length) = true := decide_eq_true (by omega)
    have k2 : decide ((200 : Int) < name.length) = true := decide_eq_true (by omega)
    rw [decide_eq_false h1, Bool.false_and, Bool.false_and]
    clear h1
    go_enter Try.func24, Try.ntmps24
    go_wp2
    go_ret
    exact ⟨rfl, (by repeat (first | (with_reducible first | exact HB.out | apply below_alloc | apply pw_below_drewN | apply below_drew1) | exact HB.out))⟩
end Go.Proofs.Ytahnncccdlblgaa.G
