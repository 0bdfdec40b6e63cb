/- What num.Put and num.Fits do: the walks of both, in closed form. Conditions: fewer bytes than may be appended to. -/
import Derived.Test.YtahnncccdlblgaaProg
import Derived.Test.YtahnncccdlblgaaWMore
import Derived.Test.YtahnncccdlblgaaPlain
import Derived.Below
import Derived.Deep.Draws
import Derived.Deep.AppendLies
import Derived.Maps.AppendAt
import Derived.OwnWalk
import Derived.Laws.BytesArg
import Derived.Laws.MakeOwn
import Derived.Laws.OwnMore
import Derived.Deep.OwnRows
import Derived.Tactics
import Derived.Lib.ConvBytes
import Derived.Laws.Slices
import Derived.WalkKit
import Derived.KernelRfl
import Derived.RowKit3
import Derived.Deep.LoopGhost
import Derived.Deep.QuietTactic
import Derived.BigQuiet
import Derived.WideLaws
import Derived.Deep.DeepCutAuto
import Derived.Deep.CutBlock
import Derived.Deep.RegionHeld3
import Derived.Laws.Rows
import Derived.Lib.AppendStr
import Derived.ArgAppend
import Derived.Laws.IdiomCopy
import Derived.OrdersHeld
import Derived.Laws.BitsLemmas
import Derived.RowKit
namespace Go.Proofs.Ytahnncccdlblgaa.G
open Go.RowKit Go.Proofs.YtahnncccdlblgaaW.PrintWords Go.Proofs.YtahnncccdlblgaaW.PrintLast Go.Proofs.YtahnncccdlblgaaW.PrintMore Go.Proofs.Ytahnncccdlblgaa.Plain
attribute [local go_sem] max2_int min2_int max_two min_two max_three min_three max_four min_four
set_option linter.unusedVariables false
set_option linter.unusedSimpArgs false

theorem infoB : (Try.prog.info? 5).map (fun i => (i.zero, i.size, i.bytes)) = some (some (.int .u8 0), 1, 1) := by kernel_rfl

theorem infoBs : (Try.prog.info? 5).map (·.size) = some 1 := by kernel_rfl
theorem copied (l : List Int) : l.take (min l.length (List.replicate (l.length : Int).toNat (0 : Int)).length) ++ (List.replicate (l.length : Int).toNat (0 : Int)).drop (min l.length (List.replicate (l.length : Int).toNat (0 : Int)).length) = l := by
  simp

/-- make([]T, n, m). -/
theorem make_cap {P : Program} {ops : Array Oper} {rest : List Oper} {o : Oper} {a : Act} {Q : Exit → Act → World → Prop} {α : Type} (d : Kd α) {w0 W : World} (base e : Nat) (hgd : o.guard = none) {N : Tmp} (hd : o.dst = some N) (t : TypeId) (x y : Operand) (ho : o.op = .makeSlice t x y) (n m : Int) (hx : a.eval x = .int .i64 n) (hy : a.eval y = .int .i64 m)
    (ht : P.underlying t = some (.slice e)) (z : Value) (bytes : Nat) (hinfo : (P.info? e).map (fun i => (i.zero, i.size, i.bytes)) = some (some z, d.sz, bytes)) (hz : z.cells.size = d.sz) (hs0 : 0 < d.sz) (hb0 : 0 < bytes)
    (z0 : α) {ok okp : Nat → Prop} (hzero : d.M W base okp z0 z.cells.toList) (hok : ∀ k, okp k → ok k) (hfresh : ok W.heap.size) (h0 : 0 ≤ n) (hnm : n ≤ m) (hl : m.toNat * bytes ≤ 281474976710656) (HB : Below base w0 W) (hbase : base ≤ W.heap.size)
    (h : ∀ v1 w1, d.R e w1 base ok v1 (List.replicate n.toNat z0) → Below base w0 w1 → W.grownBy w1 none → (∃ b, v1.ownBlock = some b ∧ W.heap.size ≤ b) → wpList P ops Q rest (a.put o.dst v1) w1) : wpList P ops Q (o :: rest) a W := by
  obtain ⟨n, rfl⟩ := Int.eq_ofNat_of_zero_le h0
  obtain ⟨m, rfl⟩ := Int.eq_ofNat_of_zero_le (Int.le_trans h0 hnm)
  simp only [Int.toNat_natCast] at hl h
  obtain ⟨i0, hi, hzz⟩ := Option.map_eq_some_iff.1 hinfo
  simp only [Prod.mk.injEq] at hzz
  obtain ⟨hz0, hz1, hz2⟩ := hzz
  have hm : m ≤ 281474976710656 := Nat.le_trans (Nat.le_mul_of_pos_right _ hb0) hl
  have hr := run_make (P := P) W t e i0 z ht hi hz0 .i64 .i64 (n : Int) (m : Int) (by omega) hnm
    (by
      have h3 : ((i0.bytes * m : Nat) : Int) ≤ 281474976710656 := by rw [hz2, Nat.mul_comm]; omega
      rwa [Int.natCast_mul] at h3) (by omega)
  simp only [Int.toNat_natCast] at hr
  rw [hz1] at hr
  have hrow : d.R e (W.alloc (.cells (madeCells z.cells (m * d.sz)) e)) base ok (.slice (some ⟨W.heap.size, 0, none⟩) m m) (List.replicate m z0) := by
    refine ⟨fun k hk => ?_, (madeCells z.cells (m * d.sz)).toList, ?_, ?_⟩
    · have : W.heap.size = k := by simpa [Value.ownBlock] using hk
      subst this
      exact hfresh
    · have h2 := World.ownsRow_lit (base := base) (e := e) (size := d.sz) W (madeCells z.cells (m * d.sz)) m hbase (by simp [maxLen]; omega) (by rw [size_madeCells])
      simpa using h2
    · refine (Kd.reps_made hz hs0 hzero m).imp_ (fun p c hp => d.M_mono (fun k hk => ⟨hok k hk.1, fun he => ?_⟩) (Kd.M_below (d.M_bound hp) (below_alloc (Below.refl _ _) _)))
      have h3 : k = W.heap.size := by simpa [Value.ownBlock] using he
      have := hk.2.2.1
      omega
  have hrow2 := Kd.R_take hrow (m := n) (by simp; omega)
  rw [List.take_replicate, Nat.min_eq_left (by omega)] at hrow2
  refine Kd.event_run hgd (v := .slice (some ⟨W.heap.size, 0, none⟩) n m) (w1 := W.alloc (.cells (madeCells z.cells (m * d.sz)) e)) ?_ (h _ _ hrow2 (HB.alloc hbase _) (World.grownBy_alloc W _ none) ⟨W.heap.size, by simp [Value.ownBlock], Nat.le_refl _⟩)
  simp [execOp, ho, hx, hy, hr]

/-! ### num.Fits -/
theorem shr_zero {n s : Int} (h1 : 1 ≤ s) (h7 : s ≤ 7) (h0 : 0 ≤ n) : (n / 2 ^ (8 * s).toNat == 0) = fits n s := by
  have e : (8 * s).toNat = 8 * s.toNat := by omega
  rw [e, ← pow256, Bool.eq_iff_iff, beq_iff_eq, fits_iff]
  have hp := pow_pos256 s.toNat
  constructor
  · intro h
    refine ⟨h1, h7, h0, ?_⟩
    have := Int.lt_mul_ediv_self_add (x := n) hp
    rw [h] at this
    simpa using this
  · rintro ⟨_, _, _, h3⟩
    exact Int.ediv_eq_zero_of_lt h0 h3

theorem fits_calls (n s : Int) (w : World) :
    Calls Try.prog 38 #[.int .i64 n, .int .i64 s] w fun e w' => e = .returned (.bool (fits n s)) ∧ Drawn0 w w' := by
  by_cases h1 : 1 ≤ s
  · have b1 : decide (1 ≤ s) = true := decide_eq_true h1
    by_cases h7 : s ≤ 7
    · have b7 : decide (s ≤ 7) = true := decide_eq_true h7
      by_cases h0 : 0 ≤ n
      · have b0 : decide (0 ≤ n) = true := decide_eq_true h0
        have hz := Aside0.mk (shr_zero h1 h7 h0)
        go_enter Try.func38, Try.ntmps38
        go_wp2
        go_ret
        exact ⟨by rw [hz.out]; rfl, by repeat (first | exact Drawn0.refl _ | apply Drawn0.step)⟩
      · have hf : fits n s = false := by rw [Bool.eq_false_iff]; intro h; exact h0 (fits_iff.1 h).2.2.1
        have b0 : decide (0 ≤ n) = false := decide_eq_false h0
        rw [hf]
        clear hf
        go_enter Try.func38, Try.ntmps38
        go_wp2
        go_ret
        exact ⟨rfl, by repeat (first | exact Drawn0.refl _ | apply Drawn0.step)⟩
    · have hf : fits n s = false := by rw [Bool.eq_false_iff]; intro h; exact h7 (fits_iff.1 h).2.1
      have b7 : decide (s ≤ 7) = false := decide_eq_false h7
      rw [hf]
      clear hf
      go_enter Try.func38, Try.ntmps38
      go_wp2
      go_ret
      exact ⟨rfl, by repeat (first | exact Drawn0.refl _ | apply Drawn0.step)⟩
  · have hf : fits n s = false := by rw [Bool.eq_false_iff]; intro h; exact h1 (fits_iff.1 h).1
    have b1 : decide (1 ≤ s) = false := decide_eq_false h1
    rw [hf]
    clear hf
    go_enter Try.func38, Try.ntmps38
    go_wp2
    go_ret
    exact ⟨rfl, by repeat (first | exact Drawn0.refl _ | apply Drawn0.step)⟩

/-! ### num.Put -/
def num_Put.f (l : List Int) (n s : Int) : Option (List Int) := if l.length ≤ 70368744177664 then some (if fits n s = true then l ++ be n s.toNat else l) else none
set_option maxHeartbeats 1000000 in
theorem num_Put.calls (A0 : Option Addr) (c0 : Nat) (l0 : List Int) (a1 a2 : Int) (r : List Int) (w : World) (hr0 : Kd.C (Kd.int .u8) w A0 l0.length l0) (hc0 : l0.length ≤ c0) (h : num_Put.f l0 a1 a2 = some r) :
    Calls Try.prog 40 #[.slice A0 l0.length c0, .int .i64 a1, .int .i64 a2] w fun e w' => ∃ v0_ : Value, e = .returned (v0_) ∧ Kd.R (Kd.int .u8) 5 w' w.heap.size (fun _ => True) v0_ r ∧ Below w.heap.size w w' := by
  have HR0 := Aside0.mk hr0
  clear hr0
  unfold num_Put.f at h
  have hl : l0.length ≤ 70368744177664 := by
    by_cases hl : l0.length ≤ 70368744177664
    · exact hl
    · rw [if_neg hl] at h; cases h
  rw [if_pos hl] at h
  have HB := Aside0.mk (Below.refl w.heap.size w)
  obtain ⟨f, hf⟩ : ∃ f, f = fits a1 a2 := ⟨_, rfl⟩
  rw [← hf] at h
  have HF := Aside0.mk hf
  have Hr := Aside0.mk (Option.some.inj h)
  clear hf h
  have HL := Aside0.mk hl
  have hl2 : (l0.length : Int) ≤ 70368744177664 := by omega
  cases f with
  | false =>
    go_enter Try.func40, Try.ntmps40
    go_wp2_with (first | ((with_reducible refine gate_dst (N := 14) rfl ?_); refine make_cap (Kd.int .u8) (w0 := w) w.heap.size 5 rfl rfl 24 (.tmp 10) (.tmp 13) ?ho (l0.length : Int) ((l0.length : Int) + 7) ?hx ?hy Try.underlying24 (.int .u8 0) 1 infoB rfl (by decide) (by decide) (0 : Int) (ok := fun _ => True) (okp := fun _ => True) rfl (fun _ h => h) trivial (by omega) (by omega) (by omega) ?hB ?hb ?_; (case ho => rfl); (case hx => rfl); (case hy => rfl); (case hB => exact (by repeat (first | (with_reducible first | exact HB.out | apply below_alloc | apply pw_below_drewN | apply below_drew1) | exact HB.out))); (case hb => exact (below_size (by repeat (first | (with_reducible first | exact HB.out | apply below_alloc | apply pw_below_drewN | apply below_drew1) | exact HB.out)))); intro v1 w1 ho hb hg _; clear HB; have HB := Aside0.mk hb; have HO1 := Aside0.mk ho; clear ho hb hg) | ((with_reducible refine gate_dst (N := 17) rfl ?_); refine Kd.R_copy (0 : Int) (w0 := w) w.heap.size rfl (.tmp 15) (.tmp 16) 24 24 5 rfl Try.underlying24 infoBs v1 (List.replicate (l0.length : Int).toNat 0) l0 A0 l0.length c0 (fun _ => True) rfl rfl HO1.out (by repeat (first | exact (Kd.C_below HR0.out HB.out) | (with_reducible refine Kd.C_alloc ?_ _) | (with_reducible refine Kd.C_drewN ?_ _) | (with_reducible refine Kd.C_drew ?_))) HB.out (below_size HB.out) ?_; intro w2 ho hb hg; rw [copied] at ho; clear HB HO1; have HB := Aside0.mk hb; have HO1 := Aside0.mk ho; clear ho hb hg) | (go_at_call 38; (with_reducible refine (fits_calls a1 a2 _).mono ?_); rintro e w' ⟨rfl, ⟨nd, rfl⟩⟩; rw [← HF.out]))
    go_ret
    exact ⟨_, rfl, by have h := Hr.out; simp only [Bool.false_eq_true, if_false] at h; rw [← h]; exact (by (with_reducible repeat (first | apply Kd.R_alloc | apply Kd.R_drewN | apply Kd.R_drew)); exact HO1.out), by repeat (first | (with_reducible first | exact HB.out | apply below_alloc | apply pw_below_drewN | apply below_drew1) | exact HB.out)⟩
  | true =>
    have hfit := fits_iff.1 HF.out.symm
    obtain ⟨hs1, hs7, hn0, hn1⟩ := hfit
    have HN := Aside0.mk hn1
    clear hn1
    go_enter Try.func40, Try.ntmps40
    go_wp2_with (first | ((with_reducible refine gate_dst (N := 14) rfl ?_); refine make_cap (Kd.int .u8) (w0 := w) w.heap.size 5 rfl rfl 24 (.tmp 10) (.tmp 13) ?ho (l0.length : Int) ((l0.length : Int) + 7) ?hx ?hy Try.underlying24 (.int .u8 0) 1 infoB rfl (by decide) (by decide) (0 : Int) (ok := fun _ => True) (okp := fun _ => True) rfl (fun _ h => h) trivial (by omega) (by omega) (by omega) ?hB ?hb ?_; (case ho => rfl); (case hx => rfl); (case hy => rfl); (case hB => exact (by repeat (first | (with_reducible first | exact HB.out | apply below_alloc | apply pw_below_drewN | apply below_drew1) | exact HB.out))); (case hb => exact (below_size (by repeat (first | (with_reducible first | exact HB.out | apply below_alloc | apply pw_below_drewN | apply below_drew1) | exact HB.out)))); intro v1 w1 ho hb hg _; clear HB; have HB := Aside0.mk hb; have HO1 := Aside0.mk ho; clear ho hb hg) | ((with_reducible refine gate_dst (N := 17) rfl ?_); refine Kd.R_copy (0 : Int) (w0 := w) w.heap.size rfl (.tmp 15) (.tmp 16) 24 24 5 rfl Try.underlying24 infoBs v1 (List.replicate (l0.length : Int).toNat 0) l0 A0 l0.length c0 (fun _ => True) rfl rfl HO1.out (by repeat (first | exact (Kd.C_below HR0.out HB.out) | (with_reducible refine Kd.C_alloc ?_ _) | (with_reducible refine Kd.C_drewN ?_ _) | (with_reducible refine Kd.C_drew ?_))) HB.out (below_size HB.out) ?_; intro w2 ho hb hg; rw [copied] at ho; clear HB HO1; have HB := Aside0.mk hb; have HO1 := Aside0.mk ho; clear ho hb hg) | (go_at_call 38; (with_reducible refine (fits_calls a1 a2 _).mono ?_); rintro e w' ⟨rfl, ⟨nd, rfl⟩⟩; rw [← HF.out]))
    go_loopw [7, 8] (fun v k wr => ∃ (m : Int) (xs : List Int), -1 ≤ m ∧ m ≤ 6 ∧ k = .int .i64 m ∧ Aside0 (l0 ++ be a1 a2.toNat = xs ++ be a1 (m + 1).toNat) ∧ Aside0 (xs.length ≤ l0.length + 7) ∧ Aside0 (Kd.R (Kd.int .u8) 5 wr w.heap.size (fun _ => True) v xs) ∧ Aside0 (Below w.heap.size w wr)) (fun _ k _ => (intOf k + 1).toNat)
    case atStart => exact ⟨a2 - 1, l0, by omega, by omega, rfl, ⟨by rw [show a2 - 1 + 1 = a2 by omega]⟩, ⟨by omega⟩, ⟨(by (with_reducible repeat (first | apply Kd.R_alloc | apply Kd.R_drewN | apply Kd.R_drew)); exact HO1.out)⟩, ⟨by repeat (first | (with_reducible first | exact HB.out | apply below_alloc | apply pw_below_drewN | apply below_drew1) | exact HB.out)⟩⟩
    case round =>
      clear HO1 HB
      obtain ⟨m, xs, hm1, hm6, rfl, HE, HX, HO, HB⟩ := hrel
      by_cases hm : 0 ≤ m
      · have hmb : decide (0 ≤ m) = true := decide_eq_true hm
        obtain ⟨q, hq⟩ : ∃ q, a1 / 2 ^ (8 * m).toNat = q := ⟨_, rfl⟩
        go_wp2_with (((with_reducible refine gate_builtin (b := .append) (xs := #[.tmp 29, .tmp 35]) rfl ?_); at_builtin; refine Kd.R_append (Kd.int .u8) (w0 := w) w.heap.size rfl (.tmp 29) (.tmp 35) 24 5 (.int .u8 0) 1 rfl Try.underlying24 infoB rfl (by decide) (by omega) u7 xs (q % 256) [.int .u8 (q % 256)] (fun _ => True) (fun _ => False) rfl rfl ?aP (fun _ hk => hk.elim) ?aF ?aO ?aB ?aS ?aL ?_; (case aP => exact rfl); (case aF => exact (fun _ _ => trivial)); (case aO => exact (by (with_reducible repeat (first | apply Kd.R_alloc | apply Kd.R_drewN | apply Kd.R_drew)); exact HO.out)); (case aB => exact (by repeat (first | (with_reducible first | exact HB.out | apply below_alloc | apply pw_below_drewN | apply below_drew1) | exact HB.out))); (case aS => exact (below_size (by repeat (first | (with_reducible first | exact HB.out | apply below_alloc | apply pw_below_drewN | apply below_drew1) | exact HB.out)))); (case aL => have := HX.out; omega); intro v2 w2 ho hb hg _; clear HB HO; have HB := Aside0.mk hb; have HO := Aside0.mk ho; clear ho hb hg))
        have hb1 : be a1 (m + 1).toNat = (q % 256) :: be a1 m.toNat := by
          rw [show (m + 1).toNat = m.toNat + 1 by omega, be, pow256, show 8 * m.toNat = (8 * m).toNat by omega, hq]
        have hE := HE.out
        rw [hb1] at hE
        have hlen := congrArg List.length hE
        simp only [List.length_append, be_length, List.length_cons] at hlen
        go_roundw
        case rel => exact ⟨m - 1, xs ++ [q % 256], by omega, by omega, rfl, ⟨by rw [hE, show (m - 1 + 1).toNat = m.toNat by omega]; simp⟩, ⟨by simp; omega⟩, ⟨HO.out⟩, ⟨HB.out⟩⟩
        case measure => simp [intOf]; omega
      · have hmb : decide (0 ≤ m) = false := decide_eq_false hm
        go_wp2
        go_ret
        refine ⟨_, rfl, ?_, by repeat (first | (with_reducible first | exact HB.out | apply below_alloc | apply pw_below_drewN | apply below_drew1) | exact HB.out)⟩
        have h := Hr.out
        simp only [if_true] at h
        rw [← h, HE.out, show (m + 1).toNat = 0 by omega, be, List.append_nil]
        exact (by (with_reducible repeat (first | apply Kd.R_alloc | apply Kd.R_drewN | apply Kd.R_drew)); exact HO.out)

end Go.Proofs.Ytahnncccdlblgaa.G
