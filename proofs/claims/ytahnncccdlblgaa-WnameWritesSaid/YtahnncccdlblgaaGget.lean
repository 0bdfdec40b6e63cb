/- What num.Get does: its walk, in closed form. Conditions: the slice's cells are bytes. -/
import Derived.Test.YtahnncccdlblgaaProg
import Derived.Test.YtahnncccdlblgaaWMore
import Derived.Test.YtahnncccdlblgaaPlain
import Derived.Test.YtahnncccdlblgaaGput
import Derived.Below
import Derived.Deep.Draws
import Derived.Deep.AppendLies
import Derived.Maps.AppendAt
import Derived.OwnWalk
import Derived.Laws.BytesArg
import Derived.Laws.MakeOwn
import Derived.Laws.OwnMore
import Derived.Deep.OwnRows
import Derived.Tactics
import Derived.Lib.ConvBytes
import Derived.Laws.Slices
import Derived.WalkKit
import Derived.KernelRfl
import Derived.RowKit3
import Derived.Deep.LoopGhost
import Derived.Deep.QuietTactic
import Derived.BigQuiet
import Derived.WideLaws
import Derived.Deep.DeepCutAuto
import Derived.Deep.CutBlock
import Derived.Deep.RegionHeld3
import Derived.Laws.Rows
import Derived.Lib.AppendStr
import Derived.ArgAppend
import Derived.Laws.IdiomCopy
import Derived.OrdersHeld
import Derived.Laws.BitsLemmas
import Derived.RowKit
namespace Go.Proofs.Ytahnncccdlblgaa.G
open Go.RowKit Go.Proofs.YtahnncccdlblgaaW.PrintWords Go.Proofs.YtahnncccdlblgaaW.PrintLast Go.Proofs.YtahnncccdlblgaaW.PrintMore Go.Proofs.Ytahnncccdlblgaa.Plain
attribute [local go_sem] max2_int min2_int max_two min_two max_three min_three max_four min_four
set_option linter.unusedVariables false
set_option linter.unusedSimpArgs false


def num_Get.f (l : List Int) (p s : Int) : Option (Int × Int) :=
  if bytesB l = true then some (if s < 1 then (0, 1) else if 7 < s then (0, 1) else if p < 0 then (0, 1) else if (l.length : Int) < p then (0, 3) else if (l.length : Int) - p < s then (0, 3) else (val ((l.take (p + s).toNat).drop p.toNat), 0)) else none
theorem or_join (n x : Int) (h0 : 0 ≤ n) (h1 : n < 281474976710656) (h2 : 0 ≤ x) (h3 : x ≤ 255) : bits .or .i64 (n * 256) x = n * 256 + x :=
  bits_join .i64 62 (by decide) (fun m hm0 hm1 => by rw [IntKind.wrap_i64]; omega) 8 (n * 256) x (by omega) (by omega) (by omega) h2 (by omega) (by omega)
set_option maxHeartbeats 1000000 in
theorem num_Get.calls (A0 : Option Addr) (c0 : Nat) (l0 : List Int) (a1 a2 r1 r2 : Int) (w : World) (hr0 : Kd.C (Kd.int .u8) w A0 l0.length l0) (hc0 : l0.length ≤ c0) (h : num_Get.f l0 a1 a2 = some (r1, r2)) :
    Calls Try.prog 41 #[.slice A0 l0.length c0, .int .i64 a1, .int .i64 a2] w fun e w' => e = .returned (.tuple #[.int .i64 r1, .int .i64 r2]) ∧ Drawn0 w w' := by
  have hm := Kd.C_max hr0
  have HR0 := Aside0.mk hr0
  have HC0 := Aside0.mk hc0
  clear hr0 hc0
  unfold num_Get.f at h
  have hb : bytesB l0 = true := by
    cases hb : bytesB l0 with
    | true => rfl
    | false => rw [hb] at h; cases h
  rw [if_pos hb] at h
  have hy := bytesB_iff.1 hb
  clear hb
  have h := Option.some.inj h
  by_cases h1 : a2 < 1
  · rw [if_pos h1] at h
    injection h with e1 e2
    subst e1 e2
    have b1 := decide_eq_true h1
    clear hy
    go_enter Try.func41, Try.ntmps41
    go_wp2
    go_ret2
    exact ⟨rfl, by repeat (first | exact Drawn0.refl _ | apply Drawn0.step)⟩
  rw [if_neg h1] at h
  have b1 := decide_eq_false h1
  by_cases h2 : 7 < a2
  · rw [if_pos h2] at h
    injection h with e1 e2
    subst e1 e2
    have b2 := decide_eq_true h2
    clear hy
    go_enter Try.func41, Try.ntmps41
    go_wp2
    go_ret2
    exact ⟨rfl, by repeat (first | exact Drawn0.refl _ | apply Drawn0.step)⟩
  rw [if_neg h2] at h
  have b2 := decide_eq_false h2
  by_cases h3 : a1 < 0
  · rw [if_pos h3] at h
    injection h with e1 e2
    subst e1 e2
    have b3 := decide_eq_true h3
    clear hy
    go_enter Try.func41, Try.ntmps41
    go_wp2
    go_ret2
    exact ⟨rfl, by repeat (first | exact Drawn0.refl _ | apply Drawn0.step)⟩
  rw [if_neg h3] at h
  have b3 := decide_eq_false h3
  by_cases h4 : (l0.length : Int) < a1
  · rw [if_pos h4] at h
    injection h with e1 e2
    subst e1 e2
    have b4 := decide_eq_true h4
    clear hy
    go_enter Try.func41, Try.ntmps41
    go_wp2
    go_ret2
    exact ⟨rfl, by repeat (first | exact Drawn0.refl _ | apply Drawn0.step)⟩
  rw [if_neg h4] at h
  have b4 := decide_eq_false h4
  by_cases h5 : (l0.length : Int) - a1 < a2
  · rw [if_pos h5] at h
    injection h with e1 e2
    subst e1 e2
    have b5 := decide_eq_true h5
    clear hy
    go_enter Try.func41, Try.ntmps41
    go_wp2
    go_ret2
    exact ⟨rfl, by repeat (first | exact Drawn0.refl _ | apply Drawn0.step)⟩
  rw [if_neg h5] at h
  have b5 := decide_eq_false h5
  injection h with e1 e2
  subst e1 e2
  have g1 : 1 ≤ a2 := by omega
  have g2 : a2 ≤ 7 := by omega
  have g3 : 0 ≤ a1 := by omega
  have g4 : a1 ≤ (l0.length : Int) := by omega
  have g5 : a1 + a2 ≤ (l0.length : Int) := by omega
  clear h1 h2 h3 h4 h5
  obtain ⟨i013, hi013, _, hsz13, _⟩ := info_parts infoB
  obtain ⟨A13, hcut13, hA13, hC13⟩ := print_mid_of (P := Try.prog) (Value.int .u8) 0 24 5 .i64 .i64 Try.underlying24 hi013 hsz13 A0 c0 l0 a1 (a1 + a2) g3 (by omega) g5 HC0.out
  have HR := Aside0.mk (hA13 _ (Kd.reads_of_C (h1 := fun _ => rfl) HR0.out))
  have hlen : ((l0.take (a1 + a2).toNat).drop a1.toNat).length = a2.toNat := by
    rw [List.length_drop, List.length_take]; omega
  have hyy : ∀ x ∈ (l0.take (a1 + a2).toNat).drop a1.toNat, 0 ≤ x ∧ x ≤ 255 := fun x hx => hy x (List.mem_of_mem_take (List.mem_of_mem_drop hx))
  clear hA13 hC13 hi013 hsz13 hy
  generalize (l0.take (a1 + a2).toNat).drop a1.toNat = ys at *
  have HY := Aside0.mk hyy
  have HLY := Aside0.mk hlen
  have hl7 : ys.length ≤ 7 := by omega
  clear hyy hlen
  go_enter Try.func41, Try.ntmps41
  go_wp2
  go_loop [8, 42] (fun v i => ∃ (j : Nat) (n : Int), j ≤ ys.length ∧ v = .int .i64 n ∧ i = .int .i64 j ∧ Aside0 (n = val (ys.take j))) (fun _ i => ys.length - (intOf i).toNat)
  case atStart => exact ⟨0, 0, Nat.zero_le _, rfl, rfl, ⟨rfl⟩⟩
  case round =>
    obtain ⟨j, n, hj, rfl, rfl, HN⟩ := hrel
    have hbd := val_bd (ys.take j) (fun x hx => HY.out x (List.mem_of_mem_take hx))
    rw [← HN.out] at hbd
    by_cases hlt : j < ys.length
    · have hpow : (256 : Int) ^ (ys.take j).length ≤ 256 ^ 6 := by
        exact pow256_le (by rw [List.length_take]; omega)
      have hn0 : 0 ≤ n := hbd.1
      have hn1 : n < 281474976710656 := by have := hbd.2; omega
      clear hbd hpow
      obtain ⟨ad, rfl, hx⟩ := Kd.at_int (Kd.C_of_reads (h1 := fun _ => rfl) HR.out) (j : Int) (by omega) (by omega)
      have hxb : 0 ≤ rd ys j ∧ rd ys j ≤ 255 := by
        have := HY.out (ys.getD j 0) (by simp [List.getD_eq_getElem?_getD, hlt])
        simpa [rd] using this
      obtain ⟨x, hxx⟩ : ∃ x, rd ys j = x := ⟨_, rfl⟩
      rw [hxx] at hx hxb
      have HX := Aside0.mk hxx
      clear hxx
      simp only [Int.toNat_natCast] at hx
      obtain ⟨x0, x1⟩ := hxb
      have hor := or_join n x hn0 hn1 x0 x1
      go_wp2
      go_round
      case rel => exact ⟨j + 1, n * 256 + x, by omega, rfl, by go_num, ⟨by rw [take_snoc ys 0 j hlt, val_snoc, ← HN.out, ← HX.out]; rfl⟩⟩
      case measure => simp [intOf]; omega
    · clear hbd
      obtain rfl : j = ys.length := by omega
      clear hlt hj
      go_wp2
      go_ret2
      refine ⟨?_, by repeat (first | exact Drawn0.refl _ | apply Drawn0.step)⟩
      rw [HN.out, List.take_of_length_le (by omega)]
      rfl

end Go.Proofs.Ytahnncccdlblgaa.G
