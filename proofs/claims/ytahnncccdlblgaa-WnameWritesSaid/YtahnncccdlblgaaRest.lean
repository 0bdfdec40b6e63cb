/- A name's labels as they are written without pointers: wname.rest in closed form. Conditions: few bytes. -/
import Derived.Test.YtahnncccdlblgaaSound
import Derived.Test.YtahnncccdlblgaaGput
import Derived.Below
import Derived.Deep.Draws
import Derived.Deep.AppendLies
import Derived.Maps.AppendAt
import Derived.OwnWalk
import Derived.Laws.BytesArg
import Derived.Laws.MakeOwn
import Derived.Laws.OwnMore
import Derived.Deep.OwnRows
import Derived.Tactics
import Derived.Lib.ConvBytes
import Derived.Laws.Slices
import Derived.WalkKit
import Derived.KernelRfl
import Derived.RowKit3
import Derived.Deep.LoopGhost
import Derived.Deep.QuietTactic
import Derived.BigQuiet
import Derived.WideLaws
import Derived.Deep.DeepCutAuto
import Derived.Deep.CutBlock
import Derived.Deep.RegionHeld3
import Derived.Laws.Rows
import Derived.Lib.AppendStr
import Derived.ArgAppend
import Derived.Laws.IdiomCopy
import Derived.OrdersHeld
import Derived.Laws.BitsLemmas
import Derived.RowKit
namespace Go.Proofs.Ytahnncccdlblgaa.G
open Go.RowKit Go.Proofs.YtahnncccdlblgaaW.PrintWords Go.Proofs.YtahnncccdlblgaaW.PrintLast Go.Proofs.YtahnncccdlblgaaW.PrintMore Go.Proofs.Ytahnncccdlblgaa.Plain
attribute [local go_sem] max2_int min2_int max_two min_two max_three min_three max_four min_four
set_option linter.unusedVariables false
set_option linter.unusedSimpArgs false
/-- A label as it is written. -/
def lab (s : ByteArray) : List Int := ((s.size : Int) % 256) :: bytesOf s
theorem lab_length (s : ByteArray) : (lab s).length = s.size + 1 := by simp [lab, bytesOf_length]
/-- Labels as they are written. -/
def restL (l : List ByteArray) : List Int := l.flatMap lab
theorem restL_snoc (l : List ByteArray) (s : ByteArray) : restL (l ++ [s]) = restL l ++ lab s := by simp [restL]
theorem restL_cons (l : List ByteArray) (s : ByteArray) : restL (s :: l) = lab s ++ restL l := by simp [restL]
theorem restL_append (l m : List ByteArray) : restL (l ++ m) = restL l ++ restL m := by simp [restL]
theorem restL_take (l : List ByteArray) (j : Nat) : (restL (l.take j)).length ≤ (restL l).length := by
  conv => rhs; rw [← List.take_append_drop j l]
  rw [restL_append, List.length_append]; omega
theorem encs_nums (k : IntKind) (xs : List Int) : encs (Value.int k) xs = nums k xs := rfl
set_option maxHeartbeats 1000000 in
theorem wname_rest (A : Option Addr) (c : Nat) (l : List ByteArray) (w : World) (hr : Kd.C Kd.string w A l.length l) (hs : (restL l).length ≤ 1000000) :
    Calls Try.prog 46 #[.slice A l.length c] w fun e w' => e = .returned (.string (strOfNums (restL l))) ∧ Below w.heap.size w w' := by
  have HR := Aside0.mk hr
  have HS := Aside0.mk hs
  have hm := Kd.C_max hr
  clear hr hs
  have HB := Aside0.mk (Below.refl w.heap.size w)
  go_enter Try.func46, Try.ntmps46
  go_wp2
  go_loopw [3, 8] (fun v i wr => ∃ (j : Nat) (A1 : Option Addr) (c1 : Nat), j ≤ l.length ∧ i = .int .i64 j ∧ v = .slice A1 (restL (l.take j)).length c1 ∧ Aside0 (Kd.R (Kd.int .u8) 5 wr w.heap.size (fun _ => True) (.slice A1 (restL (l.take j)).length c1) (restL (l.take j))) ∧ Aside0 (Below w.heap.size w wr)) (fun _ i _ => l.length - (intOf i).toNat)
  case atStart => exact ⟨0, none, 0, Nat.zero_le _, rfl, rfl, ⟨Kd.R_nil _ _ _ _ _⟩, ⟨HB.out⟩⟩
  case round =>
    clear HB
    obtain ⟨j, A1, c1, hj, rfl, rfl, HO, HB⟩ := hrel
    have hlen := restL_take l j
    obtain ⟨xs, hxs⟩ : ∃ xs, restL (l.take j) = xs := ⟨_, rfl⟩
    rw [hxs] at HO hlen ⊢
    have HX := Aside0.mk hxs
    clear hxs
    by_cases hlt : j < l.length
    · have hn := restL_take l (j + 1)
      have hs1 := take_snoc l ByteArray.empty j hlt
      rw [hs1, restL_snoc, HX.out, List.length_append, lab_length] at hn
      obtain ⟨ad, e1, hx⟩ := Kd.at_string (by repeat (first | exact (Kd.C_below HR.out HB.out) | (with_reducible refine Kd.C_alloc ?_ _) | (with_reducible refine Kd.C_drewN ?_ _) | (with_reducible refine Kd.C_drew ?_))) (j : Int) (by omega) (by omega)
      simp only [Int.toNat_natCast] at hx
      have hse : rdOf ByteArray.empty l (j : Int) = l.getD j ByteArray.empty := by simp [rdOf]
      rw [← hse] at hn hs1
      obtain ⟨s, hs⟩ : ∃ s, rdOf ByteArray.empty l (j : Int) = s := ⟨_, rfl⟩
      rw [hs] at hx hn hs1
      have H1 := Aside0.mk hs1
      have HN := Aside0.mk hn
      have hsz : s.size ≤ 1000000 := by have := HS.out; omega
      clear hse hs hs1 hn
      subst e1
      go_wp2_with (first | ((with_reducible refine gate_builtin (b := .append) (xs := #[.tmp 12, .tmp 16]) rfl ?_); at_builtin; refine Kd.R_append (Kd.int .u8) (w0 := w) w.heap.size rfl (.tmp 12) (.tmp 16) 24 5 (.int .u8 0) 1 rfl Try.underlying24 infoB rfl (by decide) (by omega) (.slice A1 xs.length c1) xs ((s.size : Int) % 256) [.int .u8 ((s.size : Int) % 256)] (fun _ => True) (fun _ => False) rfl rfl ?aP (fun _ hk => hk.elim) ?aF ?aO ?aB ?aS ?aL ?_; (case aP => exact rfl); (case aF => exact (fun _ _ => trivial)); (case aO => exact (by first | (with_reducible exact HO.out) | ((with_reducible repeat (first | apply Kd.R_alloc | apply Kd.R_drewN | apply Kd.R_drew)); exact HO.out))); (case aB => exact (by repeat (first | (with_reducible first | exact HB.out | apply below_alloc | apply pw_below_drewN | apply below_drew1) | exact HB.out))); (case aS => exact (below_size (by repeat (first | (with_reducible first | exact HB.out | apply below_alloc | apply pw_below_drewN | apply below_drew1) | exact HB.out)))); (case aL => have := HN.out; have := HS.out; omega); intro v2 w2 ho hb hg _; obtain ⟨y2, hy2⟩ : ∃ y, xs ++ [(s.size : Int) % 256] = y := ⟨_, rfl⟩; rw [hy2] at ho; have HY := Aside0.mk hy2; clear hy2; clear HB HO; have HB := Aside0.mk hb; have HO := Aside0.mk ho; clear ho hb hg; obtain ⟨A2, c2, e2⟩ := Kd.R_slice HO.out; subst e2) | ((with_reducible refine gate_builtin (b := .append) (xs := #[.tmp 18, .tmp 19]) rfl ?_); at_builtin; refine print_append_str (w0 := w) w.heap.size rfl (.tmp 18) (.tmp 19) 24 9 5 rfl Try.underlying24 Try.underlying9 infoB (.slice A2 y2.length c2) y2 s rfl rfl ?aO ?aB ?aS ?aL ?_; (case aO => exact Kd.own_of_R (by first | (with_reducible exact HO.out) | ((with_reducible repeat (first | apply Kd.R_alloc | apply Kd.R_drewN | apply Kd.R_drew)); exact HO.out))); (case aB => exact (by repeat (first | (with_reducible first | exact HB.out | apply below_alloc | apply pw_below_drewN | apply below_drew1) | exact HB.out))); (case aS => exact (below_size (by repeat (first | (with_reducible first | exact HB.out | apply below_alloc | apply pw_below_drewN | apply below_drew1) | exact HB.out)))); (case aL => have := HN.out; have := HS.out; rw [← HY.out]; simp only [List.length_append, List.length_singleton]; omega); intro v3 w3 ho hb hg; obtain ⟨y3, hy3⟩ : ∃ y, y2 ++ bytesOf s = y := ⟨_, rfl⟩; rw [hy3] at ho; have HY3 := Aside0.mk hy3; clear hy3; clear HB HO; have HB := Aside0.mk hb; have HO := Aside0.mk (Kd.R_of_own (enc := Value.int .u8) (h1 := fun _ => rfl) (ok := fun _ => True) ho (fun _ _ => trivial)); clear ho hb hg; obtain ⟨A3, c3, e3⟩ := Kd.R_slice HO.out; subst e3))
      have hxn : restL (l.take (j + 1)) = y3 := by rw [H1.out, restL_snoc, HX.out, lab, ← HY3.out, ← HY.out]; simp
      go_roundw
      case rel => exact ⟨j + 1, A3, c3, by omega, by go_num, by rw [hxn], ⟨by rw [hxn]; exact HO.out⟩, ⟨HB.out⟩⟩
      case measure => simp [intOf]; omega
    · have he : l.take j = l := List.take_of_length_le (by omega)
      rw [he] at HX
      clear he
      have kc := Kd.C_string (P := Try.prog) (c := c1) (src := 24) (dst := 9) Try.underlying24 Try.underlying5 Try.underlying9 (Kd.R_reads' HO.out).2.2
      go_wp2
      go_ret
      exact ⟨by rw [HX.out]; rfl, (by repeat (first | (with_reducible first | exact HB.out | apply below_alloc | apply pw_below_drewN | apply below_drew1) | exact HB.out))⟩
end Go.Proofs.Ytahnncccdlblgaa.G
