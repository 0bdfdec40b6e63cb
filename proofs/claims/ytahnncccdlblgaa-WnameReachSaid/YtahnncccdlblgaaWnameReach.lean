/- What stands 16384 bytes from the beginning on is not led to, what stands ahead of it is: the walk. Conditions: none. -/
import Derived.Test.YtahnncccdlblgaaPureName
import Derived.Test.YtahnncccdlblgaaName
import Derived.Test.YtahnncccdlblgaaRefN
import Derived.Test.YtahnncccdlblgaaOpen
import Derived.Below
import Derived.Deep.Draws
import Derived.Deep.AppendLies
import Derived.Maps.AppendAt
import Derived.OwnWalk
import Derived.Laws.BytesArg
import Derived.Laws.MakeOwn
import Derived.Laws.OwnMore
import Derived.Deep.OwnRows
import Derived.Tactics
import Derived.Lib.ConvBytes
import Derived.Laws.Slices
import Derived.WalkKit
import Derived.KernelRfl
import Derived.RowKit3
import Derived.Deep.LoopGhost
import Derived.Deep.QuietTactic
import Derived.BigQuiet
import Derived.WideLaws
import Derived.Deep.DeepCutAuto
import Derived.Deep.CutBlock
import Derived.Deep.RegionHeld3
import Derived.Laws.Rows
import Derived.Lib.AppendStr
import Derived.ArgAppend
import Derived.Laws.IdiomCopy
import Derived.OrdersHeld
import Derived.Laws.BitsLemmas
import Derived.RowKit
namespace Go.Proofs.Ytahnncccdlblgaa.WnameReach
open Go.Proofs.Ytahnncccdlblgaa.G
open Go.RowKit Go.Proofs.YtahnncccdlblgaaW.PrintWords Go.Proofs.YtahnncccdlblgaaW.PrintLast Go.Proofs.YtahnncccdlblgaaW.PrintMore Go.Proofs.Ytahnncccdlblgaa.Plain
attribute [local go_sem] max2_int min2_int max_two min_two max_three min_three max_four min_four
set_option linter.unusedVariables false
set_option linter.unusedSimpArgs false
theorem wf16 {n : Int} (h : (Lit.int .u16 n).wf = true) : 0 ≤ n ∧ n ≤ 65535 := by
  simp [Lit.wf, IntKind.min, IntKind.max, IntKind.signed, IntKind.bits] at h; omega
theorem opens_names {H : Type} {enc : TypeId × Value → H} {w : World} {base : Nat} {spare : Nat → Bool} {held : Bool} : Open.Opens enc Try.prog w base spare held 34 (Kd.slice 9 Kd.string) (fun xs => xs.length * 16 ≤ 140737488351232 ∧ ∀ x ∈ xs, x.size ≤ 140737488351232) :=
  Open.opens_slice Try.underlying34 (by kernel_rfl) (by kernel_rfl) (Open.opens_string Try.underlying9)
theorem ref_Size_quiet (A : Option Addr) (c : Nat) (l : List ByteArray) (w : World) (n : Nat) (hr : Kd.C Kd.string w A l.length l) (hc : l.length ≤ c) (hs : ∀ s ∈ l, s.size ≤ 63) (hl : l.length ≤ 255) {z : Int} (hz : sizeL l = z) :
    Calls Try.prog 34 #[.slice A l.length c] (w.drewN n) fun e w'' => e = .returned (.int .i64 z) ∧ ∃ m, w'' = w.drewN m := by
  subst hz
  exact Calls.quiet_of ((ref_Size A c l (w.drewN n) (Kd.C_drewN hr n) hc hs hl).mono (fun e w' ⟨h, hd⟩ => ⟨h, by obtain ⟨m, hm⟩ := hd; exact ⟨m, hm⟩⟩))
set_option maxRecDepth 100000 in
set_option maxHeartbeats 1000000 in
theorem none_ (w : World) (A : Option Addr) (c : Nat) (l0 : List ByteArray) (hC : Kd.C Kd.string w A l0.length l0) (hc : l0.length ≤ c) (a1 : Int) (hno : soundB l0 = false ∨ l0 = []) :
    Calls Try.prog 11 #[.slice A l0.length c, .int .u16 a1] w fun e w' => e = .returned (.bool true) ∧ Below w.heap.size w w' := by
  have HB := Aside0.mk (Below.refl w.heap.size w)
  have HC := Aside0.mk hC
  have HCC := Aside0.mk hc
  clear hC hc
  cases hs : soundB l0 with
  | false =>
    have HSO := Aside0.mk hs
    clear hs hno
    go_enter Try.func11, Try.ntmps11
    go_wp2_with (first | (go_at_call 23; (with_reducible refine (wname_New_WN _).mono ?_); rintro e w1 ⟨rfl, hb, F, hw, hF⟩; have HW := Aside0.mk hw; have n0_ := Aside0.mk (below_step (by repeat (first | (with_reducible first | exact HB.out | apply below_alloc | apply pw_below_drewN | apply below_drew1) | exact HB.out)) hb); clear HB; have HB := n0_; clear n0_ hw hF hb) | (go_at_call 17; (with_reducible refine (HWnameLoops.gazetteerlaw03_answers.calls 4 true _ Pure.answers4).mono ?_); rintro e w2 ⟨rfl, hb⟩; have n0_ := Aside0.mk (below_step (by repeat (first | (with_reducible first | exact HB.out | apply below_alloc | apply pw_below_drewN | apply below_drew1) | exact HB.out)) hb); have n1_ := Aside0.mk (WN.below (by first | (with_reducible exact HW.out) | ((with_reducible repeat (first | apply WN.alloc | apply WN.drewN | apply WN.drew)); exact HW.out)) hb); clear HB HW; have HB := n0_; have HW := n1_; clear n0_ n1_ hb) | (go_at_call 30; (with_reducible refine (ref_Sound _ _ l0 _ ?s1 ?s2).mono ?_); (case s1 => exact (by repeat (first | exact (Kd.C_below HC.out HB.out) | (with_reducible refine Kd.C_alloc ?_ _) | (with_reducible refine Kd.C_drewN ?_ _) | (with_reducible refine Kd.C_drew ?_)))); (case s2 => exact HCC.out); rintro e w' ⟨rfl, ⟨nd, rfl⟩⟩; rw [HSO.out]))
    go_ret
    exact ⟨rfl, (by repeat (first | (with_reducible first | exact HB.out | apply below_alloc | apply pw_below_drewN | apply below_drew1) | exact HB.out))⟩
  | true =>
    have h0 : l0 = [] := by
      rcases hno with h | h
      · rw [hs] at h; cases h
      · exact h
    subst h0
    have HSO := Aside0.mk hs
    clear hs hno
    have HS0 := Aside0.mk (show ∀ W : World, Kd.C Kd.string W A 0 [] → Calls Try.prog 30 #[.slice A 0 c] W fun e w' => e = .returned (.bool true) ∧ Drawn0 W w' from fun W hW => by
      have h := ref_Sound A c [] W hW (Nat.zero_le _)
      rw [HSO.out] at h
      exact h)
    have HC := Aside0.mk (show Kd.C Kd.string w A 0 [] from HC.out)
    go_enter Try.func11, Try.ntmps11
    go_wp2_with (first | (go_at_call 23; (with_reducible refine (wname_New_WN _).mono ?_); rintro e w1 ⟨rfl, hb, F, hw, hF⟩; have HW := Aside0.mk hw; have n0_ := Aside0.mk (below_step (by repeat (first | (with_reducible first | exact HB.out | apply below_alloc | apply pw_below_drewN | apply below_drew1) | exact HB.out)) hb); clear HB; have HB := n0_; clear n0_ hw hF hb) | (go_at_call 17; (with_reducible refine (HWnameLoops.gazetteerlaw03_answers.calls 4 true _ Pure.answers4).mono ?_); rintro e w2 ⟨rfl, hb⟩; have n0_ := Aside0.mk (below_step (by repeat (first | (with_reducible first | exact HB.out | apply below_alloc | apply pw_below_drewN | apply below_drew1) | exact HB.out)) hb); have n1_ := Aside0.mk (WN.below (by first | (with_reducible exact HW.out) | ((with_reducible repeat (first | apply WN.alloc | apply WN.drewN | apply WN.drew)); exact HW.out)) hb); clear HB HW; have HB := n0_; have HW := n1_; clear n0_ n1_ hb) | (go_at_call 30; (with_reducible refine (HS0.out _ ?s1).mono ?_); (case s1 => exact (by repeat (first | exact (Kd.C_below HC.out HB.out) | (with_reducible refine Kd.C_alloc ?_ _) | (with_reducible refine Kd.C_drewN ?_ _) | (with_reducible refine Kd.C_drew ?_)))); rintro e w' ⟨rfl, ⟨nd, rfl⟩⟩))
    go_ret
    exact ⟨rfl, (by repeat (first | (with_reducible first | exact HB.out | apply below_alloc | apply pw_below_drewN | apply below_drew1) | exact HB.out))⟩
/-- The Writer holds ys, where k zeros stand first. -/
def Kst (w : World) (v : Value) (wc : World) : Prop := ∃ (k : Nat) (F : Nat → Prop), v = .int .i64 (k : Int) ∧ 16370 ≤ k ∧ k ≤ 16399 ∧ Aside0 (Below w.heap.size w wc) ∧ Aside0 (WN wc w.heap.size F (w.heap.size + 1) [] (fun _ => none))
/-- Behind both names: how many bytes each took, and what the Writer holds. -/
def Two (w : World) (l0 : List ByteArray) (k : Nat) (one two : Value) (wc : World) : Prop := ∃ (F : Nat → Prop) (Y : List Int) (M : PMap) (d : Int), one = .int .i64 (sizeL l0) ∧ two = .int .i64 d ∧ (k < 16384 → d = 2) ∧ (16384 ≤ k → d = sizeL l0) ∧ Y.length ≤ 20000 ∧
  WB Y (k + (sizeL l0).toNat) (k + (sizeL l0).toNat) l0 Y.length ∧ bytesB Y = true ∧ Aside0 (Below w.heap.size w wc) ∧ Aside0 (WN wc w.heap.size F (w.heap.size + 1) Y M)
theorem plain (s : ByteArray) (l : List ByteArray) (hs : labOk (s :: l)) (hr : (restL (s :: l)).length ≤ 254) (k : Nat) (hk : k ≤ 16399) :
    ∃ Y1 M1 Y2 M2, nameR true (s :: l) (List.replicate k 0) (fun _ => none) = (Y1, M1) ∧ nameR true (s :: l) Y1 M1 = (Y2, M2) ∧ (Y1.length : Int) = k + sizeL (s :: l) ∧
      (k < 16384 → (Y2.length : Int) = k + sizeL (s :: l) + 2) ∧ (16384 ≤ k → (Y2.length : Int) = k + sizeL (s :: l) + sizeL (s :: l)) ∧ WB Y2 Y1.length Y1.length (s :: l) Y2.length ∧ bytesB Y2 = true := by
  obtain ⟨f1, f2, f3⟩ := nameR_first s l (List.replicate k 0)
  obtain ⟨H1, ⟨t1, ht1, _, _, hb1⟩, _⟩ := nameR_holds true (List.replicate k 0) (fun _ => none) (holds_none _) (s :: l) hs
  rw [List.length_replicate] at f2 f3
  obtain ⟨R1, hR1⟩ : ∃ R, nameR true (s :: l) (List.replicate k 0) (fun _ => none) = R := ⟨_, rfl⟩
  rw [hR1] at f1 f2 f3 H1 ht1 ⊢
  have hb0 : bytesB (List.replicate k (0 : Int)) = true := bytesB_iff.2 (fun x hx => by rw [(List.mem_replicate.1 hx).2]; omega)
  have hB1 : bytesB R1.1 = true := by rw [ht1]; exact hb1 hb0
  have hl1 : (R1.1.length : Int) = k + sizeL (s :: l) := by rw [f1, sizeL_rest]; simp; omega
  obtain ⟨_, ⟨t2, ht2, _, _, hb2⟩, hw2⟩ := nameR_holds true R1.1 R1.2 H1 (s :: l) hs
  obtain ⟨R2, hR2⟩ : ∃ R, nameR true (s :: l) R1.1 R1.2 = R := ⟨_, rfl⟩
  rw [hR2] at ht2 hw2
  refine ⟨R1.1, R1.2, R2.1, R2.2, rfl, hR2, hl1, fun hk1 => ?_, fun hk1 => ?_, hw2, by rw [ht2]; exact hb2 hB1⟩
  · have : R2 = (R1.1 ++ be (49152 + (k : Int)) 2, R1.2) := by rw [← hR2]; simp only [nameR, f2 hk1, if_true]
    rw [this]
    simp only [List.length_append, be_length]
    omega
  · have := (nameR_first s l R1.1).1
    rw [← f3 hk1, hR2] at this
    rw [this]
    simp only [List.length_append, List.length_singleton]
    rw [sizeL_rest] at hl1 ⊢
    omega
set_option maxRecDepth 100000 in
set_option maxHeartbeats 2000000 in
theorem some_ (w : World) (A : Option Addr) (c : Nat) (l0 : List ByteArray) (hC : Kd.C Kd.string w A l0.length l0) (hc : l0.length ≤ c) (a1 : Int) (ha0 : 0 ≤ a1) (ha1 : a1 ≤ 65535) (hso : soundB l0 = true) (hne : l0 ≠ []) :
    Calls Try.prog 11 #[.slice A l0.length c, .int .u16 a1] w fun e w' => e = .returned (.bool true) ∧ Below w.heap.size w w' := by
  have HB := Aside0.mk (Below.refl w.heap.size w)
  have HC := Aside0.mk hC
  have HCC := Aside0.mk hc
  have HSO := Aside0.mk hso
  obtain ⟨hl255, hlab, hrest⟩ := sound_iff.1 hso
  have HLEN := Aside0.mk hl255
  have HLAB := Aside0.mk hlab
  have HREST := Aside0.mk hrest
  have hsz := sizeL_rest l0
  have HSZ := Aside0.mk hsz
  have HNE := Aside0.mk hne
  have k0 : ((l0.length : Int) == 0) = false := by
    cases l0 with
    | nil => exact absurd rfl hne
    | cons x l => rw [beq_eq_false_iff_ne]; simp only [List.length_cons]; omega
  have k0n : (l0.length == 0) = false := by
    cases l0 with
    | nil => exact absurd rfl hne
    | cons x l => rfl
  clear hC hc hso hlab hrest hsz hl255
  go_enter Try.func11, Try.ntmps11
  go_upto_region 4 with (first | (go_at_call 23; (with_reducible refine (wname_New_WN _).mono ?_); rintro e w1 ⟨rfl, hb, F, hw, hF⟩; have HW := Aside0.mk hw; have n0_ := Aside0.mk (below_step (by repeat (first | (with_reducible first | exact HB.out | apply below_alloc | apply pw_below_drewN | apply below_drew1) | exact HB.out)) hb); clear HB; have HB := n0_; clear n0_ hw hF hb) | (go_at_call 17; (with_reducible refine (HWnameLoops.gazetteerlaw03_answers.calls 4 true _ Pure.answers4).mono ?_); rintro e w2 ⟨rfl, hb⟩; have n0_ := Aside0.mk (below_step (by repeat (first | (with_reducible first | exact HB.out | apply below_alloc | apply pw_below_drewN | apply below_drew1) | exact HB.out)) hb); have n1_ := Aside0.mk (WN.below (by first | (with_reducible exact HW.out) | ((with_reducible repeat (first | apply WN.alloc | apply WN.drewN | apply WN.drew)); exact HW.out)) hb); clear HB HW; have HB := n0_; have HW := n1_; clear n0_ n1_ hb) | (go_at_call 30; (with_reducible refine (ref_Sound _ _ l0 _ ?s1 ?s2).mono ?_); (case s1 => exact (by repeat (first | exact (Kd.C_below HC.out HB.out) | (with_reducible refine Kd.C_alloc ?_ _) | (with_reducible refine Kd.C_drewN ?_ _) | (with_reducible refine Kd.C_drew ?_)))); (case s2 => exact HCC.out); rintro e w' ⟨rfl, ⟨nd, rfl⟩⟩; rw [HSO.out]))
  go_cut [6] (fun v wc => Kst w v wc)
  case first =>
    have h30 : a1 % 30 < 30 := by omega
    have h31 : 0 ≤ a1 % 30 := by omega
    go_wp2
    go_meet
    case rel => exact ⟨(16370 + a1 % 30).toNat, F, by rw [Int.toNat_of_nonneg (by omega)], by omega, by omega, ⟨(by repeat (first | (with_reducible first | exact HB.out | apply below_alloc | apply pw_below_drewN | apply below_drew1) | exact HB.out))⟩, ⟨(by first | (with_reducible exact HW.out) | ((with_reducible repeat (first | apply WN.alloc | apply WN.drewN | apply WN.drew)); exact HW.out))⟩⟩
  case rest =>
    clear HB HW k0 k0n
    obtain ⟨k, F, rfl, hk0, hk1, HB, HW⟩ := hcut
    obtain ⟨Y1, M1, Y2, M2, hY1, hY2, hl1, hl2, hl3, hwb, hby⟩ : ∃ Y1 M1 Y2 M2, nameR true l0 (List.replicate k 0) (fun _ => none) = (Y1, M1) ∧ nameR true l0 Y1 M1 = (Y2, M2) ∧ (Y1.length : Int) = k + sizeL l0 ∧
      (k < 16384 → (Y2.length : Int) = k + sizeL l0 + 2) ∧ (16384 ≤ k → (Y2.length : Int) = k + sizeL l0 + sizeL l0) ∧ WB Y2 Y1.length Y1.length l0 Y2.length ∧ bytesB Y2 = true := by
      have h := HNE.out
      have h2 := HLAB.out
      have h3 := HREST.out
      cases l0 with
      | nil => exact absurd rfl h
      | cons s l => exact plain s l h2 h3 k hk1
    have HRST := HREST.out
    have hsz := HSZ.out
    obtain ⟨sz, hsze⟩ : ∃ sz, sizeL l0 = sz := ⟨_, rfl⟩
    rw [hsze] at hl1 hl2 hl3 hsz
    have hs0 : 1 ≤ sz := by omega
    have hs1 : sz ≤ 255 := by omega
    obtain ⟨d, hd0, hd1, hd2, hdl⟩ : ∃ d : Int, (0 ≤ d ∧ d ≤ 255) ∧ (k < 16384 → d = 2) ∧ (16384 ≤ k → d = sz) ∧ (Y2.length : Int) = k + sz + d := by
      by_cases h : k < 16384
      · exact ⟨2, by omega, fun _ => rfl, fun h2 => by omega, hl2 h⟩
      · exact ⟨sz, by omega, fun h2 => by omega, fun _ => rfl, hl3 (by omega)⟩
    obtain ⟨Z, hZ⟩ : ∃ Z, List.replicate k (0 : Int) = Z := ⟨_, rfl⟩
    have HZB := Aside0.mk (show Z.length ≤ 1000000000 by rw [← hZ, List.length_replicate]; omega)
    rw [hZ] at hY1
    have HZE := Aside0.mk hZ
    have HY1 := Aside0.mk hY1
    have HY2 := Aside0.mk hY2
    have HL1 := Aside0.mk hl1
    have HL2 := Aside0.mk hdl
    have HD1 := Aside0.mk hd1
    have HD2 := Aside0.mk hd2
    have HWB := Aside0.mk hwb
    have HBY := Aside0.mk hby
    have HSE := Aside0.mk hsze
    have HY1B := Aside0.mk (show Y1.length ≤ 1000000000 by omega)
    have HY2B := Aside0.mk (show Y2.length ≤ 1000000 by omega)
    obtain ⟨hd00, hd01⟩ := hd0
    clear hZ hY1 hY2 hl1 hl2 hl3 hwb hby hd1 hd2 hdl hsz hsze HRST
    go_upto_region 6 with (first | ((with_reducible refine gate_dst (N := 43) rfl ?_); refine Kd.R_make (w0 := w) (Kd.int .u8) w.heap.size 5 ?hg43 (N := 43) ?hd43 24 (.tmp 42) (.tmp 42) ?ho43 (k : Int) ?hx43 ?hy43 Try.underlying24 (.int .u8 0) 1 infoB rfl (by decide) (by decide) (0 : Int) (ok := fun k => ¬ F k) (okp := fun _ => False) rfl (fun _ h => h.elim) ?hf43 (by omega) (by omega) ?hB43 ?hS43 ?_; (case hd43 => rfl); (case hg43 => rfl); (case ho43 => rfl); (case hx43 => rfl); (case hy43 => rfl); (case hf43 => exact WN.lt (by first | (with_reducible exact HW.out) | ((with_reducible repeat (first | apply WN.alloc | apply WN.drewN | apply WN.drew)); exact HW.out)) (Nat.le_refl _)); (case hB43 => exact (by repeat (first | (with_reducible first | exact HB.out | apply below_alloc | apply pw_below_drewN | apply below_drew1) | exact HB.out))); (case hS43 => exact (below_size (by repeat (first | (with_reducible first | exact HB.out | apply below_alloc | apply pw_below_drewN | apply below_drew1) | exact HB.out)))); intro v43 w43 ho hb hg3 hat; rw [Int.toNat_natCast, HZE.out] at ho; have HO := Aside0.mk ho; have n1_ := Aside0.mk (WN.grown (by first | (with_reducible exact HW.out) | ((with_reducible repeat (first | apply WN.alloc | apply WN.drewN | apply WN.drew)); exact HW.out)) hg3 (fun k hk => by cases hk)); clear HW HB; have HW := n1_; have HB := Aside0.mk hb; clear n1_ ho hb hg3 hat; obtain ⟨A43, c43, e43⟩ := Kd.R_slice HO.out; subst e43) | (go_at_call 25; (with_reducible refine (wn_Raw _ _ F [] (fun _ => none) A43 c43 Z _ (by first | (with_reducible exact HW.out) | ((with_reducible repeat (first | apply WN.alloc | apply WN.drewN | apply WN.drew)); exact HW.out)) ?r1 ?r2).mono ?_); (case r1 => exact (Kd.R_reads' (by first | (with_reducible exact HO.out) | ((with_reducible repeat (first | apply Kd.R_alloc | apply Kd.R_drewN | apply Kd.R_drew)); exact HO.out))).2.2); (case r2 => have := HZB.out; rw [List.length_nil]; omega); rintro e w44 ⟨rfl, F44, hw, hu, hF⟩; rw [List.nil_append] at hw; have n0_ := Aside0.mk (WN.after (by first | (with_reducible exact HW.out) | ((with_reducible repeat (first | apply WN.alloc | apply WN.drewN | apply WN.drew)); exact HW.out)) hu (by repeat (first | (with_reducible first | exact HB.out | apply below_alloc | apply pw_below_drewN | apply below_drew1) | exact HB.out))); clear HB HW HO; have HB := n0_; have HW := Aside0.mk hw; clear n0_ hw hu hF))
    go_upto_region 8 with (first | ((with_reducible refine gate_dst (N := 46) rfl ?_); refine Kd.R_lit (w0 := w) Kd.string w.heap.size 9 ?hg46 (N := 46) ?hd46 (xs := ([] : List ByteArray)) (inner := []) (ok := fun k => ¬ F44 k) (okp := fun _ => False) ?hr46 ?hp46 (fun _ hk => hk.elim) ?hf46 ?hB46 ?hS46 (Nat.zero_le _) ?_; (case hd46 => rfl); (case hg46 => rfl); (case hr46 => exact lit_str rfl); (case hp46 => exact (Reps.none _ _)); (case hf46 => exact WN.lt (by first | (with_reducible exact HW.out) | ((with_reducible repeat (first | apply WN.alloc | apply WN.drewN | apply WN.drew)); exact HW.out)) (Nat.le_refl _)); (case hB46 => exact (by repeat (first | (with_reducible first | exact HB.out | apply below_alloc | apply pw_below_drewN | apply below_drew1) | exact HB.out))); (case hS46 => exact (below_size (by repeat (first | (with_reducible first | exact HB.out | apply below_alloc | apply pw_below_drewN | apply below_drew1) | exact HB.out)))); intro v46 w46 ho hb hg3 hat; have HO := Aside0.mk ho; have n1_ := Aside0.mk (WN.grown (by first | (with_reducible exact HW.out) | ((with_reducible repeat (first | apply WN.alloc | apply WN.drewN | apply WN.drew)); exact HW.out)) hg3 (fun k hk => by cases hk)); clear HW HB; have HW := n1_; have HB := Aside0.mk hb; clear n1_ ho hb hg3 hat) | ((with_reducible refine gate_builtin (b := .append) (xs := #[.tmp 46, .tmp 47]) rfl ?_); at_builtin; refine Kd.R_append_rows Kd.string (w0 := w) w.heap.size rfl (.tmp 46) (.tmp 47) 34 9 (.string ByteArray.empty) 16 rfl Try.underlying34 infoS rfl (by decide) (by omega) v46 [] l0 _ _ _ (fun k => ¬ F44 k) (fun _ => False) rfl rfl ?aO46 ?aR46 (fun _ _ h => h) (fun _ h => h.elim) ?aF46 ?aB46 ?aS46 ?aL46 ?_; (case aR46 => exact (by repeat (first | exact (Kd.C_below HC.out HB.out) | (with_reducible refine Kd.C_alloc ?_ _) | (with_reducible refine Kd.C_drewN ?_ _) | (with_reducible refine Kd.C_drew ?_)))); (case aF46 => exact (fun k hk => WN.lt (by first | (with_reducible exact HW.out) | ((with_reducible repeat (first | apply WN.alloc | apply WN.drewN | apply WN.drew)); exact HW.out)) hk)); (case aB46 => exact (by repeat (first | (with_reducible first | exact HB.out | apply below_alloc | apply pw_below_drewN | apply below_drew1) | exact HB.out))); (case aO46 => exact (by first | (with_reducible exact HO.out) | ((with_reducible repeat (first | apply Kd.R_alloc | apply Kd.R_drewN | apply Kd.R_drew)); exact HO.out))); (case aS46 => exact (below_size (by repeat (first | (with_reducible first | exact HB.out | apply below_alloc | apply pw_below_drewN | apply below_drew1) | exact HB.out)))); (case aL46 => have := HLEN.out; simp; omega); intro v48 w48 ho hb hg hat; rw [List.nil_append] at ho; have n1_ := Aside0.mk (WN.grown (by first | (with_reducible exact HW.out) | ((with_reducible repeat (first | apply WN.alloc | apply WN.drewN | apply WN.drew)); exact HW.out)) hg (fun k hk => HO.out.1 k hk)); clear HB HO HW; have HB := Aside0.mk hb; have HW := n1_; have HO := Aside0.mk ho; clear n1_ ho hb hg hat; obtain ⟨A48, c48, e48⟩ := Kd.R_slice HO.out; subst e48) | (go_at_call 29; (with_reducible refine (wname_Name w.heap.size (w.heap.size + 1) F44 Z (fun _ => none) true _ _ l0 _ (by first | (with_reducible exact HW.out) | ((with_reducible repeat (first | apply WN.alloc | apply WN.drewN | apply WN.drew)); exact HW.out)) ?n146 ?n246 HSO.out HZB.out).mono ?_); (case n146 => exact (fun w' hu => (Kd.R_reads' (R_upd (by first | (with_reducible exact HO.out) | ((with_reducible repeat (first | apply Kd.R_alloc | apply Kd.R_drewN | apply Kd.R_drew)); exact HO.out)) hu (fun k h => h))).2.2)); (case n246 => exact (Kd.R_reads' HO.out).2.1); rintro e w61 ⟨rfl, F61, hw, hu, hF⟩; rw [HY1.out] at hw; have n0_ := Aside0.mk (WN.after (by first | (with_reducible exact HW.out) | ((with_reducible repeat (first | apply WN.alloc | apply WN.drewN | apply WN.drew)); exact HW.out)) hu (by repeat (first | (with_reducible first | exact HB.out | apply below_alloc | apply pw_below_drewN | apply below_drew1) | exact HB.out))); clear HB HW HO; have HB := n0_; have HW := Aside0.mk hw; clear n0_ hw hu hF) | (go_at_call 32; (with_reducible refine (wn_Len _ _ F61 Y1 M1 _ (by first | (with_reducible exact HW.out) | ((with_reducible repeat (first | apply WN.alloc | apply WN.drewN | apply WN.drew)); exact HW.out))).mono ?_); rintro e w' ⟨rfl, rfl⟩; rw [HL1.out]))
    go_upto_region 10 with (first | ((with_reducible refine gate_dst (N := 55) rfl ?_); refine Kd.R_lit (w0 := w) Kd.string w.heap.size 9 ?hg55 (N := 55) ?hd55 (xs := ([] : List ByteArray)) (inner := []) (ok := fun k => ¬ F61 k) (okp := fun _ => False) ?hr55 ?hp55 (fun _ hk => hk.elim) ?hf55 ?hB55 ?hS55 (Nat.zero_le _) ?_; (case hd55 => rfl); (case hg55 => rfl); (case hr55 => exact lit_str rfl); (case hp55 => exact (Reps.none _ _)); (case hf55 => exact WN.lt (by first | (with_reducible exact HW.out) | ((with_reducible repeat (first | apply WN.alloc | apply WN.drewN | apply WN.drew)); exact HW.out)) (Nat.le_refl _)); (case hB55 => exact (by repeat (first | (with_reducible first | exact HB.out | apply below_alloc | apply pw_below_drewN | apply below_drew1) | exact HB.out))); (case hS55 => exact (below_size (by repeat (first | (with_reducible first | exact HB.out | apply below_alloc | apply pw_below_drewN | apply below_drew1) | exact HB.out)))); intro v55 w55 ho hb hg3 hat; have HO := Aside0.mk ho; have n1_ := Aside0.mk (WN.grown (by first | (with_reducible exact HW.out) | ((with_reducible repeat (first | apply WN.alloc | apply WN.drewN | apply WN.drew)); exact HW.out)) hg3 (fun k hk => by cases hk)); clear HW HB; have HW := n1_; have HB := Aside0.mk hb; clear n1_ ho hb hg3 hat) | ((with_reducible refine gate_builtin (b := .append) (xs := #[.tmp 55, .tmp 56]) rfl ?_); at_builtin; refine Kd.R_append_rows Kd.string (w0 := w) w.heap.size rfl (.tmp 55) (.tmp 56) 34 9 (.string ByteArray.empty) 16 rfl Try.underlying34 infoS rfl (by decide) (by omega) v55 [] l0 _ _ _ (fun k => ¬ F61 k) (fun _ => False) rfl rfl ?aO55 ?aR55 (fun _ _ h => h) (fun _ h => h.elim) ?aF55 ?aB55 ?aS55 ?aL55 ?_; (case aR55 => exact (by repeat (first | exact (Kd.C_below HC.out HB.out) | (with_reducible refine Kd.C_alloc ?_ _) | (with_reducible refine Kd.C_drewN ?_ _) | (with_reducible refine Kd.C_drew ?_)))); (case aF55 => exact (fun k hk => WN.lt (by first | (with_reducible exact HW.out) | ((with_reducible repeat (first | apply WN.alloc | apply WN.drewN | apply WN.drew)); exact HW.out)) hk)); (case aB55 => exact (by repeat (first | (with_reducible first | exact HB.out | apply below_alloc | apply pw_below_drewN | apply below_drew1) | exact HB.out))); (case aO55 => exact (by first | (with_reducible exact HO.out) | ((with_reducible repeat (first | apply Kd.R_alloc | apply Kd.R_drewN | apply Kd.R_drew)); exact HO.out))); (case aS55 => exact (below_size (by repeat (first | (with_reducible first | exact HB.out | apply below_alloc | apply pw_below_drewN | apply below_drew1) | exact HB.out)))); (case aL55 => have := HLEN.out; simp; omega); intro v57 w57 ho hb hg hat; rw [List.nil_append] at ho; have n1_ := Aside0.mk (WN.grown (by first | (with_reducible exact HW.out) | ((with_reducible repeat (first | apply WN.alloc | apply WN.drewN | apply WN.drew)); exact HW.out)) hg (fun k hk => HO.out.1 k hk)); clear HB HO HW; have HB := Aside0.mk hb; have HW := n1_; have HO := Aside0.mk ho; clear n1_ ho hb hg hat; obtain ⟨A57, c57, e57⟩ := Kd.R_slice HO.out; subst e57) | (go_at_call 29; (with_reducible refine (wname_Name w.heap.size (w.heap.size + 1) F61 Y1 M1 true _ _ l0 _ (by first | (with_reducible exact HW.out) | ((with_reducible repeat (first | apply WN.alloc | apply WN.drewN | apply WN.drew)); exact HW.out)) ?n155 ?n255 HSO.out HY1B.out).mono ?_); (case n155 => exact (fun w' hu => (Kd.R_reads' (R_upd (by first | (with_reducible exact HO.out) | ((with_reducible repeat (first | apply Kd.R_alloc | apply Kd.R_drewN | apply Kd.R_drew)); exact HO.out)) hu (fun k h => h))).2.2)); (case n255 => exact (Kd.R_reads' HO.out).2.1); rintro e w62 ⟨rfl, F62, hw, hu, hF⟩; rw [HY2.out] at hw; have n0_ := Aside0.mk (WN.after (by first | (with_reducible exact HW.out) | ((with_reducible repeat (first | apply WN.alloc | apply WN.drewN | apply WN.drew)); exact HW.out)) hu (by repeat (first | (with_reducible first | exact HB.out | apply below_alloc | apply pw_below_drewN | apply below_drew1) | exact HB.out))); clear HB HW HO; have HB := n0_; have HW := Aside0.mk hw; clear n0_ hw hu hF) | (go_at_call 32; (with_reducible refine (wn_Len _ _ F62 Y2 M2 _ (by first | (with_reducible exact HW.out) | ((with_reducible repeat (first | apply WN.alloc | apply WN.drewN | apply WN.drew)); exact HW.out))).mono ?_); rintro e w' ⟨rfl, rfl⟩; rw [HL2.out]))
    rw [show (k : Int) + sz + d - k - (k + sz - k) = d by omega, show (k : Int) + sz - k = sz by omega]
    have HCR := Aside0.mk (Kd.C_below HC.out HB.out)
    obtain ⟨iS, hiS, _, hszS, _⟩ := info_parts infoS
    have HIS := Aside0.mk hiS
    have HSZS := Aside0.mk hszS
    clear hiS hszS
    have hl255 := HLEN.out
    go_wp2_with (fail)
    go_loopw [9, 10] (fun v u wr => ∃ (z i : Int), v = .int .i64 z ∧ u = .int .i64 i ∧ -1 ≤ i ∧ i < l0.length ∧ Aside0 (16384 ≤ k → z = sz) ∧ Aside0 (Below w.heap.size w wr) ∧ Aside0 (WN wr w.heap.size F62 (w.heap.size + 1) Y2 M2)) (fun _ u _ => (intOf u + 1).toNat)
    case atStart => exact ⟨sz, (l0.length : Int) - 1, rfl, rfl, by omega, by omega, ⟨fun _ => rfl⟩, ⟨(by repeat (first | (with_reducible first | exact HB.out | apply below_alloc | apply pw_below_drewN | apply below_drew1) | exact HB.out))⟩, ⟨(by first | (with_reducible exact HW.out) | ((with_reducible repeat (first | apply WN.alloc | apply WN.drewN | apply WN.drew)); exact HW.out))⟩⟩
    case round =>
      clear HB HW
      obtain ⟨z, i, rfl, rfl, hi0, hi1, HZV, HB, HW⟩ := hrel
      by_cases hi : 0 ≤ i
      · obtain ⟨j, rfl⟩ := Int.eq_ofNat_of_zero_le hi
        have hcr := Kd.C_below HC.out HB.out
        have hcut := cut_from (P := Try.prog) 34 9 .i64 Try.underlying34 HIS.out 1 HSZS.out A l0.length c (j : Int) (by omega) (by omega)
        have hcq := Kd.C_drop (m := j) (c := c) hcr (by omega) HCC.out
        simp only [Int.toNat_natCast] at hcut
        have hdl : (l0.drop j).length = l0.length - j := List.length_drop
        obtain ⟨A', hA'⟩ : ∃ A', A' = (if c = j then A else A.map (·.add (j * 1))) := ⟨_, rfl⟩
        rw [← hA', ← hdl] at hcut
        have hsq : 1 ≤ sizeL (l0.drop j) ∧ sizeL (l0.drop j) ≤ sz := by
          have h1 := HREST.out
          have h2 := HSE.out
          rw [← List.take_append_drop j l0, restL_append, List.length_append] at h1
          rw [sizeL_rest, ← List.take_append_drop j l0, restL_append, List.length_append] at h2
          rw [sizeL_rest]
          omega
        have hql : (l0.drop j).length ≤ c - j := by have := HCC.out; omega
        have hqm : ∀ s ∈ l0.drop j, s.size ≤ 63 := fun s hs => (HLAB.out s (List.mem_of_mem_drop hs)).2
        have hqn : (l0.drop j).length ≤ 255 := by omega
        obtain ⟨q, hq⟩ : ∃ q, l0.drop j = q := ⟨_, rfl⟩
        rw [hq] at hcut hcq hsq hql hqm hqn
        obtain ⟨sq, hsqe⟩ : ∃ sq, sizeL q = sq := ⟨_, rfl⟩
        rw [hsqe] at hsq
        have S1 := Aside0.mk (fun (n : Nat) => ref_Size_quiet A c l0 wr n hcr HCC.out (fun s hs => (HLAB.out s hs).2) HLEN.out HSE.out)
        have S2 := Aside0.mk (fun (n : Nat) => ref_Size_quiet A' (c - j) q wr n (by rw [hA']; exact hcq) hql hqm hqn hsqe)
        clear hcr hcq hdl hA' hql hqm hqn hq hsqe
        go_upto_region 14 with (fail)
        go_quiet ((go_at_call 34; first | (with_reducible exact S1.out _) | (with_reducible exact S2.out _)))
        by_cases ht : (k : Int) + (sz - sq) < 16384
        · have k1 := decide_eq_true ht
          have HK := Aside0.mk (show ¬ 16384 ≤ k by omega)
          clear ht
          go_wp2_with (fail)
          go_roundw
          case rel => exact ⟨_, (j : Int) - 1, rfl, rfl, by omega, by omega, ⟨fun h => absurd h HK.out⟩, ⟨(by repeat (first | (with_reducible first | exact HB.out | apply below_alloc | apply pw_below_drewN | apply below_drew1) | exact HB.out))⟩, ⟨(by first | (with_reducible exact HW.out) | ((with_reducible repeat (first | apply WN.alloc | apply WN.drewN | apply WN.drew)); exact HW.out))⟩⟩
          case measure => simp [intOf] <;> omega
        · have k1 := decide_eq_false ht
          clear ht
          go_wp2_with (fail)
          go_roundw
          case rel => exact ⟨z, (j : Int) - 1, rfl, rfl, by omega, by omega, ⟨HZV.out⟩, ⟨(by repeat (first | (with_reducible first | exact HB.out | apply below_alloc | apply pw_below_drewN | apply below_drew1) | exact HB.out))⟩, ⟨(by first | (with_reducible exact HW.out) | ((with_reducible repeat (first | apply WN.alloc | apply WN.drewN | apply WN.drew)); exact HW.out))⟩⟩
          case measure => simp [intOf] <;> omega
      · obtain rfl : i = -1 := by omega
        clear hi hi0 hi1
        obtain ⟨kk, hkk⟩ := get_reads Y2 HBY.out HY2B.out HWB.out HREST.out
        rw [HL1.out] at hkk
        have HG := Aside0.mk hkk
        clear hkk
        by_cases hk : k < 16384
        · obtain rfl : d = 2 := HD1.out hk
          have k1 := decide_eq_true hk
          have k2 : decide ((k : Int) < 16384) = true := decide_eq_true (by omega)
          clear hk
          go_wp2_with (first | (go_at_call 33; (with_reducible refine (wn_Bytes _ _ F62 Y2 M2 _ (by first | (with_reducible exact HW.out) | ((with_reducible repeat (first | apply WN.alloc | apply WN.drewN | apply WN.drew)); exact HW.out)) (by have := HY2B.out; omega)).mono ?_); rintro e w7 ⟨v7, rfl, ho, hb⟩; have HO7 := Aside0.mk ho; clear ho; obtain ⟨A7, c7, e7⟩ := Kd.R_slice HO7.out; subst e7; have n0_ := Aside0.mk (below_step (by repeat (first | (with_reducible first | exact HB.out | apply below_alloc | apply pw_below_drewN | apply below_drew1) | exact HB.out)) hb); have n1_ := Aside0.mk (WN.below (by first | (with_reducible exact HW.out) | ((with_reducible repeat (first | apply WN.alloc | apply WN.drewN | apply WN.drew)); exact HW.out)) hb); clear HB HW; have HB := n0_; have HW := n1_; clear n0_ n1_ hb) | (go_at_call 18; (with_reducible refine (HWnameLoops.wname_Get.calls kk A7 c7 Y2 _ l0 (Y2.length : Int) 0 _ ?g1 ?g2 HG.out).mono ?_); (case g1 => exact (Kd.R_reads' (by first | (with_reducible exact HO7.out) | ((with_reducible repeat (first | apply Kd.R_alloc | apply Kd.R_drewN | apply Kd.R_drew)); exact HO7.out))).2.2); (case g2 => exact (Kd.R_reads' HO7.out).2.1); rintro e w8 ⟨v8, rfl, ho, hb⟩; have HX := Aside0.mk ho; clear ho; obtain ⟨A8, c8, e8⟩ := Kd.R_slice HX.out; subst e8; have n0_ := Aside0.mk (below_step (by repeat (first | (with_reducible first | exact HB.out | apply below_alloc | apply pw_below_drewN | apply below_drew1) | exact HB.out)) hb); have n1_ := Aside0.mk (WN.below (by first | (with_reducible exact HW.out) | ((with_reducible repeat (first | apply WN.alloc | apply WN.drewN | apply WN.drew)); exact HW.out)) hb); clear HB HW; have HB := n0_; have HW := n1_; clear n0_ n1_ hb) | (go_at_call 34; (with_reducible refine (ref_Size A c l0 _ ?z1 HCC.out ?z2 HLEN.out).mono ?_); (case z1 => exact (by repeat (first | exact (Kd.C_below HC.out HB.out) | (with_reducible refine Kd.C_alloc ?_ _) | (with_reducible refine Kd.C_drewN ?_ _) | (with_reducible refine Kd.C_drew ?_)))); (case z2 => exact (fun s hs => (HLAB.out s hs).2)); rintro e w' ⟨rfl, ⟨nd, rfl⟩⟩; rw [HSE.out]) | (go_at_call 20; (with_reducible refine (ref_Exact A8 c8 l0 A c l0 _ ?x1 ?x2 ?x3 HCC.out).mono ?_); (case x1 => exact (Kd.R_reads' (by first | (with_reducible exact HX.out) | ((with_reducible repeat (first | apply Kd.R_alloc | apply Kd.R_drewN | apply Kd.R_drew)); exact HX.out))).2.2); (case x2 => exact (Kd.R_reads' HX.out).2.1); (case x3 => exact (by repeat (first | exact (Kd.C_below HC.out HB.out) | (with_reducible refine Kd.C_alloc ?_ _) | (with_reducible refine Kd.C_drewN ?_ _) | (with_reducible refine Kd.C_drew ?_)))); rintro e w' ⟨rfl, ⟨nd2, rfl⟩⟩; rw [decide_eq_true (rfl : l0 = l0)]))
          go_ret
          exact ⟨rfl, (by repeat (first | (with_reducible first | exact HB.out | apply below_alloc | apply pw_below_drewN | apply below_drew1) | exact HB.out))⟩
        · have hk2 : 16384 ≤ k := by omega
          obtain rfl : d = sz := HD2.out hk2
          obtain rfl : z = d := HZV.out hk2
          have k1 := decide_eq_false hk
          have k2 : decide ((k : Int) < 16384) = false := decide_eq_false (by omega)
          clear hk hk2
          go_wp2_with (first | (go_at_call 33; (with_reducible refine (wn_Bytes _ _ F62 Y2 M2 _ (by first | (with_reducible exact HW.out) | ((with_reducible repeat (first | apply WN.alloc | apply WN.drewN | apply WN.drew)); exact HW.out)) (by have := HY2B.out; omega)).mono ?_); rintro e w7 ⟨v7, rfl, ho, hb⟩; have HO7 := Aside0.mk ho; clear ho; obtain ⟨A7, c7, e7⟩ := Kd.R_slice HO7.out; subst e7; have n0_ := Aside0.mk (below_step (by repeat (first | (with_reducible first | exact HB.out | apply below_alloc | apply pw_below_drewN | apply below_drew1) | exact HB.out)) hb); have n1_ := Aside0.mk (WN.below (by first | (with_reducible exact HW.out) | ((with_reducible repeat (first | apply WN.alloc | apply WN.drewN | apply WN.drew)); exact HW.out)) hb); clear HB HW; have HB := n0_; have HW := n1_; clear n0_ n1_ hb) | (go_at_call 18; (with_reducible refine (HWnameLoops.wname_Get.calls kk A7 c7 Y2 _ l0 (Y2.length : Int) 0 _ ?g1 ?g2 HG.out).mono ?_); (case g1 => exact (Kd.R_reads' (by first | (with_reducible exact HO7.out) | ((with_reducible repeat (first | apply Kd.R_alloc | apply Kd.R_drewN | apply Kd.R_drew)); exact HO7.out))).2.2); (case g2 => exact (Kd.R_reads' HO7.out).2.1); rintro e w8 ⟨v8, rfl, ho, hb⟩; have HX := Aside0.mk ho; clear ho; obtain ⟨A8, c8, e8⟩ := Kd.R_slice HX.out; subst e8; have n0_ := Aside0.mk (below_step (by repeat (first | (with_reducible first | exact HB.out | apply below_alloc | apply pw_below_drewN | apply below_drew1) | exact HB.out)) hb); have n1_ := Aside0.mk (WN.below (by first | (with_reducible exact HW.out) | ((with_reducible repeat (first | apply WN.alloc | apply WN.drewN | apply WN.drew)); exact HW.out)) hb); clear HB HW; have HB := n0_; have HW := n1_; clear n0_ n1_ hb) | (go_at_call 34; (with_reducible refine (ref_Size A c l0 _ ?z1 HCC.out ?z2 HLEN.out).mono ?_); (case z1 => exact (by repeat (first | exact (Kd.C_below HC.out HB.out) | (with_reducible refine Kd.C_alloc ?_ _) | (with_reducible refine Kd.C_drewN ?_ _) | (with_reducible refine Kd.C_drew ?_)))); (case z2 => exact (fun s hs => (HLAB.out s hs).2)); rintro e w' ⟨rfl, ⟨nd, rfl⟩⟩; rw [HSE.out]) | (go_at_call 20; (with_reducible refine (ref_Exact A8 c8 l0 A c l0 _ ?x1 ?x2 ?x3 HCC.out).mono ?_); (case x1 => exact (Kd.R_reads' (by first | (with_reducible exact HX.out) | ((with_reducible repeat (first | apply Kd.R_alloc | apply Kd.R_drewN | apply Kd.R_drew)); exact HX.out))).2.2); (case x2 => exact (Kd.R_reads' HX.out).2.1); (case x3 => exact (by repeat (first | exact (Kd.C_below HC.out HB.out) | (with_reducible refine Kd.C_alloc ?_ _) | (with_reducible refine Kd.C_drewN ?_ _) | (with_reducible refine Kd.C_drew ?_)))); rintro e w' ⟨rfl, ⟨nd2, rfl⟩⟩; rw [decide_eq_true (rfl : l0 = l0)]))
          go_ret
          exact ⟨rfl, (by repeat (first | (with_reducible first | exact HB.out | apply below_alloc | apply pw_below_drewN | apply below_drew1) | exact HB.out))⟩
theorem walk (w : World) (A : Option Addr) (c : Nat) (l0 : List ByteArray) (hC : Kd.C Kd.string w A l0.length l0) (hc : l0.length ≤ c) (hok : l0.length * 16 ≤ 140737488351232 ∧ ∀ x ∈ l0, x.size ≤ 140737488351232) (a1 : Int) (w1 : (Lit.int .u16 a1).wf = true) :
    Calls Try.prog 11 #[.slice A l0.length c, .int .u16 a1] w fun e w' => e = .returned (.bool true) ∧ Below w.heap.size w w' := by
  by_cases h : soundB l0 = false ∨ l0 = []
  · exact none_ w A c l0 hC hc a1 h
  · simp only [not_or] at h
    exact some_ w A c l0 hC hc a1 (wf16 w1).1 (wf16 w1).2 (by simpa using h.1) h.2
end Go.Proofs.Ytahnncccdlblgaa.WnameReach
