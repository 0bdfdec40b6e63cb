-- Written by a program of this session (wip/given.py) for this claim.
import Derived.Test.YtaappkompmdjnaaHPickBadx0
namespace Go.Proofs.Ytaappkompmdjnaa.HPickBad
open Go.RowKit Go.Proofs.Ytaappkompmdjnaa.BPick Go.Proofs.YtaappkompmdjnaaW.PrintWords Go.Proofs.YtaappkompmdjnaaW.PrintLast Go.Proofs.YtaappkompmdjnaaW.PrintMore
attribute [local go_sem] max2_int min2_int max_two min_two max_three min_three max_four min_four   -- for this text's walks alone
set_option linter.unusedVariables false
set_option linter.unusedSimpArgs false

/-! ### gazetteerlaw19_answers: function 26 -/
def gazetteerlaw19_answers.f  : Option (Bool) := (G.pick_Next.f (([(⟨([] : List Int), 1, false⟩ : S42), (⟨([] : List Int), 0, false⟩ : S42)] : List (S42))) 2 0).bind fun t104 => (some (t104 == 1))
set_option maxHeartbeats 8000000 in
set_option maxRecDepth 100000 in
theorem gazetteerlaw19_answers.calls  (r : Bool) (w : World) (h : gazetteerlaw19_answers.f  = some r) :
    Calls Try.prog 26 #[] w fun e w' => e = .returned (.bool r) ∧ Below w.heap.size w w' := by
  have hu42 := Try.underlying42
  have HB := Aside0.mk (Below.refl w.heap.size w)
  have H : ((G.pick_Next.f (([(⟨([] : List Int), 1, false⟩ : S42), (⟨([] : List Int), 0, false⟩ : S42)] : List (S42))) 2 0).bind fun t104 => (some (t104 == 1))) = some r := h
  clear h
  obtain ⟨y101, hy101⟩ : ∃ y_ : List (S42), y_ = (([(⟨([] : List Int), 1, false⟩ : S42), (⟨([] : List Int), 0, false⟩ : S42)] : List (S42))) := ⟨_, rfl⟩
  replace H : ((G.pick_Next.f y101 2 0).bind fun t104 => (some (t104 == 1))) = some r := by first | (rw [hy101]; with_reducible exact H) | (have H2_ := (Option.bind_some _ _).symm.trans H; rw [hy101]; with_reducible exact H2_) | (have H2_ := (Option.bind_some _ _).symm.trans H; with_reducible exact H2_) | with_reducible exact H | (rw [hy101]; exact H) | exact H
  have Ny101 := Aside0.mk hy101
  clear hy101
  replace H := Option.bind_eq_some_iff.mp H
  obtain ⟨t104, A10, H⟩ := H
  replace H : (some (t104 == 1)) = some r := H
  have A1 := Aside0.mk A10
  clear A10
  obtain rfl := Option.some.inj H
  go_enter Try.func26, Try.ntmps26
  go_wp2_with (first | ((with_reducible refine gate_dst (N := 3) rfl ?_); refine Kd.S_lit k42 _ 42 ?hg (N := 3) ?hd (xs := ([(⟨([] : List Int), 1, false⟩ : S42), (⟨([] : List Int), 0, false⟩ : S42)] : List (S42))) (inner := [.slice none 0 0, .int .i64 1, .bool false, .slice none 0 0, .int .i64 0, .bool false]) (ok := fun _ => True) (okp := fun _ => True) ?hr ?hp (fun _ hk => hk) trivial (Below.refl _ _) (Nat.le_refl _) (by simp) ?_; (case hd => rfl); (case hg => rfl); (case hr => first | (go_simp; done) | (go_simp; rfl)); (case hp => exact (Reps.c3 (show Kd.M k42 _ _ _ (⟨([] : List Int), 1, false⟩ : S42) [.slice none 0 0, .int .i64 1, .bool false] from (k42_mkM _ _ _ (⟨([] : List Int), 1, false⟩ : S42) (Kd.R_nil _ _ _ _ _))) (Reps.c3 (show Kd.M k42 _ _ _ (⟨([] : List Int), 0, false⟩ : S42) [.slice none 0 0, .int .i64 0, .bool false] from (k42_mkM _ _ _ (⟨([] : List Int), 0, false⟩ : S42) (Kd.R_nil _ _ _ _ _))) (Reps.none _ _)))); intro v102 w2 ho3 hb hg_ hnew_; clear hg_ hnew_; (first | rw [← Ny101.out] at ho3 | (simp only [Int.reduceToNat] at ho3; rw [← Ny101.out] at ho3)); have n0_ := Aside0.mk (Kd.S_lower ho3 (below_size (by repeat (first | (with_reducible first | exact HB.out | apply below_alloc | apply pw_below_drewN | apply below_drew1) | exact HB.out)))); have n1_ := Aside0.mk (below_step (by repeat (first | (with_reducible first | exact HB.out | apply below_alloc | apply pw_below_drewN | apply below_drew1) | exact HB.out)) hb); clear HB; have HO103 := n0_; have HB := n1_; clear n0_ n1_; clear hb ho3; obtain ⟨Ao4, co4, eo4⟩ := Kd.S_slice HO103.out; subst eo4) | ((with_reducible refine gate_callee (f := 27) rfl ?_); refine goesL_ (some 4) rfl rfl Try.func27 (by kernel_rfl) rfl #[.slice Ao4 y101.length co4, .int .i64 2, .int .i64 0] rfl (by (try simp only [List.map_toArray, List.map_cons, List.map_nil]); first | done | rfl | (simp only [List.length_drop, List.length_take]; rfl)) ?_; (with_reducible refine (G.pick_Next.calls _ _ y101 2 0 t104 _ ?side1 ?side2 A1.out).mono ?_); (case side1 => repeat (first | exact (Kd.S_reads' HO103.out).2.2 | (with_reducible refine Kd.C_alloc ?_ _) | (with_reducible refine Kd.C_drewN ?_ _) | (with_reducible refine Kd.C_drew ?_))); (case side2 => exact (Kd.S_reads' HO103.out).2.1); rintro e w5 ⟨rfl, hb⟩; refine ⟨_, rfl, ?_⟩; have n0_ := Aside0.mk (Kd.S_below (by (with_reducible repeat (first | apply Kd.S_alloc | apply Kd.S_drewN | apply Kd.S_drew)); exact HO103.out) hb); have n1_ := Aside0.mk (below_step (by repeat (first | (with_reducible first | exact HB.out | apply below_alloc | apply pw_below_drewN | apply below_drew1) | exact HB.out)) hb); clear HO103; clear HB; have HO103 := n0_; have HB := n1_; clear n0_ n1_; (try clear hb); (try clear hb2); (try clear hk); (try clear hi)))
  go_ret
  exact ⟨by first | rfl | (simp [errW_none, errW_some] <;> rfl) | (simp [*, errW_none, errW_some] <;> rfl), by repeat (first | (with_reducible first | exact HB.out | apply below_alloc | apply pw_below_drewN | apply below_drew1) | exact HB.out)⟩

-- NOT PRINTED: function 39 (bytes_Clone)

-- NOT PRINTED: function 40 (pick_Tried)

end Go.Proofs.Ytaappkompmdjnaa.HPickBad
