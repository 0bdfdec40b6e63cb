/- The Writer's Set where it sets: a number in the place of bytes. Conditions: fewer bytes than may be appended to. -/
import Derived.Test.YtahnncccdlblgaaWr
import Derived.Laws.CopyRow
import Derived.Below
import Derived.Deep.Draws
import Derived.Deep.AppendLies
import Derived.Maps.AppendAt
import Derived.OwnWalk
import Derived.Laws.BytesArg
import Derived.Laws.MakeOwn
import Derived.Laws.OwnMore
import Derived.Deep.OwnRows
import Derived.Tactics
import Derived.Lib.ConvBytes
import Derived.Laws.Slices
import Derived.WalkKit
import Derived.KernelRfl
import Derived.RowKit3
import Derived.Deep.LoopGhost
import Derived.Deep.QuietTactic
import Derived.BigQuiet
import Derived.WideLaws
import Derived.Deep.DeepCutAuto
import Derived.Deep.CutBlock
import Derived.Deep.RegionHeld3
import Derived.Laws.Rows
import Derived.Lib.AppendStr
import Derived.ArgAppend
import Derived.Laws.IdiomCopy
import Derived.OrdersHeld
import Derived.Laws.BitsLemmas
import Derived.RowKit
namespace Go.Proofs.Ytahnncccdlblgaa.G
open Go.RowKit Go.Proofs.YtahnncccdlblgaaW.PrintWords Go.Proofs.YtahnncccdlblgaaW.PrintLast Go.Proofs.YtahnncccdlblgaaW.PrintMore Go.Proofs.Ytahnncccdlblgaa.Plain
attribute [local go_sem] max2_int min2_int max_two min_two max_three min_three max_four min_four
set_option linter.unusedVariables false
set_option linter.unusedSimpArgs false
/-- copy into a row of one's own, from a place of it on. -/
theorem copy_mid {P : Program} (W : World) (base : Nat) (t t' ty e : TypeId) {k : IntKind} (ht : P.underlying t = some (.slice e)) (hinfo : (P.info? e).map (·.size) = some 1) (g n c cd : Nat) (xs ys : List Int) (p : Nat) (A : Option Addr) (cy : Nat) (ok : Nat → Prop)
    (HO : (Kd.int k).R e W base ok (.slice (some ⟨g, 0, none⟩) n c) xs) (HR : (Kd.int k).C W A ys.length ys) (hp : 0 < ys.length) (hfit : p + ys.length ≤ xs.length) :
    ∃ w1, (Builtin.copy_ #[t, t'] ty #[.slice (some ⟨g, p, none⟩) (xs.length - p) cd, .slice A ys.length cy]).run P W = .ok (goInt ys.length) w1 ∧ (Kd.int k).R e w1 base ok (.slice (some ⟨g, 0, none⟩) n c) (xs.take p ++ (ys ++ xs.drop (p + ys.length))) ∧ W.grownBy w1 (some g) := by
  have hR := Kd.reads_of_C (enc := Value.int k) (d := (0 : Int)) (h1 := fun _ => rfl) HR
  have hown := Kd.own_of_R HO
  obtain ⟨ad, hA, hc⟩ := hR.2.2 (by omega)
  rcases hown.2 with ⟨hv, _⟩ | ⟨g', cap, cur, hv, hb, hh, hnc, hcm, hcs, htake⟩
  · cases hv
  simp only [Value.slice.injEq, Option.some.injEq, Addr.mk.injEq, and_true, true_and] at hv
  obtain ⟨hgg, hn, hcap⟩ := hv
  subst hgg
  subst hA
  have hcs1 : cur.size = cap := by omega
  have hsrc : ∀ j u, (encs (Value.int k) ys)[j]? = some u → W.cell? (ad.add j) = some u := by
    intro j u hu
    have hj : j < ys.length := by
      rcases Nat.lt_or_ge j ys.length with h | h
      · exact h
      · rw [List.getElem?_eq_none (by rw [encs_length]; exact h)] at hu
        cases hu
    rw [encs_get (d := (0 : Int)) _ j hj] at hu
    rw [hc j (by omega), ← hu]
  have hkl : (encs (Value.int k) ys).length = ys.length := encs_length ..
  have hr := run_copy_row (P := P) W t t' ty e g p (xs.length - p) cd ad ys.length cy cur e (encs (Value.int k) ys) ht hinfo hh (by rw [hkl]; show _ = min _ _; omega) hsrc (by omega) (by intro u hu; simp only [encs, List.mem_map] at hu; obtain ⟨q, _, rfl⟩ := hu; rfl)
  rw [hkl] at hr
  refine ⟨_, hr, Kd.R_of_own ?_ HO.1, ⟨rfl, rfl, rfl, by simp [World.setRow], fun i _ hi => setRow_other W g i _ (fun e => hi (by rw [e]))⟩⟩
  have hln : (xs.take p ++ (ys ++ xs.drop (p + ys.length))).length = xs.length := by simp; omega
  rw [hln]
  refine ⟨by rw [encs_length, hln, Nat.mul_one], .inr ⟨g, cap, _, by rw [hn, hcap], hb, setRow_heap W g _ _ e _ hh, hnc, hcm, by simp; omega, ?_⟩⟩
  have htk : cur.toList.take xs.length = encs (Value.int k) xs := by rw [← htake, Nat.mul_one]
  have e1 : cur.toList.take p = encs (Value.int k) (xs.take p) := by
    rw [show encs (Value.int k) (xs.take p) = (encs (Value.int k) xs).take p by simp [encs, List.map_take], ← htk, List.take_take, Nat.min_eq_left (by omega)]
  have e2 : (cur.toList.drop (p + ys.length)).take (xs.length - (p + ys.length)) = encs (Value.int k) (xs.drop (p + ys.length)) := by
    rw [show encs (Value.int k) (xs.drop (p + ys.length)) = (encs (Value.int k) xs).drop (p + ys.length) by simp [encs, List.map_drop], ← htk, List.drop_take]
  rw [Nat.mul_one, List.append_assoc, e1, encs_append, encs_append, ← e2]
  show ((encs (Value.int k) (xs.take p) ++ (encs (Value.int k) ys ++ cur.toList.drop (p + ys.length))).take xs.length) = _
  have l1 : (encs (Value.int k) (xs.take p)).length = p := by rw [encs_length, List.length_take]; omega
  have t1 : (encs (Value.int k) (xs.take p)).take xs.length = encs (Value.int k) (xs.take p) := List.take_of_length_le (by rw [l1]; omega)
  have t2 : (encs (Value.int k) ys).take (xs.length - p) = encs (Value.int k) ys := List.take_of_length_le (by rw [hkl]; omega)
  rw [List.take_append, l1, t1, List.take_append, hkl, t2, show xs.length - p - ys.length = xs.length - (p + ys.length) by omega]
theorem copy_step {P : Program} {ops : Array Oper} {Q : Exit → Act → World → Prop} {oi : Oper} {N : Option Tmp} {a : Act} {w w1 : World} {r : Value} {K : Act → World → Prop} (hw : Region.wanted oi (yielded ops a.tmps) = true) (hN : oi.dst = N) (s x : Operand) (t t' : TypeId)
    (ho : oi.op = .call { callee := .builtin .copy, args := #[s, x], argTypes := #[t, t'] }) {v v' : Value} (hs : a.eval s = v) (hx : a.eval x = v') (hrun : (Builtin.copy_ #[t, t'] oi.type #[v, v']).run P w = .ok r w1)
    (h : K (a.put N r) w1) : if Region.wanted oi (yielded ops a.tmps) = true then Oper.wp P oi a w K Q else K (a.put N undef) w := by
  refine value_ hw hN ?_ h
  unfold execOp
  simp only [ho, resolve, invoke, builtin, Sem.run_bind, Sem.run_pure, Result.andThen_ok, List.map_toArray, List.map_cons, List.map_nil, hs, hx, hrun]
theorem wname_Set_ok (base g : Nat) (F : Nat → Prop) (ys : List Int) (k : Nat) (D : DataW Unit) (p n s : Int) (w : World) (h : Wr w base F g ys k D) (hl : ys.length < 140737488355328) (hf : fits n s = true) (hp : 0 ≤ p) (hs : p + s ≤ ys.length) :
    Calls Try.prog 35 #[.pointer (some ⟨g, 0, none⟩), .int .i64 p, .int .i64 n, .int .i64 s] w fun e w' => e = .returned (.int .i64 0) ∧ ∃ F', Wr w' base F' g (ys.take p.toNat ++ (be n s.toNat ++ ys.drop (p + s).toNat)) k D ∧ Upd w w' F ∧ ∀ k, F' k → F k ∨ w.heap.size ≤ k := by
  have hfit := fits_iff.1 hf
  have HP := Aside0.mk (show num_Put.f [] n s = some (be n s.toNat) by unfold num_Put.f; rw [if_pos (by simp), if_pos hf]; simp)
  have HQ := Aside0.mk (show num_Fits.f n s = some true by unfold num_Fits.f; rw [hf])
  have hbase := h.base_le
  obtain ⟨b, A, c, hg, hr, hm, hFg, hFb, hF⟩ := h
  have hlc := (Kd.R_reads' hr).2.1
  have h0 := (blk_cell hg 0).trans (show _ = some (Value.slice A ys.length c) from rfl)
  obtain ⟨gb, cap, hv, hgb, hgl, cells, hcells⟩ := Kd.R_form hr (by omega)
  simp only [Value.slice.injEq, true_and] at hv
  obtain ⟨hA, hc⟩ := hv
  subst hA
  subst hc
  obtain ⟨i8, hi8, _, hsz8, _⟩ := info_parts infoB
  have hcut := cut_from (P := Try.prog) 24 5 .i64 Try.underlying24 hi8 1 hsz8 (some ⟨gb, 0, none⟩) ys.length c p hp (by omega)
  rw [if_neg (by omega)] at hcut
  simp only [Option.map_some, add_plain, Nat.mul_one] at hcut
  have HF := Aside0.mk hF
  have HG := Aside0.mk hg
  have HR := Aside0.mk hr
  have HM := Aside0.mk hm
  have HFG := Aside0.mk hFg
  have HFB := Aside0.mk hFb
  have HL := Aside0.mk hlc
  have HS := Aside0.mk hs
  have HT := Aside0.mk hfit
  have k1 : decide (p < 0) = false := decide_eq_false (by omega)
  have k2 : decide ((ys.length : Int) < p) = false := decide_eq_false (by omega)
  have k3 : decide ((ys.length : Int) - p < s) = false := decide_eq_false (by omega)
  have hw : wrap64 ((ys.length : Int) - p) = (ys.length : Int) - p := wrap_id (by omega) (by omega)
  clear hg hr hm hFg hFb hF hcells hlc hs hfit hi8 hsz8
  go_enter Try.func35, Try.ntmps35
  go_wp2_with (go_at_call 38; (with_reducible refine (num_Fits.calls n s true _ HQ.out).mono ?_); rintro e w' ⟨rfl, ⟨nd, rfl⟩⟩)
  clear hw k1 k2 k3
  refine start_ (n := 10) (S := fun w' => w'.cell? ⟨g, 0, none⟩ = some (.slice (some ⟨gb, 0, none⟩) ys.length c)) (ds := []) #[false, false, false, false, false, false, false, false, false, false] (by kernel_rfl) rfl rfl h0 (fun hHeld => ?_)
  refine pure_ (i := 0) (N := some 41) (v := ?_) (a' := ?_) #[true, false, false, false, false, false, false, false, false, false] rfl rfl (by kernel_rfl) (fun _ _ _ h => h) (Or.inl ⟨by rfl, ?hy1⟩) ?ha1 ?_; (case hy1 => (intro w'; go_simp; with_reducible rfl)); (case ha1 => (simp only [Act.put, List.setIfInBounds_toArray, List.set_cons_zero, List.set_cons_succ, i64_w, i32_w]; rfl))
  refine pure_ (i := 1) (N := some 42) (v := ?_) (a' := ?_) #[true, true, false, false, false, false, false, false, false, false] rfl rfl (by kernel_rfl) (fun _ _ _ h => h) (Or.inl ⟨by rfl, ?hy2⟩) ?ha2 ?_; (case hy2 => (intro w'; go_simp; with_reducible rfl)); (case ha2 => (simp only [Act.put, List.setIfInBounds_toArray, List.set_cons_zero, List.set_cons_succ, i64_w, i32_w]; rfl))
  refine pure_ (i := 2) (N := some 43) (v := ?_) (a' := ?_) #[true, true, true, false, false, false, false, false, false, false] rfl rfl (by kernel_rfl) (fun _ _ _ h => h) (Or.inl ⟨by rfl, ?hy3⟩) ?ha3 ?_; (case hy3 => (intro w'; go_simp; with_reducible rfl)); (case ha3 => (simp only [Act.put, List.setIfInBounds_toArray, List.set_cons_zero, List.set_cons_succ, i64_w, i32_w]; rfl))
  refine take_ (i := 3) (N := some 44) (v := ?_) (a' := ?_) #[true, true, true, true, false, false, false, false, false, false] rfl rfl (by kernel_rfl) (fun _ _ _ h => h) (Or.inl ⟨by rfl, ?hy4⟩) hHeld ?ha4 ?_; (case hy4 => (rintro w' s0; go_simp; with_reducible rfl)); (case ha4 => (simp only [Act.put, List.setIfInBounds_toArray, List.set_cons_zero, List.set_cons_succ, i64_w, i32_w]; rfl))
  refine pure_ (i := 4) (N := some 45) (v := ?_) (a' := ?_) #[true, true, true, true, true, false, false, false, false, false] rfl rfl (by kernel_rfl) (fun _ _ _ h => h) (Or.inl ⟨by rfl, ?hy5⟩) ?ha5 ?_; (case hy5 => (intro w'; go_simp; with_reducible rfl)); (case ha5 => (simp only [Act.put, List.setIfInBounds_toArray, List.set_cons_zero, List.set_cons_succ, i64_w, i32_w]; rfl))
  refine pure_ (i := 5) (N := some 46) (v := ?_) (a' := ?_) #[true, true, true, true, true, true, false, false, false, false] rfl rfl (by kernel_rfl) (fun _ _ _ h => h) (Or.inl ⟨by rfl, ?hy6⟩) ?ha6 ?_; (case hy6 => (intro w'; go_simp; with_reducible rfl)); (case ha6 => (simp only [Act.put, List.setIfInBounds_toArray, List.set_cons_zero, List.set_cons_succ, i64_w, i32_w]; rfl))
  refine pure_ (i := 6) (N := some 47) (v := ?_) (a' := ?_) #[true, true, true, true, true, true, true, false, false, false] rfl rfl (by kernel_rfl) (fun _ _ _ h => h) (Or.inl ⟨by rfl, ?hy7⟩) ?ha7 ?_; (case hy7 => (intro w'; go_simp; with_reducible rfl)); (case ha7 => (simp only [Act.put, List.setIfInBounds_toArray, List.set_cons_zero, List.set_cons_succ, i64_w, i32_w]; rfl))
  refine pure_ (i := 7) (N := some 48) (v := ?_) (a' := ?_) #[true, true, true, true, true, true, true, true, false, false] rfl rfl (by kernel_rfl) (fun _ _ _ h => h) (Or.inl ⟨by rfl, ?hy8⟩) ?ha8 ?_; (case hy8 => (intro w'; go_simp; with_reducible rfl)); (case ha8 => (simp only [Act.put, List.setIfInBounds_toArray, List.set_cons_zero, List.set_cons_succ, i64_w, i32_w]; rfl))
  have HBD := Aside0.mk (show Below w.heap.size w ((w.drewN nd).drew) from below_drew (pw_below_drewN (Below.refl _ _) nd))
  generalize (w.drewN nd).drew = wd at HBD hHeld ⊢
  refine one_ (i := 8) (N := some 49) #[true, true, true, true, true, true, true, true, true, false] rfl rfl (by kernel_rfl) (by decide) (fun K hK => ?_)
  refine goes_ Try.func40 (by kernel_rfl) rfl #[.slice none 0 0, .int .i64 n, .int .i64 s] (by rfl) rfl rfl (by simp [Act.eval]) ?_
  refine (num_Put.calls none 0 [] n s _ _ (Kd.C_nil _ _) (Nat.le_refl _) HP.out).mono ?_
  rintro e w2 ⟨v2, rfl, ho, hb⟩
  have HO := Aside0.mk ho
  have HB2 := Aside0.mk (below_step HBD.out hb)
  clear ho hb
  obtain ⟨A2, c2, e2⟩ := Kd.R_slice HO.out
  subst e2
  refine ⟨_, rfl, ?_⟩
  have HG2 := Aside0.mk (blk_below HG.out HB2.out)
  have HR2 := Aside0.mk (Kd.R_below HR.out HB2.out)
  refine hK.out _ _ ((blk_cell HG2.out 0).trans rfl) (fun hHeld => ?_)
  clear hK K
  refine norm_ (a' := ?_) ?hn10 ?_; (case hn10 => (show Act.put _ (some 49) _ = _; simp only [Act.put, List.setIfInBounds_toArray, List.set_cons_zero, List.set_cons_succ, i64_w, i32_w]; rfl))
  have hlen : (be n s.toNat).length = s.toNat := be_length _ _
  have hS := HS.out
  have hT := HT.out
  obtain ⟨w3, hrun, hR3, hg3⟩ := copy_mid (P := Try.prog) w2 base 24 24 3 5 Try.underlying24 infoBs gb ys.length c (c - p.toNat) ys (be n s.toNat) p.toNat A2 c2 F HR2.out (Kd.R_reads' HO.out).2.2 (by omega) (by omega)
  have HR3 := Aside0.mk hR3
  have HG3 := Aside0.mk hg3
  have hgn : some g ≠ some gb := Kd.R_ne HR2.out HG2.out (by decide)
  have HGG := Aside0.mk (blk_grown HG2.out hg3 hgn)
  clear hR3 hg3 hS hT
  refine one_ (i := 9) (N := some 50) #[true, true, true, true, true, true, true, true, true, true] rfl rfl (by kernel_rfl) (by decide) (fun K hK => ?_)
  refine copy_step (by rfl) rfl (.tmp 46) (.tmp 49) 24 24 rfl rfl rfl hrun ?_
  refine hK.out _ _ ((blk_cell HGG.out 0).trans rfl) (fun hHeld => ?_)
  clear hK K
  refine norm_ (a' := ?_) ?hn12 ?_; (case hn12 => (show Act.put _ (some 50) _ = _; simp only [Act.put, List.setIfInBounds_toArray, List.set_cons_zero, List.set_cons_succ, i64_w, i32_w]; rfl))
  refine done_ (by kernel_rfl) ?_
  go_wp2
  go_ret
  have hle := HG3.out.size
  have hle2 := HB2.out.size
  have hS := HS.out
  have hT := HT.out
  have hnew : ys.take p.toNat ++ (be n s.toNat ++ ys.drop (p.toNat + (be n s.toNat).length)) = ys.take p.toNat ++ (be n s.toNat ++ ys.drop (p + s).toNat) := by rw [be_length, show p.toNat + s.toNat = (p + s).toNat by omega]
  have hR3 := HR3.out
  rw [hnew] at hR3
  have hlen2 : (ys.take p.toNat ++ (be n s.toNat ++ ys.drop (p + s).toNat)).length = ys.length := by
    simp only [List.length_append, List.length_take, List.length_drop, be_length]
    omega
  have hM2 := World.ownsMap.kept (HM.out.kept (grown_of_below HB2.out none) (by simp)) HG3.out (map_own_ne (HM.out.kept (grown_of_below HB2.out none) (by simp)) HR2.out)
  have hU : Upd w w3 F := (Upd.of_below HB2.out F).trans (Upd.of_grown HG3.out (F := F) (fun k hk => by injection hk with hk; exact hk ▸ HR.out.1 gb rfl)) (fun _ h => .inl h)
  refine ⟨rfl, F, ⟨b, some ⟨gb, 0, none⟩, c, ?_, ?_, hM2, HFG.out, HFB.out, fun k hk => ⟨(HF.out k hk).1, Nat.lt_of_lt_of_le (HF.out k hk).2 hU.size⟩⟩, hU, fun k hk => .inl hk⟩
  · rw [hlen2]; exact HGG.out
  · rw [hlen2]; exact hR3
end Go.Proofs.Ytahnncccdlblgaa.G
