/- What pick.Next does: its walk, in closed form. Conditions: fewer servers than may be appended to. -/
import Derived.Test.YtaappkompmdjnaaGref
import Derived.Test.YtaappkompmdjnaaBPickx1
namespace Go.Proofs.Ytaappkompmdjnaa.G
open Go.Proofs.Ytaappkompmdjnaa.BPick
open Go.RowKit Go.Proofs.YtaappkompmdjnaaW.PrintWords Go.Proofs.YtaappkompmdjnaaW.PrintLast Go.Proofs.YtaappkompmdjnaaW.PrintMore Go.Proofs.Ytaappkompmdjnaa.Plain
attribute [local go_sem] max2_int min2_int max_two min_two max_three min_three max_four min_four
set_option linter.unusedVariables false
set_option linter.unusedSimpArgs false
theorem infoI : (Try.prog.info? 3).map (fun i => (i.zero, i.size, i.bytes)) = some (some (.int .i64 0), 1, 8) := by kernel_rfl

/-- The best ones so far, and one more server: the best ones then. -/
def stepB (l : List S42) (t : Int) (best : List Int) (j : Int) : List Int :=
  if (rd_T42 l j).f2 = true then best else if t ≤ (rd_T42 l j).f1 then best else if best = [] then [j]
  else if (rd_T42 l j).f1 < (rd_T42 l (rd best 0)).f1 then [j] else if (rd_T42 l j).f1 = (rd_T42 l (rd best 0)).f1 then best ++ [j] else best
/-- The best ones among the first j: their places. -/
def bestF (l : List S42) (t : Int) : Nat → List Int
  | 0 => []
  | j + 1 => stepB l t (bestF l t j) (j : Int)
theorem bestF_lt (l : List S42) (t : Int) : ∀ j, (∀ x ∈ bestF l t j, 0 ≤ x ∧ x < (j : Int)) ∧ (bestF l t j).length ≤ j
  | 0 => by simp [bestF]
  | j + 1 => by
    obtain ⟨h1, h2⟩ := bestF_lt l t j
    have up : (∀ x ∈ bestF l t j, 0 ≤ x ∧ x < ((j + 1 : Nat) : Int)) ∧ (bestF l t j).length ≤ j + 1 := ⟨fun x hx => by have := h1 x hx; omega, by omega⟩
    have one : (∀ x ∈ [(j : Int)], 0 ≤ x ∧ x < ((j + 1 : Nat) : Int)) ∧ [(j : Int)].length ≤ j + 1 := ⟨fun x hx => by simp at hx; omega, by simp⟩
    have both : (∀ x ∈ bestF l t j ++ [(j : Int)], 0 ≤ x ∧ x < ((j + 1 : Nat) : Int)) ∧ (bestF l t j ++ [(j : Int)]).length ≤ j + 1 := by
      refine ⟨fun x hx => ?_, by simp; omega⟩
      rcases List.mem_append.1 hx with hx | hx
      · exact up.1 x hx
      · exact one.1 x hx
    unfold bestF stepB
    split
    · exact up
    · split
      · exact up
      · split
        · exact one
        · split
          · exact one
          · split
            · exact both
            · exact up
/-- The one that the draw takes of the best ones; -1, if there is none. -/
def chosen (best : List Int) (d : Int) : Int := if best = [] then -1 else rd best (mx d 0 % (best.length : Int))
def pick_Next.f (l : List S42) (t d : Int) : Option Int := if l.length ≤ 1000000 then some (chosen (bestF l t l.length) d) else none

def Rel (w : World) (l : List S42) (t : Int) (v i : Value) (wr : World) : Prop :=
  ∃ (j : Nat), j ≤ l.length ∧ i = .int .i64 j ∧ Kd.R (Kd.int .i64) 3 wr w.heap.size (fun _ => True) v (bestF l t j) ∧ Below w.heap.size w wr
theorem Rel.mk {w : World} {l : List S42} {t : Int} {v : Value} {wr : World} (j : Nat) (best : List Int) (hj : j < l.length) (hb : bestF l t j = best) {best' : List Int} (hs : stepB l t best (j : Int) = best') (hr : Kd.R (Kd.int .i64) 3 wr w.heap.size (fun _ => True) v best') (HB : Below w.heap.size w wr) : Rel w l t v (.int .i64 ((j : Int) + 1)) wr :=
  ⟨j + 1, by omega, by go_num, by rw [bestF, hb, hs]; exact hr, HB⟩

set_option maxHeartbeats 4000000 in
theorem pick_Next.calls (A0 : Option Addr) (c0 : Nat) (l0 : List S42) (a1 a2 r : Int) (w : World) (hr0 : Kd.C k42 w A0 l0.length l0) (hc0 : l0.length ≤ c0) (h : pick_Next.f l0 a1 a2 = some r) :
    Calls Try.prog 27 #[.slice A0 l0.length c0, .int .i64 a1, .int .i64 a2] w fun e w' => e = .returned (.int .i64 r) ∧ Below w.heap.size w w' := by
  have HB := Aside0.mk (Below.refl w.heap.size w)
  have HR0 := Aside0.mk hr0
  have HC0 := Aside0.mk hc0
  clear hr0 hc0
  unfold pick_Next.f at h
  have hl : l0.length ≤ 1000000 := by
    by_cases hl : l0.length ≤ 1000000
    · exact hl
    · rw [if_neg hl] at h; cases h
  rw [if_pos hl] at h
  have Hr := Aside0.mk (Option.some.inj h)
  clear h
  go_enter Try.func27, Try.ntmps27
  go_wp2
  go_loopw [7, 12] (fun v i wr => Rel w l0 a1 v i wr) (fun _ i _ => l0.length - (intOf i).toNat)
  case atStart => exact ⟨0, Nat.zero_le _, rfl, Kd.R_nil _ _ _ _ _, HB.out⟩
  case round =>
    clear HB
    obtain ⟨j, hj, rfl, hown, hbel⟩ := hrel
    have HB := Aside0.mk hbel
    obtain ⟨best, hbest⟩ : ∃ b, bestF l0 a1 j = b := ⟨_, rfl⟩
    have hlt := bestF_lt l0 a1 j
    rw [hbest] at hown hlt
    have HBE := Aside0.mk hbest
    have HLT := Aside0.mk hlt
    have hbl : best.length ≤ 1000000 := by have := hlt.2; omega
    clear hbel hbest hlt
    obtain ⟨A7, c7, e7⟩ := Kd.R_slice hown
    subst e7
    have HO := Aside0.mk hown
    clear hown
    by_cases hjl : j < l0.length
    · obtain ⟨ad, A1, c1, rfl, hx0, hx1, hx2, _, _⟩ := at_T42 (by repeat (first | exact (Kd.C_below HR0.out HB.out) | (with_reducible refine Kd.C_alloc ?_ _) | (with_reducible refine Kd.C_drewN ?_ _) | (with_reducible refine Kd.C_drew ?_))) (j : Int) (by omega) (by omega)
      obtain ⟨n0, hn0⟩ : ∃ n, (rd_T42 l0 (j : Int)).f0.length = n := ⟨_, rfl⟩
      obtain ⟨cnt, hcnt⟩ : ∃ n, (rd_T42 l0 (j : Int)).f1 = n := ⟨_, rfl⟩
      obtain ⟨bad, hbad⟩ : ∃ n, (rd_T42 l0 (j : Int)).f2 = n := ⟨_, rfl⟩
      rw [hn0] at hx0
      rw [hcnt] at hx1
      rw [hbad] at hx2
      simp only [Int.toNat_natCast] at hx0 hx1 hx2
      have HC := Aside0.mk hcnt
      have HD := Aside0.mk hbad
      clear hn0 hcnt hbad
      have hw7 := best.length
      cases bad with
      | true =>
        have hs : stepB l0 a1 best (j : Int) = best := by unfold stepB; rw [if_pos HD.out]
        have HS := Aside0.mk hs
        clear hs
        go_wp2
        go_roundw
        case rel => exact Rel.mk j best hjl HBE.out HS.out (by (with_reducible repeat (first | apply Kd.R_alloc | apply Kd.R_drewN | apply Kd.R_drew)); exact HO.out) (by repeat (first | (with_reducible first | exact HB.out | apply below_alloc | apply pw_below_drewN | apply below_drew1) | exact HB.out))
        case measure => simp [intOf]; omega
      | false =>
        by_cases hge : a1 ≤ cnt
        · have hs : stepB l0 a1 best (j : Int) = best := by unfold stepB; rw [if_neg (by rw [HD.out]; decide), if_pos (by rw [HC.out]; exact hge)]
          have HS := Aside0.mk hs
          have hgb := decide_eq_true hge
          clear hs hge
          go_wp2
          go_roundw
          case rel => exact Rel.mk j best hjl HBE.out HS.out (by (with_reducible repeat (first | apply Kd.R_alloc | apply Kd.R_drewN | apply Kd.R_drew)); exact HO.out) (by repeat (first | (with_reducible first | exact HB.out | apply below_alloc | apply pw_below_drewN | apply below_drew1) | exact HB.out))
          case measure => simp [intOf]; omega
        · have hgb := decide_eq_false hge
          cases best with
          | nil =>
            have hs : stepB l0 a1 [] (j : Int) = [(j : Int)] := by unfold stepB; rw [if_neg (by rw [HD.out]; decide), if_neg (by rw [HC.out]; exact hge), if_pos rfl]
            have HS := Aside0.mk hs
            clear hs hge
            go_wp2
            go_quiet (fail)
            go_wp2_with ((with_reducible refine gate_dst (N := 43) rfl ?_); refine Kd.R_lit (Kd.int .i64) _ 3 ?hg (N := 43) ?hd (xs := ([(j : Int)] : List Int)) (inner := [.int .i64 (j : Int)]) (ok := fun _ => True) (okp := fun _ => True) ?hr ?hp (fun _ hk => hk) trivial (Below.refl _ _) (Nat.le_refl _) (by simp) ?_; (case hd => rfl); (case hg => rfl); (case hr => first | (go_simp; done) | (go_simp; rfl)); (case hp => exact (Reps.one (show Kd.M (Kd.int .i64) _ _ _ (j : Int) [.int .i64 (j : Int)] from rfl) (Reps.none _ _))); intro v1 w1 ho hb _ _; have HO1 := Aside0.mk (Kd.R_lower ho (below_size (by repeat (first | (with_reducible first | exact HB.out | apply below_alloc | apply pw_below_drewN | apply below_drew1) | exact HB.out)))); have n0_ := Aside0.mk (below_step (by repeat (first | (with_reducible first | exact HB.out | apply below_alloc | apply pw_below_drewN | apply below_drew1) | exact HB.out)) hb); clear HB; have HB := n0_; clear n0_; clear hb ho)
            go_roundw
            case rel => exact Rel.mk j [] hjl HBE.out HS.out (by (with_reducible repeat (first | apply Kd.R_alloc | apply Kd.R_drewN | apply Kd.R_drew)); exact HO1.out) (by repeat (first | (with_reducible first | exact HB.out | apply below_alloc | apply pw_below_drewN | apply below_drew1) | exact HB.out))
            case measure => simp [intOf]; omega
          | cons b rest =>
            obtain ⟨g7, cap7, e7, gb7, _, _⟩ := Kd.R_form HO.out (by simp)
            injection e7 with ea en ec
            subst ea ec
            clear en gb7
            have hb0 := (HLT.out).1 b (by simp)
            obtain ⟨nb, rfl⟩ := Int.eq_ofNat_of_zero_le hb0.1
            have hx := (Kd.R_celln 0 HO.out (0 : Int) (by omega) (by simp)).1
            have e0 : rdOf (0 : Int) ((nb : Int) :: rest) 0 = (nb : Int) := rfl
            rw [e0] at hx
            simp only [Int.toNat_zero] at hx
            have e1 : rd ((nb : Int) :: rest) 0 = (nb : Int) := rfl
            obtain ⟨ad2, A2, c2, ea2, _, hy1, _, _, _⟩ := at_T42 (by repeat (first | exact (Kd.C_below HR0.out HB.out) | (with_reducible refine Kd.C_alloc ?_ _) | (with_reducible refine Kd.C_drewN ?_ _) | (with_reducible refine Kd.C_drew ?_))) (nb : Int) (by omega) (by omega)
            cases ea2
            obtain ⟨cnt2, hcnt2⟩ : ∃ n, (rd_T42 l0 (nb : Int)).f1 = n := ⟨_, rfl⟩
            rw [hcnt2] at hy1
            simp only [Int.toNat_natCast] at hy1
            have HC2 := Aside0.mk hcnt2
            have hy1a : ∀ o : Obj, (wr.alloc o).cell? ⟨(ad.add (nb * 3)).block, (ad.add (nb * 3)).off + 1, none⟩ = some (.int .i64 cnt2) := fun o => pw_cell_below (below_alloc (Below.refl _ _) o) hy1
            clear hcnt2 e0
            have hnb : nb < l0.length := by omega
            have hz : ((rest.length : Int) + 1 == 0) = false := by rw [beq_eq_false_iff_ne]; omega
            by_cases hlt : cnt < cnt2
            · have hs : stepB l0 a1 ((nb : Int) :: rest) (j : Int) = [(j : Int)] := by
                unfold stepB
                rw [if_neg (by rw [HD.out]; decide), if_neg (by rw [HC.out]; exact hge), if_neg (by simp), e1, if_pos (by rw [HC.out, HC2.out]; exact hlt)]
              have HS := Aside0.mk hs
              have hltb := decide_eq_true hlt
              clear hs hge hlt
              go_wp2
              go_quiet (fail)
              go_wp2_with ((with_reducible refine gate_dst (N := 43) rfl ?_); refine Kd.R_lit (Kd.int .i64) _ 3 ?hg (N := 43) ?hd (xs := ([(j : Int)] : List Int)) (inner := [.int .i64 (j : Int)]) (ok := fun _ => True) (okp := fun _ => True) ?hr ?hp (fun _ hk => hk) trivial (Below.refl _ _) (Nat.le_refl _) (by simp) ?_; (case hd => rfl); (case hg => rfl); (case hr => first | (go_simp; done) | (go_simp; rfl)); (case hp => exact (Reps.one (show Kd.M (Kd.int .i64) _ _ _ (j : Int) [.int .i64 (j : Int)] from rfl) (Reps.none _ _))); intro v1 w1 ho hb _ _; have HO1 := Aside0.mk (Kd.R_lower ho (below_size (by repeat (first | (with_reducible first | exact HB.out | apply below_alloc | apply pw_below_drewN | apply below_drew1) | exact HB.out)))); have n0_ := Aside0.mk (below_step (by repeat (first | (with_reducible first | exact HB.out | apply below_alloc | apply pw_below_drewN | apply below_drew1) | exact HB.out)) hb); clear HB; have HB := n0_; clear n0_; clear hb ho)
              go_roundw
              case rel => exact Rel.mk j _ hjl HBE.out HS.out (by (with_reducible repeat (first | apply Kd.R_alloc | apply Kd.R_drewN | apply Kd.R_drew)); exact HO1.out) (by repeat (first | (with_reducible first | exact HB.out | apply below_alloc | apply pw_below_drewN | apply below_drew1) | exact HB.out))
              case measure => simp [intOf]; omega
            · by_cases heq : cnt = cnt2
              · have hs : stepB l0 a1 ((nb : Int) :: rest) (j : Int) = ((nb : Int) :: rest) ++ [(j : Int)] := by
                  unfold stepB
                  rw [if_neg (by rw [HD.out]; decide), if_neg (by rw [HC.out]; exact hge), if_neg (by simp), e1, if_neg (by rw [HC.out, HC2.out]; exact hlt), if_pos (by rw [HC.out, HC2.out]; exact heq)]
                have HS := Aside0.mk hs
                have hltb := decide_eq_false hlt
                have heqb : (cnt == cnt2) = true := beq_iff_eq.2 heq
                clear hs hge hlt heq
                go_wp2
                go_quiet (fail)
                go_wp2
                go_quiet (fail)
                generalize hW : (wr.alloc (.cells #[.slice A1 n0 c1, .int .i64 cnt, .bool false] 42)).drewN _ = wx
                have hb1 : Below w.heap.size w wx := by rw [← hW]; exact (by repeat (first | (with_reducible first | exact HB.out | apply below_alloc | apply pw_below_drewN | apply below_drew1) | exact HB.out))
                have ho1 : Kd.R (Kd.int .i64) 3 wx w.heap.size (fun _ => True) (.slice (some ⟨g7, 0, none⟩) ((nb : Int) :: rest).length c7) ((nb : Int) :: rest) := by rw [← hW]; exact (by (with_reducible repeat (first | apply Kd.R_alloc | apply Kd.R_drewN | apply Kd.R_drew)); exact HO.out)
                clear hW HB HO
                have HB := Aside0.mk hb1
                have HO := Aside0.mk ho1
                clear hb1 ho1
                go_wp2_with ((with_reducible refine gate_builtin (b := .append) (xs := #[.tmp 55, .tmp 57]) rfl ?_); at_builtin; refine Kd.R_append (Kd.int .i64) (w0 := w) w.heap.size rfl (.tmp 55) (.tmp 57) 40 3 (.int .i64 0) 8 rfl Try.underlying40 infoI rfl (by decide) (by omega) _ ((nb : Int) :: rest) (j : Int) [.int .i64 (j : Int)] (fun _ => True) (fun _ => False) rfl rfl ?aP (fun _ hk => hk.elim) ?aF ?aO ?aB ?aS ?aL ?_; (case aP => exact rfl); (case aF => exact (fun _ _ => trivial)); (case aO => exact (by (with_reducible repeat (first | apply Kd.R_alloc | apply Kd.R_drewN | apply Kd.R_drew)); exact HO.out)); (case aB => exact (by repeat (first | (with_reducible first | exact HB.out | apply below_alloc | apply pw_below_drewN | apply below_drew1) | exact HB.out))); (case aS => exact (below_size (by repeat (first | (with_reducible first | exact HB.out | apply below_alloc | apply pw_below_drewN | apply below_drew1) | exact HB.out)))); (case aL => omega); intro v2 w2 ho hb hg _; clear HB; have HB := Aside0.mk hb; have HO1 := Aside0.mk ho; clear ho hb hg)
                go_roundw
                case rel => exact Rel.mk j _ hjl HBE.out HS.out (by (with_reducible repeat (first | apply Kd.R_alloc | apply Kd.R_drewN | apply Kd.R_drew)); exact HO1.out) (by repeat (first | (with_reducible first | exact HB.out | apply below_alloc | apply pw_below_drewN | apply below_drew1) | exact HB.out))
                case measure => simp [intOf]; omega
              · have hs : stepB l0 a1 ((nb : Int) :: rest) (j : Int) = ((nb : Int) :: rest) := by
                  unfold stepB
                  rw [if_neg (by rw [HD.out]; decide), if_neg (by rw [HC.out]; exact hge), if_neg (by simp), e1, if_neg (by rw [HC.out, HC2.out]; exact hlt), if_neg (by rw [HC.out, HC2.out]; exact heq)]
                have HS := Aside0.mk hs
                have hltb := decide_eq_false hlt
                have heqb : (cnt == cnt2) = false := beq_eq_false_iff_ne.2 heq
                clear hs hge hlt heq
                go_wp2
                go_quiet (fail)
                go_wp2
                go_quiet (fail)
                go_wp2
                go_roundw
                case rel => exact Rel.mk j _ hjl HBE.out HS.out (by (with_reducible repeat (first | apply Kd.R_alloc | apply Kd.R_drewN | apply Kd.R_drew)); exact HO.out) (by repeat (first | (with_reducible first | exact HB.out | apply below_alloc | apply pw_below_drewN | apply below_drew1) | exact HB.out))
                case measure => simp [intOf]; omega
    · obtain rfl : j = l0.length := by omega
      cases best with
      | nil =>
        have hr : r = -1 := by rw [← Hr.out, HBE.out]; rfl
        clear hjl hj
        go_wp2
        go_ret
        exact ⟨by rw [hr]; rfl, (by repeat (first | (with_reducible first | exact HB.out | apply below_alloc | apply pw_below_drewN | apply below_drew1) | exact HB.out))⟩
      | cons b rest =>
        obtain ⟨g7, cap7, e7, gb7, _, _⟩ := Kd.R_form HO.out (by simp)
        injection e7 with ea en ec
        subst ea ec
        clear en gb7
        by_cases hd : a2 < 0
        · have hr : r = b := by
            rw [← Hr.out, HBE.out]
            have : mx a2 0 = 0 := by unfold mx; rw [if_pos hd]
            simp [chosen, this, rd]
          have hx := (Kd.R_celln 0 HO.out (0 : Int) (by omega) (by simp)).1
          have e0 : rdOf (0 : Int) (b :: rest) 0 = b := rfl
          rw [e0, ← hr] at hx
          simp only [Int.toNat_zero] at hx
          clear e0 hjl hj hr
          go_wp2
          go_ret
          exact ⟨rfl, (by repeat (first | (with_reducible first | exact HB.out | apply below_alloc | apply pw_below_drewN | apply below_drew1) | exact HB.out))⟩
        · obtain ⟨q, hq⟩ : ∃ q, a2 % ((rest.length : Int) + 1) = q := ⟨_, rfl⟩
          have hq0 : 0 ≤ q := by rw [← hq]; exact Int.emod_nonneg _ (by omega)
          have hq1 : q < (rest.length : Int) + 1 := by rw [← hq]; exact Int.emod_lt_of_pos _ (by omega)
          have hr : r = rd (b :: rest) q := by
            rw [← Hr.out, HBE.out, ← hq]
            have : mx a2 0 = a2 := by unfold mx; rw [if_neg hd]
            simp [chosen, this]
          have hx := (Kd.R_celln 0 HO.out q hq0 (by simp; omega)).1
          have e0 : rdOf (0 : Int) (b :: rest) q = rd (b :: rest) q := rfl
          rw [e0, ← hr] at hx
          have hd0 : 0 ≤ a2 := by omega
          clear e0 hjl hj hr
          go_wp2
          go_ret
          exact ⟨rfl, (by repeat (first | (with_reducible first | exact HB.out | apply below_alloc | apply pw_below_drewN | apply below_drew1) | exact HB.out))⟩
end Go.Proofs.Ytaappkompmdjnaa.G
