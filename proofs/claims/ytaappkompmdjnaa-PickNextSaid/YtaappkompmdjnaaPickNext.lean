/- Which one is next: one of the least Count that are not bad, by the draw; none, if all have been asked as often as may be: the walk of the statement's own text. Conditions: none. -/
import Derived.Test.YtaappkompmdjnaaHPickBadx1
import Derived.Test.YtaappkompmdjnaaPickl
import Derived.Test.YtaappkompmdjnaaOpenT
import Derived.Below
import Derived.Deep.Draws
import Derived.Deep.AppendLies
import Derived.Maps.AppendAt
import Derived.OwnWalk
import Derived.Laws.BytesArg
import Derived.Laws.MakeOwn
import Derived.Laws.OwnMore
import Derived.Deep.OwnRows
import Derived.Tactics
import Derived.Lib.ConvBytes
import Derived.Laws.Slices
import Derived.WalkKit
import Derived.KernelRfl
import Derived.RowKit3
import Derived.Deep.LoopGhost
import Derived.Deep.QuietTactic
import Derived.BigQuiet
import Derived.WideLaws
import Derived.Deep.DeepCutAuto
import Derived.Deep.CutBlock
import Derived.Deep.RegionHeld3
import Derived.Laws.Rows
import Derived.Lib.AppendStr
import Derived.ArgAppend
import Derived.Laws.IdiomCopy
import Derived.OrdersHeld
import Derived.Laws.BitsLemmas
import Derived.RowKit
namespace Go.Proofs.Ytaappkompmdjnaa.PickNext
open Go.Proofs.Ytaappkompmdjnaa.G Go.Proofs.Ytaappkompmdjnaa.BPick
open Go.Proofs.Ytaappkompmdjnaa.Open (okTried)
open Go.RowKit Go.Proofs.YtaappkompmdjnaaW.PrintWords Go.Proofs.YtaappkompmdjnaaW.PrintLast Go.Proofs.YtaappkompmdjnaaW.PrintMore Go.Proofs.Ytaappkompmdjnaa.Plain
attribute [local go_sem] max2_int min2_int max_two min_two max_three min_three max_four min_four
set_option linter.unusedVariables false
set_option linter.unusedSimpArgs false
theorem answers_yes : HPickBad.gazetteerlaw19_answers.f = some true := by decide +kernel
set_option maxHeartbeats 1000000 in
theorem large (A0 : Option Addr) (c0 : Nat) (l0 : List S42) (a1 a2 : Int) (w : World) (hm : l0.length ≤ 9223372036854775807) (hl : 3000 < (l0.length : Int)) :
    Calls Try.prog 8 #[.slice A0 l0.length c0, .int .i64 a1, .int .i64 a2] w fun e w' => e = .returned (.bool true) ∧ Below w.heap.size w w' := by
  have HB := Aside0.mk (Below.refl w.heap.size w)
  have hb := decide_eq_true hl
  clear hl
  go_enter Try.func8, Try.ntmps8
  go_wp2_with (go_at_call 26; (with_reducible refine (HPickBad.gazetteerlaw19_answers.calls true _ answers_yes).mono ?_); rintro e w1 ⟨rfl, hb⟩; have n0_ := Aside0.mk (below_step (by repeat (first | (with_reducible first | exact HB.out | apply below_alloc | apply pw_below_drewN | apply below_drew1) | exact HB.out)) hb); clear HB; have HB := n0_; clear n0_; clear hb)
  go_ret
  exact ⟨rfl, (by repeat (first | (with_reducible first | exact HB.out | apply below_alloc | apply pw_below_drewN | apply below_drew1) | exact HB.out))⟩

set_option maxHeartbeats 4000000 in
theorem small (A0 : Option Addr) (c0 : Nat) (l0 : List S42) (a1 a2 : Int) (w : World) (hr0 : Kd.C k42 w A0 l0.length l0) (hc0 : l0.length ≤ c0) (hl : (l0.length : Int) ≤ 3000) (hown : G.gazetteerlaw19_own.f l0 = some l0) :
    Calls Try.prog 8 #[.slice A0 l0.length c0, .int .i64 a1, .int .i64 a2] w fun e w' => e = .returned (.bool true) ∧ Below w.heap.size w w' := by
  have HB := Aside0.mk (Below.refl w.heap.size w)
  have HR0 := Aside0.mk hr0
  have HC0 := Aside0.mk hc0
  have HOWN := Aside0.mk hown
  have hb := decide_eq_false (show ¬ 3000 < (l0.length : Int) by omega)
  have hl2 : l0.length ≤ 3000 := by omega
  obtain ⟨kk, hkk⟩ : ∃ kk, chosen (bestF l0 a1 l0.length) a2 = kk := ⟨_, rfl⟩
  have HN := Aside0.mk (show pick_Next.f l0 a1 a2 = some kk by unfold pick_Next.f; rw [if_pos (by omega), hkk])
  have HK := Aside0.mk hkk
  clear hr0 hc0 hown hkk hl
  go_enter Try.func8, Try.ntmps8
  go_wp2_with (first | (go_at_call 26; (with_reducible refine (HPickBad.gazetteerlaw19_answers.calls true _ answers_yes).mono ?_); rintro e w1 ⟨rfl, hb⟩; have n0_ := Aside0.mk (below_step (by repeat (first | (with_reducible first | exact HB.out | apply below_alloc | apply pw_below_drewN | apply below_drew1) | exact HB.out)) hb); clear HB; have HB := n0_; clear n0_; clear hb) | (go_at_call 28; (with_reducible refine (G.gazetteerlaw19_own.calls A0 c0 l0 l0 _ ?s1 ?s2 HOWN.out).mono ?_); (case s1 => exact (by repeat (first | exact (Kd.C_below HR0.out HB.out) | (with_reducible refine Kd.C_alloc ?_ _) | (with_reducible refine Kd.C_drewN ?_ _) | (with_reducible refine Kd.C_drew ?_)))); (case s2 => exact HC0.out); rintro e w2 ⟨v2, rfl, ho, hb⟩; have n0_ := Aside0.mk (below_step (by repeat (first | (with_reducible first | exact HB.out | apply below_alloc | apply pw_below_drewN | apply below_drew1) | exact HB.out)) hb); clear HB; have HB := n0_; clear n0_; obtain ⟨A2, c2, e2⟩ := Kd.S_slice ho; subst e2; have HS2 := Aside0.mk ho; clear hb ho) | (go_at_call 27; (with_reducible refine (pick_Next.calls A2 c2 l0 a1 a2 kk _ ?s1 ?s2 HN.out).mono ?_); (case s1 => exact (Kd.S_reads' HS2.out).2.2); (case s2 => exact (Kd.S_reads' HS2.out).2.1); rintro e w3 ⟨rfl, hb⟩; have n0_ := Aside0.mk (below_step (by repeat (first | (with_reducible first | exact HB.out | apply below_alloc | apply pw_below_drewN | apply below_drew1) | exact HB.out)) hb); clear HB; have HB := n0_; clear n0_; clear hb HS2))
  go_loopw [8, 9] (fun v i wr => Rel w l0 a1 v i wr) (fun _ i _ => l0.length - (intOf i).toNat)
  case atStart => exact ⟨0, Nat.zero_le _, rfl, Kd.R_nil _ _ _ _ _, HB.out⟩
  case round =>
    clear HB
    obtain ⟨j, hj, rfl, hown, hbel⟩ := hrel
    have HB := Aside0.mk hbel
    obtain ⟨best, hbest⟩ : ∃ b, bestF l0 a1 j = b := ⟨_, rfl⟩
    have hlt := bestF_lt l0 a1 j
    rw [hbest] at hown hlt
    have HBE := Aside0.mk hbest
    have HLT := Aside0.mk hlt
    have hbl : best.length ≤ 3000 := by have := hlt.2; omega
    clear hbel hbest hlt
    obtain ⟨A7, c7, e7⟩ := Kd.R_slice hown
    subst e7
    have HO := Aside0.mk hown
    clear hown
    by_cases hjl : j < l0.length
    · obtain ⟨ad, A1, c1, rfl, hx0, hx1, hx2, _, _⟩ := at_T42 (by repeat (first | exact (Kd.C_below HR0.out HB.out) | (with_reducible refine Kd.C_alloc ?_ _) | (with_reducible refine Kd.C_drewN ?_ _) | (with_reducible refine Kd.C_drew ?_))) (j : Int) (by omega) (by omega)
      obtain ⟨n0, hn0⟩ : ∃ n, (rd_T42 l0 (j : Int)).f0.length = n := ⟨_, rfl⟩
      obtain ⟨cnt, hcnt⟩ : ∃ n, (rd_T42 l0 (j : Int)).f1 = n := ⟨_, rfl⟩
      obtain ⟨bad, hbad⟩ : ∃ n, (rd_T42 l0 (j : Int)).f2 = n := ⟨_, rfl⟩
      rw [hn0] at hx0
      rw [hcnt] at hx1
      rw [hbad] at hx2
      simp only [Int.toNat_natCast] at hx0 hx1 hx2
      have HC := Aside0.mk hcnt
      have HD := Aside0.mk hbad
      clear hn0 hcnt hbad
      cases bad with
      | true =>
        have HS := Aside0.mk (show stepB l0 a1 best (j : Int) = best by unfold stepB; rw [if_pos HD.out])
        go_wp2
        go_roundw
        case rel => exact Rel.mk j best hjl HBE.out HS.out (by (with_reducible repeat (first | apply Kd.R_alloc | apply Kd.R_drewN | apply Kd.R_drew)); exact HO.out) (by repeat (first | (with_reducible first | exact HB.out | apply below_alloc | apply pw_below_drewN | apply below_drew1) | exact HB.out))
        case measure => simp [intOf]; omega
      | false =>
        by_cases hge : a1 ≤ cnt
        · have HS := Aside0.mk (show stepB l0 a1 best (j : Int) = best by unfold stepB; rw [if_neg (by rw [HD.out]; decide), if_pos (by rw [HC.out]; exact hge)])
          have hgb := decide_eq_true hge
          clear hge
          go_wp2
          go_roundw
          case rel => exact Rel.mk j best hjl HBE.out HS.out (by (with_reducible repeat (first | apply Kd.R_alloc | apply Kd.R_drewN | apply Kd.R_drew)); exact HO.out) (by repeat (first | (with_reducible first | exact HB.out | apply below_alloc | apply pw_below_drewN | apply below_drew1) | exact HB.out))
          case measure => simp [intOf]; omega
        · have hgb := decide_eq_false hge
          cases best with
          | nil =>
            have HS := Aside0.mk (show stepB l0 a1 [] (j : Int) = [] ++ [(j : Int)] by unfold stepB; rw [if_neg (by rw [HD.out]; decide), if_neg (by rw [HC.out]; exact hge), if_pos rfl]; rfl)
            clear hge
            go_wp2
            go_quiet (fail)
            go_wp2
            go_quiet (fail)
            generalize hW : (wr.alloc (.cells #[.slice A1 n0 c1, .int .i64 cnt, .bool false] 42)).drewN _ = wx
            have hb1 : Below w.heap.size w wx := by rw [← hW]; exact (by repeat (first | (with_reducible first | exact HB.out | apply below_alloc | apply pw_below_drewN | apply below_drew1) | exact HB.out))
            have ho1 : Kd.R (Kd.int .i64) 3 wx w.heap.size (fun _ => True) (.slice A7 ([] : List Int).length c7) [] := by rw [← hW]; exact (by (with_reducible repeat (first | apply Kd.R_alloc | apply Kd.R_drewN | apply Kd.R_drew)); exact HO.out)
            clear hW HB HO
            have HB := Aside0.mk hb1
            have HO := Aside0.mk ho1
            clear hb1 ho1
            go_wp2_with ((with_reducible refine gate_builtin (b := .append) (xs := #[.tmp 72, .tmp 74]) rfl ?_); at_builtin; refine Kd.R_append (Kd.int .i64) (w0 := w) w.heap.size rfl (.tmp 72) (.tmp 74) 40 3 (.int .i64 0) 8 rfl Try.underlying40 infoI rfl (by decide) (by omega) (.slice A7 ([] : List Int).length c7) [] (j : Int) [.int .i64 (j : Int)] (fun _ => True) (fun _ => False) rfl rfl ?aP (fun _ hk => hk.elim) ?aF ?aO ?aB ?aS ?aL ?_; (case aP => exact rfl); (case aF => exact (fun _ _ => trivial)); (case aO => exact (by (with_reducible repeat (first | apply Kd.R_alloc | apply Kd.R_drewN | apply Kd.R_drew)); exact HO.out)); (case aB => exact (by repeat (first | (with_reducible first | exact HB.out | apply below_alloc | apply pw_below_drewN | apply below_drew1) | exact HB.out))); (case aS => exact (below_size (by repeat (first | (with_reducible first | exact HB.out | apply below_alloc | apply pw_below_drewN | apply below_drew1) | exact HB.out)))); (case aL => first | omega | (simp; omega) | decide); intro v2 w2 ho hb hg _; clear HB; have HB := Aside0.mk hb; have HO1 := Aside0.mk ho; clear ho hb hg)
            go_roundw
            case rel => exact Rel.mk j [] hjl HBE.out HS.out (by (with_reducible repeat (first | apply Kd.R_alloc | apply Kd.R_drewN | apply Kd.R_drew)); exact HO1.out) (by repeat (first | (with_reducible first | exact HB.out | apply below_alloc | apply pw_below_drewN | apply below_drew1) | exact HB.out))
            case measure => simp [intOf]; omega
          | cons b rest =>
            obtain ⟨g7, cap7, e7, gb7, _, _⟩ := Kd.R_form HO.out (by simp)
            injection e7 with ea en ec
            subst ea ec
            clear en gb7
            have hb0 := (HLT.out).1 b (by simp)
            obtain ⟨nb, rfl⟩ := Int.eq_ofNat_of_zero_le hb0.1
            have hx := (Kd.R_celln 0 HO.out (0 : Int) (by omega) (by simp)).1
            have e0 : rdOf (0 : Int) ((nb : Int) :: rest) 0 = (nb : Int) := rfl
            rw [e0] at hx
            simp only [Int.toNat_zero] at hx
            have e1 : rd ((nb : Int) :: rest) 0 = (nb : Int) := rfl
            obtain ⟨ad2, A2, c2, ea2, _, hy1, _, _, _⟩ := at_T42 (by repeat (first | exact (Kd.C_below HR0.out HB.out) | (with_reducible refine Kd.C_alloc ?_ _) | (with_reducible refine Kd.C_drewN ?_ _) | (with_reducible refine Kd.C_drew ?_))) (nb : Int) (by omega) (by omega)
            cases ea2
            obtain ⟨cnt2, hcnt2⟩ : ∃ n, (rd_T42 l0 (nb : Int)).f1 = n := ⟨_, rfl⟩
            rw [hcnt2] at hy1
            simp only [Int.toNat_natCast] at hy1
            have HC2 := Aside0.mk hcnt2
            have hy1a : ∀ o : Obj, (wr.alloc o).cell? ⟨(ad.add (nb * 3)).block, (ad.add (nb * 3)).off + 1, none⟩ = some (.int .i64 cnt2) := fun o => pw_cell_below (below_alloc (Below.refl _ _) o) hy1
            clear hcnt2 e0
            have hnb : nb < l0.length := by omega
            have hz : ((rest.length : Int) + 1 == 0) = false := by rw [beq_eq_false_iff_ne]; omega
            have hz2 : decide (0 < (rest.length : Int) + 1) = true := decide_eq_true (by omega)
            by_cases hlt : cnt < cnt2
            · have HS := Aside0.mk (show stepB l0 a1 ((nb : Int) :: rest) (j : Int) = [] ++ [(j : Int)] by
                unfold stepB
                rw [if_neg (by rw [HD.out]; decide), if_neg (by rw [HC.out]; exact hge), if_neg (by simp), e1, if_pos (by rw [HC.out, HC2.out]; exact hlt)]; rfl)
              have hltb := decide_eq_true hlt
              clear hge hlt
              go_wp2
              go_quiet (fail)
              go_wp2
              go_quiet (fail)
              generalize hW : (wr.alloc (.cells #[.slice A1 n0 c1, .int .i64 cnt, .bool false] 42)).drewN _ = wx
              have hb1 : Below w.heap.size w wx := by rw [← hW]; exact (by repeat (first | (with_reducible first | exact HB.out | apply below_alloc | apply pw_below_drewN | apply below_drew1) | exact HB.out))
              have ho1 : Kd.R (Kd.int .i64) 3 wx w.heap.size (fun _ => True) (.slice (some ⟨g7, 0, none⟩) ((nb : Int) :: rest).length c7) ((nb : Int) :: rest) := by rw [← hW]; exact (by (with_reducible repeat (first | apply Kd.R_alloc | apply Kd.R_drewN | apply Kd.R_drew)); exact HO.out)
              clear hW HB HO
              have HB := Aside0.mk hb1
              have HO := Aside0.mk ho1
              clear hb1 ho1
              go_wp2_with ((with_reducible refine gate_builtin (b := .append) (xs := #[.tmp 72, .tmp 74]) rfl ?_); at_builtin; refine Kd.R_append (Kd.int .i64) (w0 := w) w.heap.size rfl (.tmp 72) (.tmp 74) 40 3 (.int .i64 0) 8 rfl Try.underlying40 infoI rfl (by decide) (by omega) (.slice none 0 0) [] (j : Int) [.int .i64 (j : Int)] (fun _ => True) (fun _ => False) rfl rfl ?aP (fun _ hk => hk.elim) ?aF ?aO ?aB ?aS ?aL ?_; (case aP => exact rfl); (case aF => exact (fun _ _ => trivial)); (case aO => exact (Kd.R_nil _ _ _ _ _)); (case aB => exact (by repeat (first | (with_reducible first | exact HB.out | apply below_alloc | apply pw_below_drewN | apply below_drew1) | exact HB.out))); (case aS => exact (below_size (by repeat (first | (with_reducible first | exact HB.out | apply below_alloc | apply pw_below_drewN | apply below_drew1) | exact HB.out)))); (case aL => first | omega | (simp; omega) | decide); intro v2 w2 ho hb hg _; clear HB; have HB := Aside0.mk hb; have HO1 := Aside0.mk ho; clear ho hb hg)
              go_roundw
              case rel => exact Rel.mk j _ hjl HBE.out HS.out (by (with_reducible repeat (first | apply Kd.R_alloc | apply Kd.R_drewN | apply Kd.R_drew)); exact HO1.out) (by repeat (first | (with_reducible first | exact HB.out | apply below_alloc | apply pw_below_drewN | apply below_drew1) | exact HB.out))
              case measure => simp [intOf]; omega
            · by_cases heq : cnt = cnt2
              · have HS := Aside0.mk (show stepB l0 a1 ((nb : Int) :: rest) (j : Int) = ((nb : Int) :: rest) ++ [(j : Int)] by
                  unfold stepB
                  rw [if_neg (by rw [HD.out]; decide), if_neg (by rw [HC.out]; exact hge), if_neg (by simp), e1, if_neg (by rw [HC.out, HC2.out]; exact hlt), if_pos (by rw [HC.out, HC2.out]; exact heq)])
                have hltb := decide_eq_false hlt
                have heqb : (cnt == cnt2) = true := beq_iff_eq.2 heq
                clear hge hlt heq
                go_wp2
                go_quiet (fail)
                go_wp2
                go_quiet (fail)
                generalize hW : (wr.alloc (.cells #[.slice A1 n0 c1, .int .i64 cnt, .bool false] 42)).drewN _ = wx
                have hb1 : Below w.heap.size w wx := by rw [← hW]; exact (by repeat (first | (with_reducible first | exact HB.out | apply below_alloc | apply pw_below_drewN | apply below_drew1) | exact HB.out))
                have ho1 : Kd.R (Kd.int .i64) 3 wx w.heap.size (fun _ => True) (.slice (some ⟨g7, 0, none⟩) ((nb : Int) :: rest).length c7) ((nb : Int) :: rest) := by rw [← hW]; exact (by (with_reducible repeat (first | apply Kd.R_alloc | apply Kd.R_drewN | apply Kd.R_drew)); exact HO.out)
                clear hW HB HO
                have HB := Aside0.mk hb1
                have HO := Aside0.mk ho1
                clear hb1 ho1
                go_wp2_with ((with_reducible refine gate_builtin (b := .append) (xs := #[.tmp 72, .tmp 74]) rfl ?_); at_builtin; refine Kd.R_append (Kd.int .i64) (w0 := w) w.heap.size rfl (.tmp 72) (.tmp 74) 40 3 (.int .i64 0) 8 rfl Try.underlying40 infoI rfl (by decide) (by omega) _ ((nb : Int) :: rest) (j : Int) [.int .i64 (j : Int)] (fun _ => True) (fun _ => False) rfl rfl ?aP (fun _ hk => hk.elim) ?aF ?aO ?aB ?aS ?aL ?_; (case aP => exact rfl); (case aF => exact (fun _ _ => trivial)); (case aO => exact (by (with_reducible repeat (first | apply Kd.R_alloc | apply Kd.R_drewN | apply Kd.R_drew)); exact HO.out)); (case aB => exact (by repeat (first | (with_reducible first | exact HB.out | apply below_alloc | apply pw_below_drewN | apply below_drew1) | exact HB.out))); (case aS => exact (below_size (by repeat (first | (with_reducible first | exact HB.out | apply below_alloc | apply pw_below_drewN | apply below_drew1) | exact HB.out)))); (case aL => first | omega | (simp; omega) | decide); intro v2 w2 ho hb hg _; clear HB; have HB := Aside0.mk hb; have HO1 := Aside0.mk ho; clear ho hb hg)
                go_roundw
                case rel => exact Rel.mk j _ hjl HBE.out HS.out (by (with_reducible repeat (first | apply Kd.R_alloc | apply Kd.R_drewN | apply Kd.R_drew)); exact HO1.out) (by repeat (first | (with_reducible first | exact HB.out | apply below_alloc | apply pw_below_drewN | apply below_drew1) | exact HB.out))
                case measure => simp [intOf]; omega
              · have HS := Aside0.mk (show stepB l0 a1 ((nb : Int) :: rest) (j : Int) = ((nb : Int) :: rest) by
                  unfold stepB
                  rw [if_neg (by rw [HD.out]; decide), if_neg (by rw [HC.out]; exact hge), if_neg (by simp), e1, if_neg (by rw [HC.out, HC2.out]; exact hlt), if_neg (by rw [HC.out, HC2.out]; exact heq)])
                have hltb := decide_eq_false hlt
                have heqb : (cnt == cnt2) = false := beq_eq_false_iff_ne.2 heq
                clear hge hlt heq
                go_wp2
                go_quiet (fail)
                go_wp2
                go_quiet (fail)
                go_wp2
                go_roundw
                case rel => exact Rel.mk j _ hjl HBE.out HS.out (by (with_reducible repeat (first | apply Kd.R_alloc | apply Kd.R_drewN | apply Kd.R_drew)); exact HO.out) (by repeat (first | (with_reducible first | exact HB.out | apply below_alloc | apply pw_below_drewN | apply below_drew1) | exact HB.out))
                case measure => simp [intOf]; omega
    · obtain rfl : j = l0.length := by omega
      cases best with
      | nil =>
        have hk : kk = -1 := by rw [← HK.out, HBE.out]; rfl
        subst hk
        clear hjl hj
        go_wp2
        go_ret
        exact ⟨rfl, (by repeat (first | (with_reducible first | exact HB.out | apply below_alloc | apply pw_below_drewN | apply below_drew1) | exact HB.out))⟩
      | cons b rest =>
        obtain ⟨g7, cap7, e7, gb7, _, _⟩ := Kd.R_form HO.out (by simp)
        injection e7 with ea en ec
        subst ea ec
        clear en gb7
        by_cases hd : a2 < 0
        · have hr : kk = b := by
            rw [← HK.out, HBE.out]
            have : mx a2 0 = 0 := by unfold mx; rw [if_pos hd]
            simp [chosen, this, rd]
          have hx := (Kd.R_celln 0 HO.out (0 : Int) (by omega) (by simp)).1
          have e0 : rdOf (0 : Int) (b :: rest) 0 = b := rfl
          rw [e0, ← hr] at hx
          simp only [Int.toNat_zero] at hx
          clear e0 hjl hj hr
          go_wp2
          go_ret
          exact ⟨by simp, (by repeat (first | (with_reducible first | exact HB.out | apply below_alloc | apply pw_below_drewN | apply below_drew1) | exact HB.out))⟩
        · obtain ⟨q, hq⟩ : ∃ q, a2 % ((rest.length : Int) + 1) = q := ⟨_, rfl⟩
          have hq0 : 0 ≤ q := by rw [← hq]; exact Int.emod_nonneg _ (by omega)
          have hq1 : q < (rest.length : Int) + 1 := by rw [← hq]; exact Int.emod_lt_of_pos _ (by omega)
          have hr : kk = rd (b :: rest) q := by
            rw [← HK.out, HBE.out, ← hq]
            have : mx a2 0 = a2 := by unfold mx; rw [if_neg hd]
            simp [chosen, this]
          have hx := (Kd.R_celln 0 HO.out q hq0 (by simp; omega)).1
          have e0 : rdOf (0 : Int) (b :: rest) q = rd (b :: rest) q := rfl
          rw [e0, ← hr] at hx
          have hd0 : 0 ≤ a2 := by omega
          clear e0 hjl hj hr
          go_wp2
          go_ret
          exact ⟨by simp, (by repeat (first | (with_reducible first | exact HB.out | apply below_alloc | apply pw_below_drewN | apply below_drew1) | exact HB.out))⟩

theorem walk (w : World) (A0 : Option Addr) (c0 : Nat) (l0 : List S42) (hC : Kd.C k42 w A0 l0.length l0) (hc : l0.length ≤ c0) (hok : l0.length * 40 ≤ 140737488351232 ∧ ∀ x ∈ l0, okTried x)
    (a1 : Int) (w1 : (Lit.int .i64 a1).wf = true) (a2 : Int) (w2 : (Lit.int .i64 a2).wf = true) :
    Calls Try.prog 8 #[.slice A0 l0.length c0, .int .i64 a1, .int .i64 a2] w fun e w' => e = .returned (.bool true) ∧ Below w.heap.size w w' := by
  by_cases hl : 3000 < (l0.length : Int)
  · exact large A0 c0 l0 a1 a2 w (Kd.C_max hC) hl
  · refine small A0 c0 l0 a1 a2 w hC hc (by omega) ?_
    unfold G.gazetteerlaw19_own.f
    rw [if_pos]
    unfold ownOk
    simp only [Bool.and_eq_true, decide_eq_true_eq, List.all_eq_true]
    exact ⟨by omega, fun x hx => by have := (hok.2 x hx).1.1; omega⟩

end Go.Proofs.Ytaappkompmdjnaa.PickNext
