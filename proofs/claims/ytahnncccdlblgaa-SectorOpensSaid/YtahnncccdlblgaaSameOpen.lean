/- The two Opens tell the same: over lists. Conditions: bytes. -/
import Derived.Test.YtahnncccdlblgaaGropen
import Derived.Test.YtahnncccdlblgaaVals
namespace Go.Proofs.Ytahnncccdlblgaa.G
open Go.RowKit Go.Proofs.YtahnncccdlblgaaW.PrintWords Go.Proofs.YtahnncccdlblgaaW.PrintLast Go.Proofs.Ytahnncccdlblgaa.Plain
set_option linter.unusedSimpArgs false
theorem seg_be (l : List Int) (hb : bytesB l = true) (hl : l.length = 512) (j : Nat) (hj : j < 6) : be (fieldN l j) (szN j) = (l.take (offN j + szN j)).drop (offN j) := by
  have h := off_bd j
  have h3 := h.2.2.2 hj
  have hlen : ((l.take (offN j + szN j)).drop (offN j)).length = szN j := by rw [List.length_drop, List.length_take]; omega
  have := be_val ((l.take (offN j + szN j)).drop (offN j)) (fun x hx => bytesB_iff.1 hb x (List.mem_of_mem_take (List.mem_of_mem_drop hx)))
  rw [hlen] at this
  exact this
theorem take_app (l : List Int) (p s : Nat) : l.take p ++ (l.take (p + s)).drop p = l.take (p + s) := by
  have h := List.take_append_drop p (l.take (p + s))
  rw [List.take_take, Nat.min_eq_left (by omega)] at h
  exact h
theorem field_fit (l : List Int) (hb : bytesB l = true) (hl : l.length = 512) (j : Nat) (hj : j < 6) : fits (fieldN l j) (szN j : Int) = true := by
  have h := off_bd j
  have h3 := h.2.2.2 hj
  rw [fits_iff]
  have hv := val_bd ((l.take (offN j + szN j)).drop (offN j)) (fun x hx => bytesB_iff.1 hb x (List.mem_of_mem_take (List.mem_of_mem_drop hx)))
  have hlen : ((l.take (offN j + szN j)).drop (offN j)).length = szN j := by rw [List.length_drop, List.length_take]; omega
  rw [hlen] at hv
  refine ⟨by omega, by omega, hv.1, ?_⟩
  rw [Int.toNat_natCast]
  exact hv.2
theorem head_take (l : List Int) (hb : bytesB l = true) (hl : l.length = 512) : be (fieldN l 0) 1 ++ be (fieldN l 1) 4 ++ be (fieldN l 2) 7 ++ be (fieldN l 3) 1 ++ be (fieldN l 4) 1 ++ be (fieldN l 5) 2 = l.take 16 := by
  have e0 : be (fieldN l 0) 1 = (l.take (0 + 1)).drop 0 := seg_be l hb hl 0 (by omega)
  have e1 : be (fieldN l 1) 4 = (l.take (1 + 4)).drop 1 := seg_be l hb hl 1 (by omega)
  have e2 : be (fieldN l 2) 7 = (l.take (5 + 7)).drop 5 := seg_be l hb hl 2 (by omega)
  have e3 : be (fieldN l 3) 1 = (l.take (12 + 1)).drop 12 := seg_be l hb hl 3 (by omega)
  have e4 : be (fieldN l 4) 1 = (l.take (13 + 1)).drop 13 := seg_be l hb hl 4 (by omega)
  have e5 : be (fieldN l 5) 2 = (l.take (14 + 2)).drop 14 := seg_be l hb hl 5 (by omega)
  rw [e0, e1, e2, e3, e4, e5, List.drop_zero, show 0 + 1 = 1 from rfl, take_app, show 1 + 4 = 5 from rfl, take_app, show 5 + 7 = 12 from rfl, take_app, show 12 + 1 = 13 from rfl, take_app, show 13 + 1 = 14 from rfl, take_app]
theorem same_open (l : List Int) (hb : bytesB l = true) : ropenF l = openF l := by
  unfold ropenF openF
  by_cases hl : l.length = 512
  · rw [if_pos hl, if_pos hl]
    by_cases h5 : fieldN l 5 ≤ 496
    · rw [if_pos h5, if_pos h5]
      have hf := field_bd l hb 5
      have hdl : (dataN l).length = (fieldN l 5).toNat := by unfold dataN; rw [List.length_drop, List.length_take, hl]; omega
      have hcond : sealF (fieldN l 0) (fieldN l 1) (fieldN l 2) (fieldN l 3) (fieldN l 4) (dataN l) = (l, 0) ↔ (fieldN l 0 ≠ 0 ∧ fieldN l 4 ≠ 0 ∧ fieldN l 3 < fieldN l 4) ∧ (l.drop (16 + fieldN l 5).toNat).all (fun x => x == 0) = true := by
        have f0 := field_fit l hb hl 0 (by omega)
        have f1 := field_fit l hb hl 1 (by omega)
        have f2 := field_fit l hb hl 2 (by omega)
        have f3 := field_fit l hb hl 3 (by omega)
        have f4 := field_fit l hb hl 4 (by omega)
        have hh : headOk (fieldN l 0) (fieldN l 1) (fieldN l 2) (fieldN l 3) (fieldN l 4) = true ↔ (fieldN l 0 ≠ 0 ∧ fieldN l 4 ≠ 0 ∧ fieldN l 3 < fieldN l 4) := by
          have g0 : fits (fieldN l 0) 1 = true := f0
          have g1 : fits (fieldN l 1) 4 = true := f1
          have g2 : fits (fieldN l 2) 7 = true := f2
          have g3 : fits (fieldN l 3) 1 = true := f3
          have g4 : fits (fieldN l 4) 1 = true := f4
          unfold headOk
          rw [g0, g1, g2, g3, g4]
          simp
        obtain ⟨n, hn⟩ : ∃ n : Nat, fieldN l 5 = (n : Int) := ⟨(fieldN l 5).toNat, by omega⟩
        have hnl : (dataN l).length = n := by rw [hdl, hn]; rfl
        have hpre : sealB (fieldN l 0) (fieldN l 1) (fieldN l 2) (fieldN l 3) (fieldN l 4) (dataN l) = l.take (16 + n) ++ List.replicate (496 - n) 0 := by
          unfold sealB
          rw [hnl, ← hn, head_take l hb hl]
          congr 1
          unfold dataN
          rw [hn, show (16 + (n : Int)).toNat = 16 + n by omega, show (16 : Int).toNat = 16 from rfl]
          exact take_app l 16 n
        have htail : l.take (16 + n) ++ List.replicate (496 - n) 0 = l ↔ (l.drop (16 + fieldN l 5).toNat).all (fun x => x == 0) = true := by
          rw [hn, show (16 + (n : Int)).toNat = 16 + n by omega]
          constructor
          · intro h
            have h2 : l.drop (16 + n) = List.replicate (496 - n) 0 := by
              have e := List.take_append_drop (16 + n) l
              exact List.append_cancel_left (e.trans h.symm)
            rw [h2]; simp
          · intro h
            have h2 : l.drop (16 + n) = List.replicate (496 - n) 0 := by
              rw [List.eq_replicate_iff]
              refine ⟨by rw [List.length_drop, hl]; omega, fun b hb => ?_⟩
              have := List.all_eq_true.1 h b hb
              simpa using this
            rw [← h2]; exact List.take_append_drop _ _
        unfold sealF
        constructor
        · intro h
          split at h
          · rename_i h1
            split at h
            · exact ⟨hh.1 h1, htail.1 (hpre.symm.trans (Prod.mk.inj h).1)⟩
            · exact absurd (Prod.mk.inj h).2 (by decide)
          · exact absurd (Prod.mk.inj h).2 (by decide)
        · rintro ⟨h1, h2⟩
          rw [if_pos (hh.2 h1), if_pos (by omega), hpre, htail.2 h2]
      by_cases h0 : fieldN l 0 = 0
      · rw [if_pos h0, if_neg (fun h => (hcond.1 h).1.1 h0)]
      · rw [if_neg h0]
        by_cases h4 : fieldN l 4 = 0
        · rw [if_pos h4, if_neg (fun h => (hcond.1 h).1.2.1 h4)]
        · rw [if_neg h4]
          by_cases h3 : fieldN l 4 ≤ fieldN l 3
          · rw [if_pos h3, if_neg (fun h => by have := (hcond.1 h).1.2.2; omega)]
          · rw [if_neg h3]
            by_cases ha : (l.drop (16 + fieldN l 5).toNat).all (fun x => x == 0) = true
            · rw [if_pos ha, if_pos (hcond.2 ⟨⟨h0, h4, by omega⟩, ha⟩)]
            · rw [if_neg ha, if_neg (fun h => ha (hcond.1 h).2)]
    · rw [if_neg h5, if_neg h5]
  · rw [if_neg hl, if_neg hl]
end Go.Proofs.Ytahnncccdlblgaa.G
