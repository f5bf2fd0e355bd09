/- The plain law of BadGrows: badness does not fall as more must be given, nor grow as more can be, for all 64-bit numbers. -/
import Derived.Test.YtmllebfeghlmbaaPBadGrowsx1
namespace Go.Proofs.Ytmllebfeghlmbaa.PureBadGrows
open Go.RowKit Go.Proofs.Ytmllebfeghlmbaa.PBadGrows Go.Proofs.YtmllebfeghlmbaaW.PrintWords Go.Proofs.YtmllebfeghlmbaaW.PrintLast Go.Proofs.YtmllebfeghlmbaaW.PrintMore
open Go.Proofs.Ytmllebfeghlmbaa.BadW
theorem wakes_f : colophonlaw23_wakes.f = some true := by decide +kernel

theorem bad_mono {t t' s s' : Int} (ht : 0 ≤ t) (htt : t ≤ t') (ht' : t' ≤ 1099511627776) (hs : 0 ≤ s') (hss : s' ≤ s) : badV t s ≤ badV t' s' := by
  unfold badV
  by_cases h1 : t = 0
  · rw [if_pos h1]
    split
    · omega
    · split
      · omega
      · split
        · omega
        · have hd := div_bd (show 0 ≤ t' by omega) ht' (show 0 < s' by omega)
          generalize 297 * t' / s' = r at *
          have hc := cube_bd hd.1 (by omega)
          omega
  · rw [if_neg h1, if_neg (show ¬ t' = 0 by omega)]
    by_cases h2 : s' = 0
    · rw [if_pos h2]
      split
      · omega
      · split
        · omega
        · have hd := div_bd ht (show t ≤ 1099511627776 by omega) (show 0 < s by omega)
          generalize 297 * t / s = r at *
          have hc := cube_bd hd.1 (by omega)
          omega
    · rw [if_neg (show ¬ s = 0 by omega), if_neg h2]
      have hd := div_bd ht (show t ≤ 1099511627776 by omega) (show 0 < s by omega)
      have hd' := div_bd (show 0 ≤ t' by omega) ht' (show 0 < s' by omega)
      have hm : 297 * t / s ≤ 297 * t' / s' := by
        refine Int.le_trans (Int.ediv_le_ediv (c := s) (by omega) (show 297 * t ≤ 297 * t' by omega)) ?_
        refine Int.le_ediv_of_mul_le (by omega) ?_
        have hq : 0 ≤ 297 * t' / s := Int.ediv_nonneg (by omega) (by omega)
        have h1 : 297 * t' / s * s' ≤ 297 * t' / s * s := Int.mul_le_mul_of_nonneg_left hss hq
        have h2 : 297 * t' / s * s ≤ 297 * t' := Int.ediv_mul_le _ (by omega)
        omega
      generalize 297 * t / s = r at *
      generalize 297 * t' / s' = r' at *
      split
      · rw [if_pos (by omega)]
        omega
      · have hc := cube_bd hd.1 (by omega)
        split
        · omega
        · have hc' := cube_bd hd'.1 (by omega)
          have hcm := cube_mono hd.1 hm
          omega
theorem bad_bd (t s : Int) (h0 : 0 ≤ t) (h1 : t ≤ 1099511627776) (hs : 0 ≤ s) : 0 ≤ badV t s ∧ badV t s ≤ 10000 := by
  unfold badV
  split
  · omega
  · split
    · omega
    · split
      · omega
      · have hd := div_bd h0 h1 (show 0 < s by omega)
        generalize 297 * t / s = r at *
        have hc := cube_bd hd.1 (by omega)
        omega
theorem bad_same (t : Int) (h0 : 1 ≤ t) : badV t t = 100 := by
  unfold badV
  rw [if_neg (by omega), if_neg (by omega), Int.mul_ediv_cancel _ (by omega)]
  decide
theorem cl_mono {a b : Int} (h : a ≤ b) : cl a ≤ cl b := by
  have ha := cl_spec a
  have hb := cl_spec b
  omega
theorem pure (t s m : Int) : ∃ k, colophonlaw23_BadGrows.f k t s m = some true := by
  refine ⟨1, ?_⟩
  have hyes : colophonlaw23_BadGrows.j0 1 t s m true = some true := by
    simp only [colophonlaw23_BadGrows.j0, if_true, wakes_f, Option.bind_some]
  unfold colophonlaw23_BadGrows.f
  by_cases h1 : t < 0
  · rw [if_pos h1, hyes]
  rw [if_neg h1]
  by_cases h2 : s < 0
  · rw [if_pos h2, hyes]
  rw [if_neg h2]
  by_cases h3 : m < 0
  · rw [if_pos h3, hyes]
  rw [if_neg h3]
  by_cases h4 : t > 1152921504606846976
  · rw [if_pos h4, hyes]
  rw [if_neg h4]
  by_cases h5 : s > 1152921504606846976
  · rw [if_pos h5, hyes]
  rw [if_neg h5]
  by_cases h6 : m > 1152921504606846976
  · rw [decide_eq_true h6, hyes]
  rw [decide_eq_false h6]
  simp only [colophonlaw23_BadGrows.j0, Bool.false_eq_true, if_false, wakes_f, Option.bind_some, bad_f]
  rw [w_in (e := t + m) (by omega), w_in (e := s + m) (by omega)]
  have ct := cl_spec t
  have cs := cl_spec s
  have ctm := cl_spec (t + m)
  have csm := cl_spec (s + m)
  have bb := bad_bd (cl t) (cl s) ct.1 ct.2.1 cs.1
  have b1 := bad_mono ct.1 (cl_mono (show t ≤ t + m by omega)) ctm.2.1 cs.1 (Int.le_refl (cl s))
  have b2 := bad_mono ct.1 (Int.le_refl (cl t)) ct.2.1 cs.1 (cl_mono (show s ≤ s + m by omega))
  rw [if_pos (show badV (cl t) (cl s) ≥ 0 by omega), if_pos bb.2, if_pos (show badV (cl (t + m)) (cl s) ≥ badV (cl t) (cl s) by omega), if_pos b2]
  split
  · rfl
  · split
    · rfl
    · rw [if_pos]
      have e : cl t = t := by omega
      rw [e]
      exact bad_same t (by omega)

end Go.Proofs.Ytmllebfeghlmbaa.PureBadGrows
