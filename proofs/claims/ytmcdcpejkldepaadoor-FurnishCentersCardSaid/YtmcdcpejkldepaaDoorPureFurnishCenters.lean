/- The plain law of FurnishCenters: where something begins that stands in the middle, for all 64-bit numbers. -/
import Derived.Test.YtmcdcpejkldepaaDoorPFurnishCentersx2
namespace Go.Proofs.YtmcdcpejkldepaaDoor.PureFurnishCenters
open Go.RowKit Go.Proofs.YtmcdcpejkldepaaDoor.PFurnishCenters Go.Proofs.YtmcdcpejkldepaaDoorW.PrintWords Go.Proofs.YtmcdcpejkldepaaDoorW.PrintLast Go.Proofs.YtmcdcpejkldepaaDoorW.PrintMore
theorem w_in {e : Int} (h : -9223372036854775808 ≤ e ∧ e ≤ 9223372036854775807) : wrap64 e = e := by unfold wrap64; omega
theorem wakes_f : colophonlaw28_wakes.f 30 = some true := by decide +kernel
theorem wakes_k (k : Nat) (hk : 30 ≤ k) : colophonlaw28_wakes.f k = some true := at_rounds (g := fun k => colophonlaw28_wakes.f k) colophonlaw28_wakes.mono hk wakes_f

def inB (a : Int) : Bool := decide (-1099511627776 ≤ a) && decide (a ≤ 1099511627776)
theorem in_f (a : Int) : fixed_In.f a = some (inB a) := by
  unfold fixed_In.f inB
  split <;> simp [*]
theorem rin_f (a : Int) : colophonref01_In.f a = some (inB a) := by
  unfold colophonref01_In.f inB
  by_cases h : a ≥ (-1099511627776)
  · have h' : -1099511627776 ≤ a := h
    simp [h']
  · have h' : ¬ (-1099511627776 ≤ a) := h
    simp [h']
theorem inB_iff {a : Int} : inB a = true ↔ -1099511627776 ≤ a ∧ a ≤ 1099511627776 := by
  unfold inB
  simp only [Bool.and_eq_true, decide_eq_true_eq]
def centerV (a b c : Int) : Int × Bool := if inB a && (inB b && (inB c && decide (c ≤ b))) then (if inB (a + (b - c) / 2) then (a + (b - c) / 2, true) else (0, false)) else (0, false)
theorem center_f (a b c : Int) : furnish_Center.f a b c = some (centerV a b c) := by
  unfold furnish_Center.f centerV
  simp only [in_f, Option.bind_some]
  by_cases h1 : inB a = true
  · by_cases h2 : inB b = true
    · by_cases h3 : inB c = true
      · rw [if_pos h1, if_pos h2, if_pos h3, h1, h2, h3]
        rw [inB_iff] at h1 h2 h3
        by_cases h4 : b < c
        · rw [if_pos h4, decide_eq_false (by omega)]
          rfl
        · rw [if_neg h4, decide_eq_true (by omega), w_in (by omega)]
          have h5 : inB ((b - c) / 2) = true := inB_iff.2 (by omega)
          unfold fixed_Add.f fixed_kept.f
          simp only [in_f, Option.bind_some, inB_iff.2 h1, h5, if_true, Bool.and_self]
          rw [w_in (by omega)]
          by_cases h6 : inB (a + (b - c) / 2) = true
          · rw [if_pos h6, if_pos h6]
            rfl
          · rw [if_neg h6, if_neg h6]
            rfl
      · rw [if_pos h1, if_pos h2, if_neg h3, Bool.eq_false_iff.2 h3]
        simp
    · rw [if_pos h1, if_neg h2, Bool.eq_false_iff.2 h2]
      simp
  · rw [if_neg h1, Bool.eq_false_iff.2 h1]
    simp
theorem rcenter_f (k : Nat) (a b c : Int) : colophonref28_Center.f (k + 1) a b c = some (centerV a b c) := by
  unfold colophonref28_Center.f centerV
  simp only [rin_f, Option.bind_some]
  by_cases h1 : inB a = true
  · by_cases h2 : inB b = true
    · by_cases h3 : inB c = true
      · rw [if_pos h1, if_pos h2, if_pos h3, h1, h2, h3]
        rw [inB_iff] at h1 h2 h3
        by_cases h4 : b < c
        · rw [decide_eq_true h4, colophonref28_Center.j0, if_pos rfl, decide_eq_false (show ¬ c ≤ b by omega)]
          rfl
        · rw [decide_eq_false h4, colophonref28_Center.j0, if_neg (by decide), decide_eq_true (show c ≤ b by omega), w_in (e := b - c) (by omega), Int.tdiv_eq_ediv_of_nonneg (by omega), w_in (e := (b - c) / 2) (by omega), w_in (by omega), rin_f, Option.bind_some]
          simp only [Bool.and_self, if_true]
          by_cases h6 : inB (a + (b - c) / 2) = true
          · rw [if_pos h6, if_pos h6]
          · rw [if_neg h6, if_neg h6]
      · rw [if_pos h1, if_pos h2, if_neg h3, colophonref28_Center.j0, if_pos rfl, Bool.eq_false_iff.2 h3]
        simp
    · rw [if_pos h1, if_neg h2, colophonref28_Center.j0, if_pos rfl, Bool.eq_false_iff.2 h2]
      simp
  · rw [if_neg h1, colophonref28_Center.j0, if_pos rfl, Bool.eq_false_iff.2 h1]
    simp
theorem pureK (k : Nat) (hk : 30 ≤ k) (a b c : Int) : colophonlaw28_FurnishCenters.f (k + 1) a b c = some true := by
  have hw := wakes_k (k + 1) (by omega)
  unfold colophonlaw28_FurnishCenters.f
  rw [center_f, rcenter_f, Option.bind_some, Option.bind_some, if_pos rfl, bne_self_eq_false, if_neg (by decide), hw]
  by_cases h : (centerV a b c).2 = true
  · rw [if_pos h]
    unfold centerV at h
    by_cases h1 : (inB a && (inB b && (inB c && decide (c ≤ b)))) = true
    · rw [if_pos h1] at h
      have e : centerV a b c = (a + (b - c) / 2, true) := by
        unfold centerV
        rw [if_pos h1]
        by_cases h2 : inB (a + (b - c) / 2) = true
        · rw [if_pos h2]
        · rw [if_neg h2] at h
          simp at h
      rw [e]
      simp only [Bool.and_eq_true, inB_iff, decide_eq_true_eq] at h1
      have e1 : wrap64 (wrap64 (wrap64 (wrap64 (a + b) - (a + (b - c) / 2)) - c) - wrap64 (a + (b - c) / 2 - a)) = b - c - 2 * ((b - c) / 2) := by
        rw [w_in (e := a + b) (by omega), w_in (e := a + b - (a + (b - c) / 2)) (by omega), w_in (e := a + (b - c) / 2 - a) (by omega), w_in (e := a + b - (a + (b - c) / 2) - c) (by omega), w_in (by omega)]
        omega
      show (if wrap64 (wrap64 (wrap64 (wrap64 (a + b) - (a + (b - c) / 2)) - c) - wrap64 (a + (b - c) / 2 - a)) = 0 then _ else if wrap64 (wrap64 (wrap64 (wrap64 (a + b) - (a + (b - c) / 2)) - c) - wrap64 (a + (b - c) / 2 - a)) = 1 then _ else _) = _
      rw [e1]
      by_cases h3 : b - c - 2 * ((b - c) / 2) = 0
      · rw [if_pos h3]
        rfl
      · rw [if_neg h3, if_pos (by omega)]
        rfl
    · rw [if_neg h1] at h
      simp at h
  · rw [if_neg h]
    rfl
theorem pure (a b c : Int) : ∃ k, colophonlaw28_FurnishCenters.f k a b c = some true := ⟨31, pureK 30 (Nat.le_refl _) a b c⟩

end Go.Proofs.YtmcdcpejkldepaaDoor.PureFurnishCenters
