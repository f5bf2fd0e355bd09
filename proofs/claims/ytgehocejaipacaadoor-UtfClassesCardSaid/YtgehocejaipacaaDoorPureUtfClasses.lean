/- The plain law of UtfClasses: what a number is as a code point, and its small letter, for all 64-bit numbers. -/
import Derived.Test.YtgehocejaipacaaDoorPUtfClassesx4
namespace Go.Proofs.YtgehocejaipacaaDoor.PureUtfClasses
open Go.RowKit Go.Proofs.YtgehocejaipacaaDoor.PUtfClasses Go.Proofs.YtgehocejaipacaaDoorW.PrintWords Go.Proofs.YtgehocejaipacaaDoorW.PrintLast Go.Proofs.YtgehocejaipacaaDoorW.PrintMore
theorem w_in {e : Int} (h : -9223372036854775808 ≤ e ∧ e ≤ 9223372036854775807) : wrap64 e = e := by unfold wrap64; omega
theorem wakes_f : colophonlaw04_wakes.f 5 = some true := by decide +kernel

def isB (c : Int) : Bool := decide (0 ≤ c) && (decide (c < 55296) || (decide (57343 < c) && decide (c ≤ 1114111)))
theorem point_f (c : Int) : utf_point.f c = some (isB c) := by
  unfold utf_point.f isB
  by_cases h1 : 0 ≤ c
  · by_cases h2 : c < 55296
    · simp [h1, h2]
    · by_cases h3 : 57343 < c
      · simp [h1, h2, h3]
      · simp [h1, h2, h3]
  · have h3 : ¬ 57343 < c := by omega
    simp [h1, h3]
theorem is_f (c : Int) : colophonref04_Is.f c = some (isB c) := by
  unfold colophonref04_Is.f isB
  simp only [ge_iff_le]
  by_cases h1 : 0 ≤ c
  · by_cases h2 : c ≤ 1114111
    · by_cases h3 : c < 55296
      · simp [h1, h2, h3]
      · simp [h1, h2, h3]
    · have h3 : ¬ c < 55296 := by omega
      simp [h1, h2, h3]
  · simp [h1]
def classV (c : Int) : Option Int := colophonref04_Class.f 5 c
theorem class_same (c : Int) : utf_Class.f 5 c = colophonref04_Class.f 5 c := by
  simp only [utf_Class.f, colophonref04_Class.f, utf_Class.j0, utf_Class.j1, utf_Class.j2, colophonref04_Class.j0, colophonref04_Class.j1, colophonref04_Class.j2, point_f, is_f, ge_iff_le]
theorem j2_some (k : Nat) (c : Int) (b : Bool) : ∃ v, utf_Class.j2 (k + 1) c b = some v := by
  rw [utf_Class.j2]
  repeat' (first | exact ⟨_, rfl⟩ | split)
theorem j1_some (k : Nat) (c : Int) (b : Bool) : ∃ v, utf_Class.j1 (k + 2) c b = some v := by
  rw [utf_Class.j1]
  repeat' (first | exact ⟨_, rfl⟩ | exact j2_some _ _ _ | split)
theorem j0_some (k : Nat) (c : Int) (b : Bool) : ∃ v, utf_Class.j0 (k + 3) c b = some v := by
  rw [utf_Class.j0]
  repeat' (first | exact ⟨_, rfl⟩ | exact j1_some _ _ _ | split)
theorem class_some (c : Int) : ∃ v, utf_Class.f 5 c = some v := by
  unfold utf_Class.f
  rw [point_f, Option.bind_some]
  repeat' (first | exact ⟨_, rfl⟩ | exact j0_some 2 _ _ | split)
def lowB (c : Int) : Bool := (decide (65 ≤ c) && decide (c ≤ 90)) || (decide (192 ≤ c) && (decide (c ≤ 222) && c != 215))
def lowV (c : Int) : Int := if lowB c = true then c + 32 else c
theorem lowB_iff (c : Int) : lowB c = true ↔ (65 ≤ c ∧ c ≤ 90) ∨ (192 ≤ c ∧ c ≤ 222 ∧ c ≠ 215) := by
  unfold lowB
  simp
theorem lower_f (c : Int) : utf_Lower.f c = some (lowV c) := by
  unfold utf_Lower.f lowV
  by_cases h : lowB c = true
  · rw [if_pos h]
    have h' := (lowB_iff c).1 h
    have e : wrap64 (c + 32) = c + 32 := w_in (by omega)
    rw [e]
    repeat' split
    all_goals first | rfl | (exfalso; omega)
  · rw [if_neg h]
    have h' : ¬ ((65 ≤ c ∧ c ≤ 90) ∨ (192 ≤ c ∧ c ≤ 222 ∧ c ≠ 215)) := fun q => h ((lowB_iff c).2 q)
    repeat' split
    all_goals first | rfl | (exfalso; omega)
theorem rlower_f (c : Int) : colophonref04_Lower.f c = some (lowV c) := by
  rw [← lower_f]
  simp only [colophonref04_Lower.f, utf_Lower.f, ge_iff_le]
theorem low_low (c : Int) : lowV (lowV c) = lowV c := by
  unfold lowV
  by_cases h : lowB c = true
  · rw [if_pos h]
    have h' := (lowB_iff c).1 h
    rw [if_neg]
    intro q
    have q' := (lowB_iff _).1 q
    omega
  · rw [if_neg h, if_neg h]
theorem pure (c : Int) : ∃ k, colophonlaw04_UtfClasses.f k c = some true := by
  refine ⟨5, ?_⟩
  obtain ⟨v, hv⟩ := class_some c
  unfold colophonlaw04_UtfClasses.f
  simp only [← class_same, hv, lower_f, rlower_f, low_low, wakes_f, Option.bind_some, if_true]

end Go.Proofs.YtgehocejaipacaaDoor.PureUtfClasses
