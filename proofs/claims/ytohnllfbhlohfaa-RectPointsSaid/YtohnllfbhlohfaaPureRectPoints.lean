/- The plain law of RectPoints: a point lies in what two have in common just if it lies in both, for all numbers. -/
import Derived.Test.YtohnllfbhlohfaaPRectPointsx8
namespace Go.Proofs.Ytohnllfbhlohfaa.PureRectPoints
open Go.RowKit Go.Proofs.Ytohnllfbhlohfaa.PRectPoints Go.Proofs.YtohnllfbhlohfaaW.PrintWords Go.Proofs.YtohnllfbhlohfaaW.PrintLast Go.Proofs.YtohnllfbhlohfaaW.PrintMore
def inB (a : Int) : Bool := decide (-1099511627776 ≤ a) && decide (a ≤ 1099511627776)
def mayB (a b c d : Int) : Bool := inB a && (inB b && (inB c && (inB d && (decide (a ≤ c) && decide (b ≤ d)))))
def keptV (a b c d : Int) (ok : Bool) : Int × Int × Int × Int × Bool := if (ok && mayB a b c d) = true then (a, b, c, d, true) else (0, 0, 0, 0, false)
theorem in_f (k : Nat) (a : Int) : fixed_In.f (k + 1) a = some (inB a) := by
  unfold fixed_In.f inB
  simp only [fixed_In.j0]
  split <;> simp [*]
theorem may_f (k : Nat) (a b c d : Int) : rect_May.f (k + 1) a b c d = some (mayB a b c d) := by
  unfold rect_May.f mayB
  simp only [in_f, Option.bind_some, rect_May.j0]
  cases inB a <;> cases inB b <;> cases inB c <;> cases inB d <;> simp
  split <;> simp [*]
theorem kept_f (k : Nat) (a b c d : Int) (ok : Bool) : rect_kept.f (k + 1) a b c d ok = some (keptV a b c d ok) := by
  unfold rect_kept.f keptV
  simp only [may_f, Option.bind_some, rect_kept.j0]
  cases ok <;> cases mayB a b c d <;> simp
theorem of_f (k : Nat) (a b c d : Int) : rect_Of.f (k + 1) a b c d = some (keptV (mn a c) (mn b d) (mx a c) (mx b d) true) := by
  unfold rect_Of.f
  simp only [kept_f, Option.bind_some]
theorem wakes_f (k : Nat) : colophonlaw03_wakes.f (k + 1) = some true := by
  have e : keptV (mn 5 1) (mn 0 9) (mx 5 1) (mx 0 9) true = (1, 0, 5, 9, true) := by decide
  have e2 : mayB 1 0 5 9 = true := by decide
  unfold colophonlaw03_wakes.f
  simp only [of_f, Option.bind_some, may_f, colophonlaw03_wakes.j0, e, e2]
  rfl
theorem rin_f (k : Nat) (a : Int) : colophonref01_In.f (k + 1) a = some (inB a) := by
  unfold colophonref01_In.f inB
  simp only [colophonref01_In.j0]
  by_cases h : a ≥ (-1099511627776)
  · have h' : -1099511627776 ≤ a := h
    simp [h']
  · have h' : ¬ (-1099511627776 ≤ a) := h
    simp [h']
theorem rmay_f (k : Nat) (a b c d : Int) : colophonref03_May.f (k + 1) a b c d = some (mayB a b c d) := by
  unfold colophonref03_May.f mayB
  simp only [rin_f, Option.bind_some, colophonref03_May.j0]
  cases inB a <;> cases inB b <;> cases inB c <;> cases inB d <;> simp
  split <;> simp [*]
theorem mayB_iff {a b c d : Int} : mayB a b c d = true ↔ (-1099511627776 ≤ a ∧ a ≤ 1099511627776) ∧ (-1099511627776 ≤ b ∧ b ≤ 1099511627776) ∧ (-1099511627776 ≤ c ∧ c ≤ 1099511627776) ∧ (-1099511627776 ≤ d ∧ d ≤ 1099511627776) ∧ a ≤ c ∧ b ≤ d := by
  unfold mayB inB
  simp only [Bool.and_eq_true, decide_eq_true_eq]
theorem meet_f (k : Nat) (a b c d e f g h : Int) : rect_Meet.f (k + 1) a b c d e f g h = some (keptV (mx a e) (mx b f) (mn c g) (mn d h) (mayB a b c d && mayB e f g h)) := by
  unfold rect_Meet.f
  simp only [kept_f, may_f, Option.bind_some, rect_Meet.j0]
  cases mayB a b c d <;> simp
theorem join_f (k : Nat) (a b c d e f g h : Int) : rect_Join.f (k + 1) a b c d e f g h = some (keptV (mn a e) (mn b f) (mx c g) (mx d h) (mayB a b c d && mayB e f g h)) := by
  unfold rect_Join.f
  simp only [kept_f, may_f, Option.bind_some, rect_Join.j0]
  cases mayB a b c d <;> simp
def holdsB (a b c d e f g h : Int) : Bool := mayB a b c d && (mayB e f g h && (decide (a ≤ e) && (decide (b ≤ f) && (decide (g ≤ c) && decide (h ≤ d)))))
theorem holds_f (k : Nat) (a b c d e f g h : Int) : rect_Holds.f (k + 1) a b c d e f g h = some (holdsB a b c d e f g h) := by
  unfold rect_Holds.f holdsB
  simp only [may_f, Option.bind_some, rect_Holds.j0]
  cases mayB a b c d <;> cases mayB e f g h <;> simp
  by_cases h1 : a ≤ e <;> by_cases h2 : b ≤ f <;> by_cases h3 : g ≤ c <;> simp [h1, h2, h3]
def isB (a b c d x y : Int) : Bool := decide (a ≤ x) && (decide (x ≤ c) && (decide (b ≤ y) && decide (y ≤ d)))
theorem is_f (k : Nat) (a b c d x y : Int) : colophonlaw03_in.f (k + 1) a b c d x y = some (isB a b c d x y) := by
  unfold colophonlaw03_in.f isB
  simp only [colophonlaw03_in.j0, ge_iff_le]
  by_cases h1 : a ≤ x <;> by_cases h2 : x ≤ c <;> by_cases h3 : b ≤ y <;> simp [h1, h2, h3]
theorem isB_iff {a b c d x y : Int} : isB a b c d x y = true ↔ a ≤ x ∧ x ≤ c ∧ b ≤ y ∧ y ≤ d := by
  unfold isB
  simp only [Bool.and_eq_true, decide_eq_true_eq]
theorem j3_f (k : Nat) (x y a b c d e f g h : Int) : colophonlaw03_RectPoints.j3 (k + 3) x y false a b c d e f g h = some true := by
  rw [colophonlaw03_RectPoints.j3, if_neg (by decide)]
  simp only [holds_f, is_f, wakes_f, Option.bind_some, colophonlaw03_RectPoints.j4]
  by_cases h1 : holdsB a b c d e f g h = true
  · rw [if_pos h1]
    by_cases h2 : isB e f g h x y = true
    · rw [if_pos h2]
      have h3 : isB a b c d x y = true := by
        unfold holdsB at h1
        simp only [Bool.and_eq_true, decide_eq_true_eq] at h1
        rw [isB_iff] at h2 ⊢
        omega
      rw [if_pos h3]
    · rw [if_neg h2]
  · rw [if_neg h1]
theorem join_in {a b c d e f g h x y : Int} (hs : isB a b c d x y = true ∨ isB e f g h x y = true) : isB (mn a e) (mn b f) (mx c g) (mx d h) x y = true := by
  rw [isB_iff, isB_iff] at hs
  rw [isB_iff]
  unfold mn mx
  omega
theorem meet_in (a b c d e f g h x y : Int) : isB (mx a e) (mx b f) (mn c g) (mn d h) x y = (isB a b c d x y && isB e f g h x y) := by
  rw [Bool.eq_iff_iff, Bool.and_eq_true, isB_iff, isB_iff, isB_iff]
  unfold mn mx
  omega
theorem join_may {a b c d e f g h : Int} (h1 : mayB a b c d = true) (h2 : mayB e f g h = true) : mayB (mn a e) (mn b f) (mx c g) (mx d h) = true := by
  rw [mayB_iff] at h1 h2 ⊢
  unfold mn mx
  omega
theorem meet_no {a b c d e f g h x y : Int} (h1 : mayB a b c d = true) (h2 : mayB e f g h = true) (h3 : ¬ mayB (mx a e) (mx b f) (mn c g) (mn d h) = true) : (isB a b c d x y && isB e f g h x y) = false := by
  rw [Bool.eq_false_iff]
  intro hb
  rw [Bool.and_eq_true, isB_iff, isB_iff] at hb
  rw [mayB_iff] at h1 h2
  rw [mayB_iff] at h3
  unfold mn mx at h3
  omega
theorem j2_tail (k : Nat) (x y a b c d e f g h : Int) (J : Int × Int × Int × Int) (hJ : isB a b c d x y = true ∨ isB e f g h x y = true → isB J.1 J.2.1 J.2.2.1 J.2.2.2 x y = true) :
    (if isB a b c d x y = true then colophonlaw03_RectPoints.j3 (k + 3) x y (!isB J.1 J.2.1 J.2.2.1 J.2.2.2 x y) a b c d e f g h
      else (if isB e f g h x y = true then colophonlaw03_RectPoints.j3 (k + 3) x y (!isB J.1 J.2.1 J.2.2.1 J.2.2.2 x y) a b c d e f g h else colophonlaw03_RectPoints.j3 (k + 3) x y false a b c d e f g h)) = some true := by
  by_cases h1 : isB a b c d x y = true
  · rw [if_pos h1, hJ (.inl h1)]
    exact j3_f ..
  · rw [if_neg h1]
    by_cases h2 : isB e f g h x y = true
    · rw [if_pos h2, hJ (.inr h2)]
      exact j3_f ..
    · rw [if_neg h2]
      exact j3_f ..
theorem j2_f (k : Nat) (x y a b c d e f g h : Int) (h1 : mayB a b c d = true) (h2 : mayB e f g h = true) (M J : Int × Int × Int × Int × Bool)
    (hM : M = keptV (mx a e) (mx b f) (mn c g) (mn d h) true) (hJ : J = keptV (mn a e) (mn b f) (mx c g) (mx d h) true) (both : Bool) (hb : both = (isB a b c d x y && isB e f g h x y)) :
    colophonlaw03_RectPoints.j2 (k + 4) x y M.2.2.2.2 J.2.2.2.2 both a b c d e f g h M.1 M.2.1 M.2.2.1 M.2.2.2.1 J.1 J.2.1 J.2.2.1 J.2.2.2.1 = some true := by
  have hj : J = (mn a e, mn b f, mx c g, mx d h, true) := by
    rw [hJ]
    unfold keptV
    rw [join_may h1 h2]
    rfl
  have tail := j2_tail k x y a b c d e f g h (mn a e, mn b f, mx c g, mx d h) join_in
  by_cases h3 : mayB (mx a e) (mx b f) (mn c g) (mn d h) = true
  · have hm : M = (mx a e, mx b f, mn c g, mn d h, true) := by
      rw [hM]
      unfold keptV
      rw [h3]
      rfl
    rw [hm, hj, colophonlaw03_RectPoints.j2]
    simp only [is_f, Option.bind_some]
    rw [if_pos trivial, if_pos trivial, meet_in, ← hb, if_neg (by simp)]
    exact tail
  · have hm : M = (0, 0, 0, 0, false) := by
      rw [hM]
      unfold keptV
      rw [Bool.eq_false_iff.2 h3]
      rfl
    have hbf : both = false := by rw [hb]; exact meet_no h1 h2 h3
    rw [hm, hj, hbf, colophonlaw03_RectPoints.j2]
    simp only [is_f, Option.bind_some]
    rw [if_pos trivial, if_neg (by decide), if_neg (by decide)]
    exact tail
theorem kept_none (a b c d : Int) : keptV a b c d false = (0, 0, 0, 0, false) := rfl
theorem j0_no (k : Nat) (x y a b c d e f g h : Int) (hn : (mayB a b c d && mayB e f g h) = false) : colophonlaw03_RectPoints.j0 (k + 4) true a b c d e f g h x y = some true := by
  have hh : holdsB a b c d e f g h = false := by
    unfold holdsB
    rw [← Bool.and_assoc, hn]
    rfl
  rw [colophonlaw03_RectPoints.j0, if_pos rfl]
  simp only [meet_f, join_f, hn, kept_none, Option.bind_some, holds_f, hh, rmay_f, wakes_f, colophonlaw03_RectPoints.j1]
  rw [if_neg (by decide), if_neg (by decide), if_neg (by decide)]
  by_cases h1 : mayB a b c d = true
  · rw [h1, Bool.true_and] at hn
    rw [if_pos h1, hn, if_neg (by decide)]
  · rw [if_neg h1]
theorem pureK (k : Nat) (a b c d e f g h x y : Int) : colophonlaw03_RectPoints.f (k + 5) a b c d e f g h x y = some true := by
  unfold colophonlaw03_RectPoints.f
  simp only [may_f, Option.bind_some]
  by_cases h1 : mayB a b c d = true
  · rw [if_pos h1]
    by_cases h2 : mayB e f g h = true
    · rw [h2, colophonlaw03_RectPoints.j0]
      simp only [meet_f, join_f, h1, h2, Bool.and_self, is_f, Option.bind_some]
      rw [if_neg (by decide)]
      by_cases h3 : isB a b c d x y = true
      · rw [if_pos h3]
        exact j2_f k x y a b c d e f g h h1 h2 _ _ rfl rfl _ (by rw [h3, Bool.true_and])
      · rw [if_neg h3]
        exact j2_f k x y a b c d e f g h h1 h2 _ _ rfl rfl _ (by rw [Bool.eq_false_iff.2 h3, Bool.false_and])
    · rw [Bool.eq_false_iff.2 h2]
      exact j0_no (k + 1) x y a b c d e f g h (by rw [Bool.eq_false_iff.2 h2, Bool.and_false])
  · rw [if_neg h1]
    exact j0_no (k + 1) x y a b c d e f g h (by rw [Bool.eq_false_iff.2 h1, Bool.false_and])
theorem pure (a b c d e f g h x y : Int) : ∃ k, colophonlaw03_RectPoints.f k a b c d e f g h x y = some true := ⟨5, pureK 0 a b c d e f g h x y⟩

end Go.Proofs.Ytohnllfbhlohfaa.PureRectPoints
