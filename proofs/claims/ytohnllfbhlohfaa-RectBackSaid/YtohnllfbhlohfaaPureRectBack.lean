/- The plain law of RectBack: moved there and back, for all 64-bit numbers. -/
import Derived.Test.YtohnllfbhlohfaaTRectBack
namespace Go.Proofs.Ytohnllfbhlohfaa.PureRectBack
open Go.RowKit Go.Proofs.Ytohnllfbhlohfaa.PRectBack Go.Proofs.YtohnllfbhlohfaaW.PrintWords Go.Proofs.YtohnllfbhlohfaaW.PrintLast Go.Proofs.YtohnllfbhlohfaaW.PrintMore
def inB (a : Int) : Bool := decide (-1099511627776 ≤ a) && decide (a ≤ 1099511627776)
def mayB (a b c d : Int) : Bool := inB a && (inB b && (inB c && (inB d && (decide (a ≤ c) && decide (b ≤ d)))))
def keptV (a b c d : Int) (ok : Bool) : Int × Int × Int × Int × Bool := if (ok && mayB a b c d) = true then (a, b, c, d, true) else (0, 0, 0, 0, false)
theorem in_f (a : Int) : fixed_In.f a = some (inB a) := by
  unfold fixed_In.f inB
  split <;> simp [*]
theorem may_f (a b c d : Int) : rect_May.f a b c d = some (mayB a b c d) := by
  unfold rect_May.f mayB
  simp only [in_f, Option.bind_some]
  cases inB a <;> cases inB b <;> cases inB c <;> cases inB d <;> simp
  split <;> simp [*]
theorem kept_f (a b c d : Int) (ok : Bool) : rect_kept.f a b c d ok = some (keptV a b c d ok) := by
  unfold rect_kept.f keptV
  simp only [may_f, Option.bind_some]
  cases ok <;> cases mayB a b c d <;> simp
theorem of_f (a b c d : Int) : rect_Of.f a b c d = some (keptV (mn a c) (mn b d) (mx a c) (mx b d) true) := by
  unfold rect_Of.f
  simp only [kept_f, Option.bind_some]
theorem wakes_f : colophonlaw03_wakes.f = some true := by
  unfold colophonlaw03_wakes.f
  simp only [of_f, Option.bind_some, may_f]
  decide

theorem mayB_iff {a b c d : Int} : mayB a b c d = true ↔ (-1099511627776 ≤ a ∧ a ≤ 1099511627776) ∧ (-1099511627776 ≤ b ∧ b ≤ 1099511627776) ∧ (-1099511627776 ≤ c ∧ c ≤ 1099511627776) ∧ (-1099511627776 ≤ d ∧ d ≤ 1099511627776) ∧ a ≤ c ∧ b ≤ d := by
  unfold mayB inB
  simp only [Bool.and_eq_true, decide_eq_true_eq]
theorem inB_iff {a : Int} : inB a = true ↔ -1099511627776 ≤ a ∧ a ≤ 1099511627776 := by
  unfold inB
  simp only [Bool.and_eq_true, decide_eq_true_eq]
theorem kept_yes {a b c d : Int} {ok : Bool} (h : ok = true) (hm : mayB a b c d = true) : keptV a b c d ok = (a, b, c, d, true) := by
  unfold keptV
  rw [h, hm]
  rfl
theorem kept_no {a b c d : Int} {ok : Bool} (h : ¬ (ok = true ∧ mayB a b c d = true)) : keptV a b c d ok = (0, 0, 0, 0, false) := by
  unfold keptV
  rw [if_neg]
  simpa using h
theorem eq4 {a b c d e f g h : Int} (h1 : a = e) (h2 : b = f) (h3 : c = g) (h4 : d = h) : (a == e && (b == f && (c == g && (d == h)))) = true := by
  subst h1 h2 h3 h4
  simp

def shiftV (a b c d x y : Int) : Int × Int × Int × Int × Bool := keptV (wrap64 (a + x)) (wrap64 (b + y)) (wrap64 (c + x)) (wrap64 (d + y)) (mayB a b c d && (inB x && inB y))
def insetV (a b c d x : Int) : Int × Int × Int × Int × Bool := keptV (wrap64 (a + x)) (wrap64 (b + x)) (wrap64 (c - x)) (wrap64 (d - x)) (mayB a b c d && inB x)
theorem kept_false (a b c d : Int) : keptV a b c d false = (0, 0, 0, 0, false) := rfl
theorem shift_f (a b c d x y : Int) : rect_Shift.f a b c d x y = some (shiftV a b c d x y) := by
  unfold rect_Shift.f shiftV
  simp only [may_f, in_f, kept_f, Option.bind_some]
  cases mayB a b c d <;> cases inB x <;> cases inB y <;> simp [kept_false]
theorem inset_f (a b c d x : Int) : rect_Inset.f a b c d x = some (insetV a b c d x) := by
  unfold rect_Inset.f insetV
  simp only [may_f, in_f, kept_f, Option.bind_some]
  cases mayB a b c d <;> cases inB x <;> simp [kept_false]

theorem w_in {e : Int} (h : -9223372036854775808 ≤ e ∧ e ≤ 9223372036854775807) : wrap64 e = e := by unfold wrap64; omega
theorem pure (a b c d x y : Int) : colophonlaw03_RectBack.f a b c d x y = some true := by
  unfold colophonlaw03_RectBack.f
  simp only [shift_f, inset_f, wakes_f, Option.bind_some]
  by_cases h1 : (mayB a b c d && (inB x && inB y)) = true
  · obtain ⟨hm, hx, hy⟩ : mayB a b c d = true ∧ inB x = true ∧ inB y = true := by simpa using h1
    have m := mayB_iff.1 hm
    have ix := inB_iff.1 hx
    have iy := inB_iff.1 hy
    have e1 : shiftV a b c d x y = keptV (a + x) (b + y) (c + x) (d + y) true := by
      unfold shiftV
      rw [h1, w_in (by omega), w_in (by omega), w_in (by omega), w_in (by omega)]
    rw [e1]
    have n1 : wrap64 (-x) = -x := w_in (by omega)
    have n2 : wrap64 (-y) = -y := w_in (by omega)
    rw [n1, n2]
    by_cases h2 : mayB (a + x) (b + y) (c + x) (d + y) = true
    · have m2 := mayB_iff.1 h2
      rw [kept_yes rfl h2]
      have e2 : shiftV (a + x) (b + y) (c + x) (d + y) (-x) (-y) = (a, b, c, d, true) := by
        unfold shiftV
        rw [w_in (by omega), w_in (by omega), w_in (by omega), w_in (by omega)]
        rw [show a + x + -x = a by omega, show b + y + -y = b by omega, show c + x + -x = c by omega, show d + y + -y = d by omega]
        exact kept_yes (by rw [h2, inB_iff.2 (by omega), inB_iff.2 (by omega)]; rfl) hm
      rw [e2]
      have e3 : insetV a b c d x = keptV (a + x) (b + x) (c - x) (d - x) true := by
        unfold insetV
        rw [hm, hx, w_in (by omega), w_in (by omega), w_in (by omega), w_in (by omega)]
        rfl
      rw [e3]
      have k1 : (wrap64 (c + x - (a + x))) = wrap64 (c - a) := by rw [show c + x - (a + x) = c - a by omega]
      have k2 : (wrap64 (d + y - (b + y))) = wrap64 (d - b) := by rw [show d + y - (b + y) = d - b by omega]
      by_cases h3 : mayB (a + x) (b + x) (c - x) (d - x) = true
      · rw [kept_yes rfl h3]
        have m3 := mayB_iff.1 h3
        have e4 : insetV (a + x) (b + x) (c - x) (d - x) (-x) = (a, b, c, d, true) := by
          unfold insetV
          rw [w_in (by omega), w_in (by omega), w_in (by omega), w_in (by omega)]
          rw [show a + x + -x = a by omega, show b + x + -x = b by omega, show c - x - -x = c by omega, show d - x - -x = d by omega]
          exact kept_yes (by rw [h3, inB_iff.2 (by omega)]; rfl) hm
        rw [e4]
        simp only [eq4 rfl rfl rfl rfl, if_true, k1, k2]
      · rw [kept_no (fun h => h3 h.2)]
        simp only [eq4 rfl rfl rfl rfl, if_true, k1, k2, Bool.false_eq_true, if_false]
    · rw [kept_no (fun h => h2 h.2)]
      simp only [eq4 rfl rfl rfl rfl, if_true, Bool.false_eq_true, if_false]
  · have e1 : shiftV a b c d x y = (0, 0, 0, 0, false) := by
      unfold shiftV
      exact kept_no (fun h => h1 h.1)
    rw [e1]
    simp only [eq4 rfl rfl rfl rfl, if_true, Bool.false_eq_true, if_false]

end Go.Proofs.Ytohnllfbhlohfaa.PureRectBack
