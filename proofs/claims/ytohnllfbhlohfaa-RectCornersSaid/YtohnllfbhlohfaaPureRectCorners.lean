/- The plain law of RectCorners: two corners, in whatever order, for all numbers. -/
import Derived.Test.YtohnllfbhlohfaaTRectCorners
namespace Go.Proofs.Ytohnllfbhlohfaa.PureRectCorners
open Go.RowKit Go.Proofs.Ytohnllfbhlohfaa.PRectCorners Go.Proofs.YtohnllfbhlohfaaW.PrintWords Go.Proofs.YtohnllfbhlohfaaW.PrintLast Go.Proofs.YtohnllfbhlohfaaW.PrintMore
def inB (a : Int) : Bool := decide (-1099511627776 ≤ a) && decide (a ≤ 1099511627776)
def mayB (a b c d : Int) : Bool := inB a && (inB b && (inB c && (inB d && (decide (a ≤ c) && decide (b ≤ d)))))
def keptV (a b c d : Int) (ok : Bool) : Int × Int × Int × Int × Bool := if (ok && mayB a b c d) = true then (a, b, c, d, true) else (0, 0, 0, 0, false)
theorem in_f (a : Int) : fixed_In.f a = some (inB a) := by
  unfold fixed_In.f inB
  split <;> simp [*]
theorem may_f (a b c d : Int) : rect_May.f a b c d = some (mayB a b c d) := by
  unfold rect_May.f mayB
  simp only [in_f, Option.bind_some]
  cases inB a <;> cases inB b <;> cases inB c <;> cases inB d <;> simp
  split <;> simp [*]
theorem kept_f (a b c d : Int) (ok : Bool) : rect_kept.f a b c d ok = some (keptV a b c d ok) := by
  unfold rect_kept.f keptV
  simp only [may_f, Option.bind_some]
  cases ok <;> cases mayB a b c d <;> simp
theorem of_f (a b c d : Int) : rect_Of.f a b c d = some (keptV (mn a c) (mn b d) (mx a c) (mx b d) true) := by
  unfold rect_Of.f
  simp only [kept_f, Option.bind_some]
theorem wakes_f : colophonlaw03_wakes.f = some true := by
  unfold colophonlaw03_wakes.f
  simp only [of_f, Option.bind_some, may_f]
  decide

theorem rin_f (a : Int) : colophonref01_In.f a = some (inB a) := by
  unfold colophonref01_In.f inB
  by_cases h : a ≥ (-1099511627776)
  · have h' : -1099511627776 ≤ a := h
    simp [h']
  · have h' : ¬ (-1099511627776 ≤ a) := h
    simp [h']
theorem rmay_f (a b c d : Int) : colophonref03_May.f a b c d = some (mayB a b c d) := by
  unfold colophonref03_May.f mayB
  simp only [rin_f, Option.bind_some]
  cases inB a <;> cases inB b <;> cases inB c <;> cases inB d <;> simp
  split <;> simp [*]

theorem told_f (a b c d : Int) : colophonref03_told.f a b c d = some (keptV a b c d true) := by
  unfold colophonref03_told.f keptV
  simp only [rmay_f, Option.bind_some]
  cases mayB a b c d <;> simp

theorem rof_f (a b c d : Int) : colophonref03_Of.f a b c d = some (keptV (mn a c) (mn b d) (mx a c) (mx b d) true) := by
  unfold colophonref03_Of.f
  simp only [told_f, Option.bind_some]
theorem mn_comm (a b : Int) : mn a b = mn b a := by unfold mn; split <;> split <;> omega
theorem mx_comm (a b : Int) : mx a b = mx b a := by unfold mx; split <;> split <;> omega
theorem pure (a b c d : Int) : colophonlaw03_RectCorners.f a b c d = some true := by
  unfold colophonlaw03_RectCorners.f
  simp only [of_f, rof_f, wakes_f, Option.bind_some, mn_comm c a, mx_comm c a, BEq.rfl, Bool.and_self, if_true]

end Go.Proofs.Ytohnllfbhlohfaa.PureRectCorners
