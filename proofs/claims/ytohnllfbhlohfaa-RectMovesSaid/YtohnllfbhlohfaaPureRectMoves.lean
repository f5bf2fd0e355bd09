/- The plain law of RectMoves: what the program and the reference tell of a rectangle that is moved, for all 64-bit numbers. -/
import Derived.Test.YtohnllfbhlohfaaPRectMovesx3
namespace Go.Proofs.Ytohnllfbhlohfaa.PureRectMoves
open Go.RowKit Go.Proofs.Ytohnllfbhlohfaa.PRectMoves Go.Proofs.YtohnllfbhlohfaaW.PrintWords Go.Proofs.YtohnllfbhlohfaaW.PrintLast Go.Proofs.YtohnllfbhlohfaaW.PrintMore
def inB (a : Int) : Bool := decide (-1099511627776 ≤ a) && decide (a ≤ 1099511627776)
def mayB (a b c d : Int) : Bool := inB a && (inB b && (inB c && (inB d && (decide (a ≤ c) && decide (b ≤ d)))))
def keptV (a b c d : Int) (ok : Bool) : Int × Int × Int × Int × Bool := if (ok && mayB a b c d) = true then (a, b, c, d, true) else (0, 0, 0, 0, false)
theorem in_f (a : Int) : fixed_In.f a = some (inB a) := by
  unfold fixed_In.f inB
  split <;> simp [*]
theorem may_f (a b c d : Int) : rect_May.f a b c d = some (mayB a b c d) := by
  unfold rect_May.f mayB
  simp only [in_f, Option.bind_some]
  cases inB a <;> cases inB b <;> cases inB c <;> cases inB d <;> simp
  split <;> simp [*]
theorem kept_f (a b c d : Int) (ok : Bool) : rect_kept.f a b c d ok = some (keptV a b c d ok) := by
  unfold rect_kept.f keptV
  simp only [may_f, Option.bind_some]
  cases ok <;> cases mayB a b c d <;> simp
theorem of_f (a b c d : Int) : rect_Of.f a b c d = some (keptV (mn a c) (mn b d) (mx a c) (mx b d) true) := by
  unfold rect_Of.f
  simp only [kept_f, Option.bind_some]
theorem wakes_f : colophonlaw03_wakes.f = some true := by
  unfold colophonlaw03_wakes.f
  simp only [of_f, Option.bind_some, may_f]
  decide

theorem rin_f (a : Int) : colophonref01_In.f a = some (inB a) := by
  unfold colophonref01_In.f inB
  by_cases h : a ≥ (-1099511627776)
  · have h' : -1099511627776 ≤ a := h
    simp [h']
  · have h' : ¬ (-1099511627776 ≤ a) := h
    simp [h']
theorem rmay_f (a b c d : Int) : colophonref03_May.f a b c d = some (mayB a b c d) := by
  unfold colophonref03_May.f mayB
  simp only [rin_f, Option.bind_some]
  cases inB a <;> cases inB b <;> cases inB c <;> cases inB d <;> simp
  split <;> simp [*]

theorem told_f (a b c d : Int) : colophonref03_told.f a b c d = some (keptV a b c d true) := by
  unfold colophonref03_told.f keptV
  simp only [rmay_f, Option.bind_some]
  cases mayB a b c d <;> simp

def shiftV (a b c d x y : Int) : Int × Int × Int × Int × Bool := keptV (wrap64 (a + x)) (wrap64 (b + y)) (wrap64 (c + x)) (wrap64 (d + y)) (mayB a b c d && (inB x && inB y))
def insetV (a b c d x : Int) : Int × Int × Int × Int × Bool := keptV (wrap64 (a + x)) (wrap64 (b + x)) (wrap64 (c - x)) (wrap64 (d - x)) (mayB a b c d && inB x)
theorem kept_false (a b c d : Int) : keptV a b c d false = (0, 0, 0, 0, false) := rfl
theorem shift_f (a b c d x y : Int) : rect_Shift.f a b c d x y = some (shiftV a b c d x y) := by
  unfold rect_Shift.f shiftV
  simp only [may_f, in_f, kept_f, Option.bind_some]
  cases mayB a b c d <;> cases inB x <;> cases inB y <;> simp [kept_false]
theorem inset_f (a b c d x : Int) : rect_Inset.f a b c d x = some (insetV a b c d x) := by
  unfold rect_Inset.f insetV
  simp only [may_f, in_f, kept_f, Option.bind_some]
  cases mayB a b c d <;> cases inB x <;> simp [kept_false]

theorem rshift_f (a b c d x y : Int) : colophonref03_Shift.f a b c d x y = some (shiftV a b c d x y) := by
  unfold colophonref03_Shift.f shiftV
  simp only [rmay_f, rin_f, told_f, Option.bind_some]
  cases mayB a b c d <;> cases inB x <;> cases inB y <;> simp [kept_false]
theorem rinset_f (a b c d x : Int) : colophonref03_Inset.f a b c d x = some (insetV a b c d x) := by
  unfold colophonref03_Inset.f insetV
  simp only [rmay_f, rin_f, told_f, Option.bind_some]
  cases mayB a b c d <;> cases inB x <;> simp [kept_false]
theorem pure (a b c d x y : Int) : colophonlaw03_RectMoves.f a b c d x y = some true := by
  unfold colophonlaw03_RectMoves.f
  simp only [shift_f, rshift_f, inset_f, rinset_f, wakes_f, Option.bind_some, BEq.rfl, Bool.and_self, if_true]

end Go.Proofs.Ytohnllfbhlohfaa.PureRectMoves
