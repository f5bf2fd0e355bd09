/- The plain law of RectTwo: what the program and the reference tell of two rectangles is the same, for all numbers. -/
import Derived.Test.YtohnllfbhlohfaaTRectTwo
namespace Go.Proofs.Ytohnllfbhlohfaa.PureRectTwo
open Go.RowKit Go.Proofs.Ytohnllfbhlohfaa.PRectTwo Go.Proofs.YtohnllfbhlohfaaW.PrintWords Go.Proofs.YtohnllfbhlohfaaW.PrintLast Go.Proofs.YtohnllfbhlohfaaW.PrintMore
def inB (a : Int) : Bool := decide (-1099511627776 ≤ a) && decide (a ≤ 1099511627776)
def mayB (a b c d : Int) : Bool := inB a && (inB b && (inB c && (inB d && (decide (a ≤ c) && decide (b ≤ d)))))
def keptV (a b c d : Int) (ok : Bool) : Int × Int × Int × Int × Bool := if (ok && mayB a b c d) = true then (a, b, c, d, true) else (0, 0, 0, 0, false)
theorem in_f (a : Int) : fixed_In.f a = some (inB a) := by
  unfold fixed_In.f inB
  split <;> simp [*]
theorem may_f (a b c d : Int) : rect_May.f a b c d = some (mayB a b c d) := by
  unfold rect_May.f mayB
  simp only [in_f, Option.bind_some]
  cases inB a <;> cases inB b <;> cases inB c <;> cases inB d <;> simp
  split <;> simp [*]
theorem kept_f (a b c d : Int) (ok : Bool) : rect_kept.f a b c d ok = some (keptV a b c d ok) := by
  unfold rect_kept.f keptV
  simp only [may_f, Option.bind_some]
  cases ok <;> cases mayB a b c d <;> simp
theorem of_f (a b c d : Int) : rect_Of.f a b c d = some (keptV (mn a c) (mn b d) (mx a c) (mx b d) true) := by
  unfold rect_Of.f
  simp only [kept_f, Option.bind_some]
theorem wakes_f : colophonlaw03_wakes.f = some true := by
  unfold colophonlaw03_wakes.f
  simp only [of_f, Option.bind_some, may_f]
  decide

theorem rin_f (a : Int) : colophonref01_In.f a = some (inB a) := by
  unfold colophonref01_In.f inB
  by_cases h : a ≥ (-1099511627776)
  · have h' : -1099511627776 ≤ a := h
    simp [h']
  · have h' : ¬ (-1099511627776 ≤ a) := h
    simp [h']
theorem rmay_f (a b c d : Int) : colophonref03_May.f a b c d = some (mayB a b c d) := by
  unfold colophonref03_May.f mayB
  simp only [rin_f, Option.bind_some]
  cases inB a <;> cases inB b <;> cases inB c <;> cases inB d <;> simp
  split <;> simp [*]

theorem told_f (a b c d : Int) : colophonref03_told.f a b c d = some (keptV a b c d true) := by
  unfold colophonref03_told.f keptV
  simp only [rmay_f, Option.bind_some]
  cases mayB a b c d <;> simp

theorem meet_f (a b c d e f g h : Int) : rect_Meet.f a b c d e f g h = some (keptV (mx a e) (mx b f) (mn c g) (mn d h) (mayB a b c d && mayB e f g h)) := by
  unfold rect_Meet.f
  simp only [kept_f, may_f, Option.bind_some]
  cases mayB a b c d <;> simp
theorem join_f (a b c d e f g h : Int) : rect_Join.f a b c d e f g h = some (keptV (mn a e) (mn b f) (mx c g) (mx d h) (mayB a b c d && mayB e f g h)) := by
  unfold rect_Join.f
  simp only [kept_f, may_f, Option.bind_some]
  cases mayB a b c d <;> simp
def holdsB (a b c d e f g h : Int) : Bool := mayB a b c d && (mayB e f g h && (decide (a ≤ e) && (decide (b ≤ f) && (decide (g ≤ c) && decide (h ≤ d)))))
theorem holds_f (a b c d e f g h : Int) : rect_Holds.f a b c d e f g h = some (holdsB a b c d e f g h) := by
  unfold rect_Holds.f holdsB
  simp only [may_f, Option.bind_some]
  cases mayB a b c d <;> cases mayB e f g h <;> simp
  by_cases h1 : a ≤ e <;> by_cases h2 : b ≤ f <;> by_cases h3 : g ≤ c <;> simp [h1, h2, h3]

theorem rmeet_f (a b c d e f g h : Int) : colophonref03_Meet.f a b c d e f g h = some (keptV (mx a e) (mx b f) (mn c g) (mn d h) (mayB a b c d && mayB e f g h)) := by
  unfold colophonref03_Meet.f
  simp only [told_f, rmay_f, Option.bind_some]
  cases mayB a b c d <;> cases mayB e f g h <;> simp [keptV]
theorem rjoin_f (a b c d e f g h : Int) : colophonref03_Join.f a b c d e f g h = some (keptV (mn a e) (mn b f) (mx c g) (mx d h) (mayB a b c d && mayB e f g h)) := by
  unfold colophonref03_Join.f
  simp only [told_f, rmay_f, Option.bind_some]
  cases mayB a b c d <;> cases mayB e f g h <;> simp [keptV]
theorem rholds_f (a b c d e f g h : Int) : colophonref03_Holds.f a b c d e f g h = some (holdsB a b c d e f g h) := by
  unfold colophonref03_Holds.f holdsB
  simp only [rmay_f, Option.bind_some, ge_iff_le]
  cases mayB a b c d <;> cases mayB e f g h <;> simp
  by_cases h1 : a ≤ e <;> by_cases h2 : b ≤ f <;> by_cases h3 : g ≤ c <;> simp [h1, h2, h3]
theorem pure (a b c d e f g h : Int) : colophonlaw03_RectTwo.f a b c d e f g h = some true := by
  unfold colophonlaw03_RectTwo.f
  simp only [meet_f, rmeet_f, join_f, rjoin_f, holds_f, rholds_f, may_f, rmay_f, wakes_f, Option.bind_some, BEq.rfl, Bool.and_self, if_true]

end Go.Proofs.Ytohnllfbhlohfaa.PureRectTwo
