/- The plain law of RectLattice: Meet and Join the other way round, and Holds, for all numbers. -/
import Derived.Test.YtohnllfbhlohfaaTRectLattice
namespace Go.Proofs.Ytohnllfbhlohfaa.PureRectLattice
open Go.RowKit Go.Proofs.Ytohnllfbhlohfaa.PRectLattice Go.Proofs.YtohnllfbhlohfaaW.PrintWords Go.Proofs.YtohnllfbhlohfaaW.PrintLast Go.Proofs.YtohnllfbhlohfaaW.PrintMore
def inB (a : Int) : Bool := decide (-1099511627776 ≤ a) && decide (a ≤ 1099511627776)
def mayB (a b c d : Int) : Bool := inB a && (inB b && (inB c && (inB d && (decide (a ≤ c) && decide (b ≤ d)))))
def keptV (a b c d : Int) (ok : Bool) : Int × Int × Int × Int × Bool := if (ok && mayB a b c d) = true then (a, b, c, d, true) else (0, 0, 0, 0, false)
theorem in_f (a : Int) : fixed_In.f a = some (inB a) := by
  unfold fixed_In.f inB
  split <;> simp [*]
theorem may_f (a b c d : Int) : rect_May.f a b c d = some (mayB a b c d) := by
  unfold rect_May.f mayB
  simp only [in_f, Option.bind_some]
  cases inB a <;> cases inB b <;> cases inB c <;> cases inB d <;> simp
  split <;> simp [*]
theorem kept_f (a b c d : Int) (ok : Bool) : rect_kept.f a b c d ok = some (keptV a b c d ok) := by
  unfold rect_kept.f keptV
  simp only [may_f, Option.bind_some]
  cases ok <;> cases mayB a b c d <;> simp
theorem of_f (a b c d : Int) : rect_Of.f a b c d = some (keptV (mn a c) (mn b d) (mx a c) (mx b d) true) := by
  unfold rect_Of.f
  simp only [kept_f, Option.bind_some]
theorem wakes_f : colophonlaw03_wakes.f = some true := by
  unfold colophonlaw03_wakes.f
  simp only [of_f, Option.bind_some, may_f]
  decide

theorem rin_f (a : Int) : colophonref01_In.f a = some (inB a) := by
  unfold colophonref01_In.f inB
  by_cases h : a ≥ (-1099511627776)
  · have h' : -1099511627776 ≤ a := h
    simp [h']
  · have h' : ¬ (-1099511627776 ≤ a) := h
    simp [h']
theorem rmay_f (a b c d : Int) : colophonref03_May.f a b c d = some (mayB a b c d) := by
  unfold colophonref03_May.f mayB
  simp only [rin_f, Option.bind_some]
  cases inB a <;> cases inB b <;> cases inB c <;> cases inB d <;> simp
  split <;> simp [*]

theorem mayB_iff {a b c d : Int} : mayB a b c d = true ↔ (-1099511627776 ≤ a ∧ a ≤ 1099511627776) ∧ (-1099511627776 ≤ b ∧ b ≤ 1099511627776) ∧ (-1099511627776 ≤ c ∧ c ≤ 1099511627776) ∧ (-1099511627776 ≤ d ∧ d ≤ 1099511627776) ∧ a ≤ c ∧ b ≤ d := by
  unfold mayB inB
  simp only [Bool.and_eq_true, decide_eq_true_eq]
theorem inB_iff {a : Int} : inB a = true ↔ -1099511627776 ≤ a ∧ a ≤ 1099511627776 := by
  unfold inB
  simp only [Bool.and_eq_true, decide_eq_true_eq]
theorem kept_yes {a b c d : Int} {ok : Bool} (h : ok = true) (hm : mayB a b c d = true) : keptV a b c d ok = (a, b, c, d, true) := by
  unfold keptV
  rw [h, hm]
  rfl
theorem kept_no {a b c d : Int} {ok : Bool} (h : ¬ (ok = true ∧ mayB a b c d = true)) : keptV a b c d ok = (0, 0, 0, 0, false) := by
  unfold keptV
  rw [if_neg]
  simpa using h
theorem eq4 {a b c d e f g h : Int} (h1 : a = e) (h2 : b = f) (h3 : c = g) (h4 : d = h) : (a == e && (b == f && (c == g && (d == h)))) = true := by
  subst h1 h2 h3 h4
  simp

theorem meet_f (a b c d e f g h : Int) : rect_Meet.f a b c d e f g h = some (keptV (mx a e) (mx b f) (mn c g) (mn d h) (mayB a b c d && mayB e f g h)) := by
  unfold rect_Meet.f
  simp only [kept_f, may_f, Option.bind_some]
  cases mayB a b c d <;> simp
theorem join_f (a b c d e f g h : Int) : rect_Join.f a b c d e f g h = some (keptV (mn a e) (mn b f) (mx c g) (mx d h) (mayB a b c d && mayB e f g h)) := by
  unfold rect_Join.f
  simp only [kept_f, may_f, Option.bind_some]
  cases mayB a b c d <;> simp
def holdsB (a b c d e f g h : Int) : Bool := mayB a b c d && (mayB e f g h && (decide (a ≤ e) && (decide (b ≤ f) && (decide (g ≤ c) && decide (h ≤ d)))))
theorem holds_f (a b c d e f g h : Int) : rect_Holds.f a b c d e f g h = some (holdsB a b c d e f g h) := by
  unfold rect_Holds.f holdsB
  simp only [may_f, Option.bind_some]
  cases mayB a b c d <;> cases mayB e f g h <;> simp
  by_cases h1 : a ≤ e <;> by_cases h2 : b ≤ f <;> by_cases h3 : g ≤ c <;> simp [h1, h2, h3]

theorem mx_spec (a b : Int) : a ≤ mx a b ∧ b ≤ mx a b ∧ (mx a b = a ∨ mx a b = b) := by unfold mx; split <;> omega
theorem mn_spec (a b : Int) : mn a b ≤ a ∧ mn a b ≤ b ∧ (mn a b = a ∨ mn a b = b) := by unfold mn; split <;> omega
theorem mn_comm (a b : Int) : mn a b = mn b a := by unfold mn; split <;> split <;> omega
theorem mx_comm (a b : Int) : mx a b = mx b a := by unfold mx; split <;> split <;> omega
theorem holds_iff {a b c d e f g h : Int} : holdsB a b c d e f g h = true ↔ mayB a b c d = true ∧ mayB e f g h = true ∧ a ≤ e ∧ b ≤ f ∧ g ≤ c ∧ h ≤ d := by
  unfold holdsB
  simp only [Bool.and_eq_true, decide_eq_true_eq]
theorem eq4_iff {a b c d e f g h : Int} : (a == e && (b == f && (c == g && (d == h)))) = true ↔ a = e ∧ b = f ∧ c = g ∧ d = h := by simp
theorem bool_eq {p q : Bool} (h : p = true ↔ q = true) : (p == q) = true := by
  cases p <;> cases q <;> simp_all
theorem pure (a b c d e f g h : Int) : ∃ k, colophonlaw03_RectLattice.f k a b c d e f g h = some true := by
  refine ⟨1, ?_⟩
  unfold colophonlaw03_RectLattice.f
  simp only [rmay_f, Option.bind_some, colophonlaw03_RectLattice.j0, meet_f, join_f, holds_f, wakes_f]
  by_cases h1 : mayB a b c d = true
  · by_cases h2 : mayB e f g h = true
    · have m1 := mayB_iff.1 h1
      have m2 := mayB_iff.1 h2
      rw [mx_comm e a, mx_comm f b, mn_comm g c, mn_comm h d, mn_comm e a, mn_comm f b, mx_comm g c, mx_comm h d]
      have x1 := mx_spec a e
      have x2 := mx_spec b f
      have x3 := mx_spec c g
      have x4 := mx_spec d h
      have y1 := mn_spec a e
      have y2 := mn_spec b f
      have y3 := mn_spec c g
      have y4 := mn_spec d h
      generalize mx a e = X1 at *
      generalize mx b f = X2 at *
      generalize mx c g = X3 at *
      generalize mx d h = X4 at *
      generalize mn a e = Y1 at *
      generalize mn b f = Y2 at *
      generalize mn c g = Y3 at *
      generalize mn d h = Y4 at *
      have j : mayB Y1 Y2 X3 X4 = true := mayB_iff.2 (by omega)
      have o1 : (mayB a b c d && mayB e f g h) = true := by rw [h1, h2]; rfl
      have o2 : (mayB e f g h && mayB a b c d) = true := by rw [h1, h2]; rfl
      rw [o1, o2, kept_yes rfl j, h1, h2]
      have t1 : holdsB Y1 Y2 X3 X4 a b c d = true := holds_iff.2 ⟨j, h1, by omega⟩
      have t2 : holdsB Y1 Y2 X3 X4 e f g h = true := holds_iff.2 ⟨j, h2, by omega⟩
      have t3 : (holdsB a b c d e f g h == (Y1 == a && (Y2 == b && (X3 == c && (X4 == d))))) = true := bool_eq (by rw [eq4_iff, holds_iff]; simp only [h1, h2, true_and]; omega)
      by_cases h3 : mayB X1 X2 Y3 Y4 = true
      · have m3 := mayB_iff.1 h3
        rw [kept_yes rfl h3]
        have t4 : holdsB a b c d X1 X2 Y3 Y4 = true := holds_iff.2 ⟨h1, h3, by omega⟩
        have t5 : holdsB e f g h X1 X2 Y3 Y4 = true := holds_iff.2 ⟨h2, h3, by omega⟩
        have t6 : (holdsB a b c d e f g h == (X1 == e && (X2 == f && (Y3 == g && (Y4 == h))))) = true := bool_eq (by rw [eq4_iff, holds_iff]; simp only [h1, h2, true_and]; omega)
        simp only [t1, t2, t3, t4, t5, t6, if_true, BEq.rfl, Bool.and_self, Bool.not_true, Bool.false_eq_true, if_false]
      · rw [kept_no (fun h => h3 h.2)]
        have t6 : (holdsB a b c d e f g h == false) = true := by
          refine bool_eq ⟨fun q => absurd q ?_, fun q => by cases q⟩
          rw [holds_iff]
          intro q
          exact h3 (mayB_iff.2 (by omega))
        simp only [t1, t2, t3, t6, if_true, BEq.rfl, Bool.and_self, Bool.not_true, Bool.false_eq_true, if_false]
    · have h2' : mayB e f g h = false := by simpa using h2
      have t : holdsB a b c d e f g h = false := by unfold holdsB; rw [h2']; simp
      simp only [h1, h2', t, if_true, Bool.not_false, Bool.false_eq_true, if_false]
  · have h1' : mayB a b c d = false := by simpa using h1
    have t : holdsB a b c d e f g h = false := by unfold holdsB; rw [h1']; simp
    simp only [h1', t, Bool.false_eq_true, if_true, if_false]

end Go.Proofs.Ytohnllfbhlohfaa.PureRectLattice
