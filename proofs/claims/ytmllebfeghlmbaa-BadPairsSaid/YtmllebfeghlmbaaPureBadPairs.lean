/- The plain law of BadPairs: what two lines have more, and which parameters are good, for all 64-bit numbers. -/
import Derived.Test.YtmllebfeghlmbaaPBadPairsx3
namespace Go.Proofs.Ytmllebfeghlmbaa.PureBadPairs
open Go.RowKit Go.Proofs.Ytmllebfeghlmbaa.PBadPairs Go.Proofs.YtmllebfeghlmbaaW.PrintWords Go.Proofs.YtmllebfeghlmbaaW.PrintLast Go.Proofs.YtmllebfeghlmbaaW.PrintMore
theorem w_in {e : Int} (h : -9223372036854775808 ≤ e ∧ e ≤ 9223372036854775807) : wrap64 e = e := by unfold wrap64; omega
theorem wakes_f : colophonlaw23_wakes.f = some true := by decide +kernel
def cl3 (x : Int) : Int := mn (mx x 0) 3
def clM (x : Int) : Int := mn (mx x 0) 1000000
theorem cl3_bd (x : Int) : 0 ≤ cl3 x ∧ cl3 x ≤ 3 := by unfold cl3 mn mx; split <;> split <;> omega
theorem clM_bd (x : Int) : 0 ≤ clM x ∧ clM x ≤ 1000000 := by unfold clM mn mx; split <;> split <;> omega
def moreV (a b : Int) (f g : Bool) (tw od : Int) : Int := (if (decide (cl3 a - cl3 b > 1) || decide (cl3 b - cl3 a > 1)) = true then clM od else 0) + (if (f && g) = true then clM tw else 0)
theorem more_f (a b : Int) (f g : Bool) (x0 x1 x2 tw od : Int) : badness_More.f 1 a b f g x0 x1 x2 tw od = some (moreV a b f g tw od) := by
  have h1 := clM_bd tw
  have h2 := clM_bd od
  unfold badness_More.f moreV
  simp only [badness_More.j0]
  change (if cl3 a - cl3 b > 1 then _ else _) = _
  have e1 : wrap64 (0 + clM od) = clM od := by rw [w_in (by omega)]; omega
  have e2 : wrap64 (0 + clM tw) = clM tw := by rw [w_in (by omega)]; omega
  have e3 : wrap64 (clM od + clM tw) = clM od + clM tw := w_in (by omega)
  change wrap64 (0 + mn (mx od 0) 1000000) = clM od at e1
  change wrap64 (0 + mn (mx tw 0) 1000000) = clM tw at e2
  have e3' : wrap64 (clM od + mn (mx tw 0) 1000000) = clM od + clM tw := e3
  simp only [e1, e2, e3']
  by_cases c1 : cl3 a - cl3 b > 1
  · simp only [c1, if_true, decide_true, Bool.true_or]
    cases f <;> cases g <;> simp
  · by_cases c2 : cl3 b - cl3 a > 1
    · have c2' : mn (mx b 0) 3 - mn (mx a 0) 3 > 1 := c2
      simp only [c1, c2, c2', if_true, if_false, decide_true, decide_false, Bool.or_true]
      cases f <;> cases g <;> simp
    · have c2' : ¬ (mn (mx b 0) 3 - mn (mx a 0) 3 > 1) := c2
      simp only [c1, c2, c2', if_false, decide_false, Bool.or_self, Bool.false_eq_true]
      cases f <;> cases g <;> simp
theorem rmore_f (a b : Int) (f g : Bool) (x0 x1 x2 tw od : Int) : colophonref23_More.f 1 a b f g x0 x1 x2 tw od = badness_More.f 1 a b f g x0 x1 x2 tw od := by
  have h1 := cl3_bd a
  have h2 := cl3_bd b
  unfold colophonref23_More.f badness_More.f
  simp only [colophonref23_within.f, Option.bind_some, colophonref23_More.j0, badness_More.j0]
  have e1 : wrap64 (mn (mx a 0) 3 - mn (mx b 0) 3) = mn (mx a 0) 3 - mn (mx b 0) 3 := w_in (by change _ ≤ cl3 a - cl3 b ∧ cl3 a - cl3 b ≤ _; omega)
  have e2 : wrap64 (mn (mx b 0) 3 - mn (mx a 0) 3) = mn (mx b 0) 3 - mn (mx a 0) 3 := w_in (by change _ ≤ cl3 b - cl3 a ∧ cl3 b - cl3 a ≤ _; omega)
  rw [e1, e2]
theorem good_f (a b c d e : Int) : ∃ v, badness_Good.f a b c d e = some v ∧ colophonref23_Good.f a b c d e = some v := by
  unfold badness_Good.f colophonref23_Good.f
  simp only [ge_iff_le]
  repeat' split
  all_goals first | exact ⟨_, rfl, rfl⟩ | omega
theorem more_comm (a b : Int) (f g : Bool) (tw od : Int) : moreV a b f g tw od = moreV b a g f tw od := by
  unfold moreV
  rw [Bool.or_comm, Bool.and_comm]
theorem pure (a b : Int) (f g : Bool) (x0 x1 x2 tw od : Int) : ∃ k, colophonlaw23_BadPairs.f k a b f g x0 x1 x2 tw od = some true := by
  refine ⟨1, ?_⟩
  unfold colophonlaw23_BadPairs.f
  obtain ⟨v, hv, hv'⟩ := good_f x0 x1 x2 tw od
  simp only [rmore_f, more_f, hv, hv', wakes_f, Option.bind_some, if_true, BEq.rfl, more_comm b a g f]

end Go.Proofs.Ytmllebfeghlmbaa.PureBadPairs
