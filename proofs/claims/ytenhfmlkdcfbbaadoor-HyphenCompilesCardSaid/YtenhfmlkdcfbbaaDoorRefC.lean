/- law21: the reference's Points, walked on the set in memory. -/
import Derived.Test.YtenhfmlkdcfbbaaDoorRefB
namespace Go.Proofs.YtenhfmlkdcfbbaaDoor.PHyphenPoints
open Go.RowKit Go.Proofs.YtenhfmlkdcfbbaaDoorW.PrintWords Go.Proofs.YtenhfmlkdcfbbaaDoorW.PrintLast Go.Proofs.YtenhfmlkdcfbbaaDoorW.PrintMore
attribute [local go_sem] max2_int min2_int max_two min_two max_three min_three max_four min_four
set_option linter.unusedVariables false
set_option linter.unusedSimpArgs false
mutual
def colophonref21_Set_Points.l0 : Nat → List (S72) → List Int → List Int → Int → Option (List Int)
 | 0, _, _, _, _ => none
 | k + 1, x0, x5, x6, x7 => if x7 < (x0.length : Int) then (if 0 ≤ x7 then (if (((rd_T72 x0 x7).f0).length : Int) = (x6.length : Int) then ((colophonref21_fits.f k x6 ((rd_T72 x0 x7).f0) 0).bind fun t285 => (if t285 = true then ((some (([] : List Int) : List Int)).bind fun y286 => (if y286.length + ((rd_T72 x0 x7).f1).length < 17592186044416 then (some (y286 ++ ((rd_T72 x0 x7).f1))) else (none))) else (colophonref21_Set_Points.l0 k x0 x5 x6 (wrap64 (x7 + 1))))) else (colophonref21_Set_Points.l0 k x0 x5 x6 (wrap64 (x7 + 1)))) else (none)) else (colophonref21_Set_Points.l1 k x5 x6 ([] : List Int) 2)
def colophonref21_Set_Points.l1 : Nat → List Int → List Int → List Int → Int → Option (List Int)
 | 0, _, _, _, _ => none
 | k + 1, x5, x6, x8, x9 => if x9 ≤ (wrap64 ((x6.length : Int) - 3)) then (if (x6.length : Int) ≥ 5 then (if 0 ≤ x9 then (if x9 < (x5.length : Int) then (if (Int.tmod (rd x5 x9) 2) = 1 then (if x8.length < 17592186044416 then (colophonref21_Set_Points.l1 k x5 x6 (x8 ++ [x9]) (wrap64 (x9 + 1))) else (none)) else (colophonref21_Set_Points.l1 k x5 x6 x8 (wrap64 (x9 + 1)))) else (none)) else (none)) else (colophonref21_Set_Points.l1 k x5 x6 x8 (wrap64 (x9 + 1)))) else (some x8)
end
def colophonref21_Set_Points.f (k : Nat) (l0 : List (S72)) (l1 : List Int) (l2 : List (S66)) : Option (List Int) := (colophonref21_Set_Levels.f k l2 l1).bind fun t277 => (if (t277.length : Int) = 0 then (some ([] : List Int)) else ((colophonref04_Lowers.f k l1).bind fun t280 => (colophonref21_Set_Points.l0 k l0 t277 t280 0)))
theorem colophonref21_Set_Points.mono_l : ∀ k, (∀ y0 y1 y2 y3, LeO (colophonref21_Set_Points.l0 k y0 y1 y2 y3) (colophonref21_Set_Points.l0 (k + 1) y0 y1 y2 y3)) ∧ (∀ y0 y1 y2 y3, LeO (colophonref21_Set_Points.l1 k y0 y1 y2 y3) (colophonref21_Set_Points.l1 (k + 1) y0 y1 y2 y3))
 | 0 => ⟨fun _ _ _ _ r h => by simp [colophonref21_Set_Points.l0] at h, fun _ _ _ _ r h => by simp [colophonref21_Set_Points.l1] at h⟩
 | k + 1 => by
  obtain ⟨ih0, ih1⟩ := colophonref21_Set_Points.mono_l k
  refine ⟨?_, ?_⟩
  ·intro y0 y1 y2 y3
   unfold colophonref21_Set_Points.l0
   repeat' first
   |(with_reducible exact ih0 _ _ _ _)
   |(with_reducible exact ih1 _ _ _ _)
   |(with_reducible exact colophonref04_Lowers.mono _ _)
   |(with_reducible exact colophonref21_Set_Levels.mono _ _ _)
   |(with_reducible exact colophonref21_fits.mono _ _ _ _)
   |(with_reducible exact LeO.refl _)
   |(with_reducible exact LeO.none _)
   |(with_reducible refine LeO.ite ?_ ?_)
   |(with_reducible refine LeO.bind ?_ (fun _ => ?_))
   | exact ih0 _ _ _ _
   | exact ih1 _ _ _ _
   | exact colophonref04_Lowers.mono _ _
   | exact colophonref21_Set_Levels.mono _ _ _
   | exact colophonref21_fits.mono _ _ _ _
   | exact LeO.none _
   | refine LeO.ite ?_ ?_
   | refine LeO.bind ?_ (fun _ => ?_)
  ·intro y0 y1 y2 y3
   unfold colophonref21_Set_Points.l1
   repeat' first
   |(with_reducible exact ih0 _ _ _ _)
   |(with_reducible exact ih1 _ _ _ _)
   |(with_reducible exact colophonref04_Lowers.mono _ _)
   |(with_reducible exact colophonref21_Set_Levels.mono _ _ _)
   |(with_reducible exact colophonref21_fits.mono _ _ _ _)
   |(with_reducible exact LeO.refl _)
   |(with_reducible exact LeO.none _)
   |(with_reducible refine LeO.ite ?_ ?_)
   |(with_reducible refine LeO.bind ?_ (fun _ => ?_))
   | exact ih0 _ _ _ _
   | exact ih1 _ _ _ _
   | exact colophonref04_Lowers.mono _ _
   | exact colophonref21_Set_Levels.mono _ _ _
   | exact colophonref21_fits.mono _ _ _ _
   | exact LeO.none _
   | refine LeO.ite ?_ ?_
   | refine LeO.bind ?_ (fun _ => ?_)
theorem colophonref21_Set_Points.mono : ∀ a0 a1 a2 k, LeO (colophonref21_Set_Points.f k a0 a1 a2) (colophonref21_Set_Points.f (k + 1) a0 a1 a2) := by
 intro a0 a1 a2 k
 obtain ⟨ih0, ih1⟩ := colophonref21_Set_Points.mono_l k
 unfold colophonref21_Set_Points.f
 repeat' first
   |(with_reducible exact ih0 _ _ _ _)
   |(with_reducible exact ih1 _ _ _ _)
   |(with_reducible exact colophonref04_Lowers.mono _ _)
   |(with_reducible exact colophonref21_Set_Levels.mono _ _ _)
   |(with_reducible exact colophonref21_fits.mono _ _ _ _)
   |(with_reducible exact LeO.refl _)
   |(with_reducible exact LeO.none _)
   |(with_reducible refine LeO.ite ?_ ?_)
   |(with_reducible refine LeO.bind ?_ (fun _ => ?_))
   | exact ih0 _ _ _ _
   | exact ih1 _ _ _ _
   | exact colophonref04_Lowers.mono _ _
   | exact colophonref21_Set_Levels.mono _ _ _
   | exact colophonref21_fits.mono _ _ _ _
   | exact LeO.none _
   | refine LeO.ite ?_ ?_
   | refine LeO.bind ?_ (fun _ => ?_)
end Go.Proofs.YtenhfmlkdcfbbaaDoor.PHyphenPoints
