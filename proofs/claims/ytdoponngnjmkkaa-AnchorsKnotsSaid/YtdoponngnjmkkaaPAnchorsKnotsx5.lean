-- Written by a copy of the print that this session has turned (wip/tools/patchprint.py): arrays as records.
import Derived.Test.YtdoponngnjmkkaaPAnchorsKnotsx0
import Derived.Test.YtdoponngnjmkkaaPAnchorsKnotsx4
namespace Go.Proofs.Ytdoponngnjmkkaa.PAnchorsKnots
open Go.RowKit Go.Proofs.YtdoponngnjmkkaaW.PrintWords Go.Proofs.YtdoponngnjmkkaaW.PrintLast Go.Proofs.YtdoponngnjmkkaaW.PrintMore
attribute [local go_sem] max2_int min2_int max_two min_two max_three min_three max_four min_four   -- for this text's walks alone
set_option linter.unusedVariables false
set_option linter.unusedSimpArgs false

/-! ### colophonref29_Knots: function 10 -/
mutual
def colophonref29_Knots.l0 : Nat → List Int → List (S27) → Int → Option ((List (S27)))
  | 0, _, _, _ => none
  | k + 1, x3, x4, x5 => if x5 < (x3.length : Int) then (if 0 ≤ x5 then (colophonref29_Knots.l1 k x3 x4 x5 0 (rd x3 x5) (-1) (-1) (-1) (-1) 0) else (none)) else (some x4)
def colophonref29_Knots.l1 : Nat → List Int → List (S27) → Int → Int → Int → Int → Int → Int → Int → Int → Option ((List (S27)))
  | 0, _, _, _, _, _, _, _, _, _, _ => none
  | k + 1, x3, x4, x5, x7, x173000, x173001, x173002, x173003, x173004, x173005 => if x7 < (x3.length : Int) then (if 0 ≤ x7 then (if 0 ≤ x5 then (if x5 < (x3.length : Int) then (if (rd x3 x7) = (rd x3 x5) then (colophonref29_Knots.j2 k x3 x4 x5 x7 (decide (x7 < x5)) x173000 x173001 x173002 x173003 x173004 x173005) else (colophonref29_Knots.j2 k x3 x4 x5 x7 false x173000 x173001 x173002 x173003 x173004 x173005)) else (none)) else (none)) else (none)) else (if x4.length < 2932031007402 then (colophonref29_Knots.l0 k x3 (x4 ++ [(⟨x173000, x173001, x173002, x173003, x173004, x173005⟩ : S27)]) (wrap64 (x5 + 1))) else (none))
def colophonref29_Knots.j2 : Nat → List Int → List (S27) → Int → Int → Bool → Int → Int → Int → Int → Int → Int → Option ((List (S27)))
  | 0, _, _, _, _, _, _, _, _, _, _, _ => none
  | k + 1, x3, x4, x5, x7, x41, x173000, x173001, x173002, x173003, x173004, x173005 => if x41 = true then (colophonref29_Knots.j3 k x3 x4 x5 x7 x173000 x7 x173002 x173003 x173004 x173005) else (colophonref29_Knots.j3 k x3 x4 x5 x7 x173000 x173001 x173002 x173003 x173004 x173005)
def colophonref29_Knots.j3 : Nat → List Int → List (S27) → Int → Int → Int → Int → Int → Int → Int → Int → Option ((List (S27)))
  | 0, _, _, _, _, _, _, _, _, _, _ => none
  | k + 1, x3, x4, x5, x7, x173000, x173001, x173002, x173003, x173004, x173005 => if 0 ≤ x7 then (if x7 < (x3.length : Int) then (if 0 ≤ x5 then (if x5 < (x3.length : Int) then (if (rd x3 x7) = (rd x3 x5) then (if x7 > x5 then (colophonref29_Knots.j4 k x3 x4 x5 x7 (decide (x173002 < 0)) x173000 x173001 x173002 x173003 x173004 x173005) else (colophonref29_Knots.j4 k x3 x4 x5 x7 false x173000 x173001 x173002 x173003 x173004 x173005)) else (colophonref29_Knots.j4 k x3 x4 x5 x7 false x173000 x173001 x173002 x173003 x173004 x173005)) else (none)) else (none)) else (none)) else (none)
def colophonref29_Knots.j4 : Nat → List Int → List (S27) → Int → Int → Bool → Int → Int → Int → Int → Int → Int → Option ((List (S27)))
  | 0, _, _, _, _, _, _, _, _, _, _, _ => none
  | k + 1, x3, x4, x5, x7, x62, x173000, x173001, x173002, x173003, x173004, x173005 => if x62 = true then (colophonref29_Knots.j5 k x3 x4 x5 x7 x173000 x173001 x7 x173003 x173004 x173005) else (colophonref29_Knots.j5 k x3 x4 x5 x7 x173000 x173001 x173002 x173003 x173004 x173005)
def colophonref29_Knots.j5 : Nat → List Int → List (S27) → Int → Int → Int → Int → Int → Int → Int → Int → Option ((List (S27)))
  | 0, _, _, _, _, _, _, _, _, _, _ => none
  | k + 1, x3, x4, x5, x7, x173000, x173001, x173002, x173003, x173004, x173005 => if 0 ≤ x7 then (if x7 < (x3.length : Int) then (if (rd x3 x7) = x5 then (if x173003 < 0 then (colophonref29_Knots.j6 k x3 x4 x5 x7 x173000 x173001 x173002 x7 x7 x173005) else (colophonref29_Knots.j6 k x3 x4 x5 x7 x173000 x173001 x173002 x173003 x7 x173005)) else (colophonref29_Knots.j6 k x3 x4 x5 x7 x173000 x173001 x173002 x173003 x173004 x173005)) else (none)) else (none)
def colophonref29_Knots.j6 : Nat → List Int → List (S27) → Int → Int → Int → Int → Int → Int → Int → Int → Option ((List (S27)))
  | 0, _, _, _, _, _, _, _, _, _, _ => none
  | k + 1, x3, x4, x5, x7, x173000, x173001, x173002, x173003, x173004, x173005 => if 0 ≤ x7 then (if x7 < (x3.length : Int) then (colophonref29_Knots.l2 k x3 x4 x5 x7 (rd x3 x7) x173000 x173001 x173002 x173003 x173004 x173005) else (none)) else (none)
def colophonref29_Knots.l2 : Nat → List Int → List (S27) → Int → Int → Int → Int → Int → Int → Int → Int → Int → Option ((List (S27)))
  | 0, _, _, _, _, _, _, _, _, _, _, _ => none
  | k + 1, x3, x4, x5, x7, x8, x173000, x173001, x173002, x173003, x173004, x173005 => if x8 ≥ 0 then (if x8 = x5 then (if 0 ≤ x8 then (if x8 < (x3.length : Int) then (colophonref29_Knots.l2 k x3 x4 x5 x7 (rd x3 x8) x173000 x173001 x173002 x173003 x173004 (wrap64 (x173005 + 1))) else (none)) else (none)) else (if 0 ≤ x8 then (if x8 < (x3.length : Int) then (colophonref29_Knots.l2 k x3 x4 x5 x7 (rd x3 x8) x173000 x173001 x173002 x173003 x173004 x173005) else (none)) else (none))) else (colophonref29_Knots.l1 k x3 x4 x5 (wrap64 (x7 + 1)) x173000 x173001 x173002 x173003 x173004 x173005)
end
def colophonref29_Knots.f (k : Nat) (l0 : List Int) : Option ((List (S27))) := (colophonref29_Parents.f k l0).bind fun t168 => (colophonref29_Knots.l0 k t168 ([] : List (S27)) 0)
theorem colophonref29_Knots.mono_l : ∀ k, (∀ y0 y1 y2, LeO (colophonref29_Knots.l0 k y0 y1 y2) (colophonref29_Knots.l0 (k + 1) y0 y1 y2)) ∧ (∀ y0 y1 y2 y3 y4 y5 y6 y7 y8 y9, LeO (colophonref29_Knots.l1 k y0 y1 y2 y3 y4 y5 y6 y7 y8 y9) (colophonref29_Knots.l1 (k + 1) y0 y1 y2 y3 y4 y5 y6 y7 y8 y9)) ∧ (∀ y0 y1 y2 y3 y4 y5 y6 y7 y8 y9 y10, LeO (colophonref29_Knots.j2 k y0 y1 y2 y3 y4 y5 y6 y7 y8 y9 y10) (colophonref29_Knots.j2 (k + 1) y0 y1 y2 y3 y4 y5 y6 y7 y8 y9 y10)) ∧ (∀ y0 y1 y2 y3 y4 y5 y6 y7 y8 y9, LeO (colophonref29_Knots.j3 k y0 y1 y2 y3 y4 y5 y6 y7 y8 y9) (colophonref29_Knots.j3 (k + 1) y0 y1 y2 y3 y4 y5 y6 y7 y8 y9)) ∧ (∀ y0 y1 y2 y3 y4 y5 y6 y7 y8 y9 y10, LeO (colophonref29_Knots.j4 k y0 y1 y2 y3 y4 y5 y6 y7 y8 y9 y10) (colophonref29_Knots.j4 (k + 1) y0 y1 y2 y3 y4 y5 y6 y7 y8 y9 y10)) ∧ (∀ y0 y1 y2 y3 y4 y5 y6 y7 y8 y9, LeO (colophonref29_Knots.j5 k y0 y1 y2 y3 y4 y5 y6 y7 y8 y9) (colophonref29_Knots.j5 (k + 1) y0 y1 y2 y3 y4 y5 y6 y7 y8 y9)) ∧ (∀ y0 y1 y2 y3 y4 y5 y6 y7 y8 y9, LeO (colophonref29_Knots.j6 k y0 y1 y2 y3 y4 y5 y6 y7 y8 y9) (colophonref29_Knots.j6 (k + 1) y0 y1 y2 y3 y4 y5 y6 y7 y8 y9)) ∧ (∀ y0 y1 y2 y3 y4 y5 y6 y7 y8 y9 y10, LeO (colophonref29_Knots.l2 k y0 y1 y2 y3 y4 y5 y6 y7 y8 y9 y10) (colophonref29_Knots.l2 (k + 1) y0 y1 y2 y3 y4 y5 y6 y7 y8 y9 y10))
  | 0 => ⟨fun _ _ _ r h => by simp [colophonref29_Knots.l0] at h, fun _ _ _ _ _ _ _ _ _ _ r h => by simp [colophonref29_Knots.l1] at h, fun _ _ _ _ _ _ _ _ _ _ _ r h => by simp [colophonref29_Knots.j2] at h, fun _ _ _ _ _ _ _ _ _ _ r h => by simp [colophonref29_Knots.j3] at h, fun _ _ _ _ _ _ _ _ _ _ _ r h => by simp [colophonref29_Knots.j4] at h, fun _ _ _ _ _ _ _ _ _ _ r h => by simp [colophonref29_Knots.j5] at h, fun _ _ _ _ _ _ _ _ _ _ r h => by simp [colophonref29_Knots.j6] at h, fun _ _ _ _ _ _ _ _ _ _ _ r h => by simp [colophonref29_Knots.l2] at h⟩
  | k + 1 => by
    obtain ⟨ih0, ih1, ih2, ih3, ih4, ih5, ih6, ih7⟩ := colophonref29_Knots.mono_l k
    refine ⟨?_, ?_, ?_, ?_, ?_, ?_, ?_, ?_⟩
    · intro y0 y1 y2
      unfold colophonref29_Knots.l0
      repeat' first
      | (with_reducible exact ih0 _ _ _)
      | (with_reducible exact ih1 _ _ _ _ _ _ _ _ _ _)
      | (with_reducible exact ih2 _ _ _ _ _ _ _ _ _ _ _)
      | (with_reducible exact ih3 _ _ _ _ _ _ _ _ _ _)
      | (with_reducible exact ih4 _ _ _ _ _ _ _ _ _ _ _)
      | (with_reducible exact ih5 _ _ _ _ _ _ _ _ _ _)
      | (with_reducible exact ih6 _ _ _ _ _ _ _ _ _ _)
      | (with_reducible exact ih7 _ _ _ _ _ _ _ _ _ _ _)
      | (with_reducible exact colophonref29_Parents.mono _ _)
      | (with_reducible exact LeO.refl _)
      | (with_reducible exact LeO.none _)
      | (with_reducible refine LeO.ite ?_ ?_)
      | (with_reducible refine LeO.bind ?_ (fun _ => ?_))
      | exact ih0 _ _ _
      | exact ih1 _ _ _ _ _ _ _ _ _ _
      | exact ih2 _ _ _ _ _ _ _ _ _ _ _
      | exact ih3 _ _ _ _ _ _ _ _ _ _
      | exact ih4 _ _ _ _ _ _ _ _ _ _ _
      | exact ih5 _ _ _ _ _ _ _ _ _ _
      | exact ih6 _ _ _ _ _ _ _ _ _ _
      | exact ih7 _ _ _ _ _ _ _ _ _ _ _
      | exact colophonref29_Parents.mono _ _
      | exact LeO.none _
      | refine LeO.ite ?_ ?_
      | refine LeO.bind ?_ (fun _ => ?_)
    · intro y0 y1 y2 y3 y4 y5 y6 y7 y8 y9
      unfold colophonref29_Knots.l1
      repeat' first
      | (with_reducible exact ih0 _ _ _)
      | (with_reducible exact ih1 _ _ _ _ _ _ _ _ _ _)
      | (with_reducible exact ih2 _ _ _ _ _ _ _ _ _ _ _)
      | (with_reducible exact ih3 _ _ _ _ _ _ _ _ _ _)
      | (with_reducible exact ih4 _ _ _ _ _ _ _ _ _ _ _)
      | (with_reducible exact ih5 _ _ _ _ _ _ _ _ _ _)
      | (with_reducible exact ih6 _ _ _ _ _ _ _ _ _ _)
      | (with_reducible exact ih7 _ _ _ _ _ _ _ _ _ _ _)
      | (with_reducible exact colophonref29_Parents.mono _ _)
      | (with_reducible exact LeO.refl _)
      | (with_reducible exact LeO.none _)
      | (with_reducible refine LeO.ite ?_ ?_)
      | (with_reducible refine LeO.bind ?_ (fun _ => ?_))
      | exact ih0 _ _ _
      | exact ih1 _ _ _ _ _ _ _ _ _ _
      | exact ih2 _ _ _ _ _ _ _ _ _ _ _
      | exact ih3 _ _ _ _ _ _ _ _ _ _
      | exact ih4 _ _ _ _ _ _ _ _ _ _ _
      | exact ih5 _ _ _ _ _ _ _ _ _ _
      | exact ih6 _ _ _ _ _ _ _ _ _ _
      | exact ih7 _ _ _ _ _ _ _ _ _ _ _
      | exact colophonref29_Parents.mono _ _
      | exact LeO.none _
      | refine LeO.ite ?_ ?_
      | refine LeO.bind ?_ (fun _ => ?_)
    · intro y0 y1 y2 y3 y4 y5 y6 y7 y8 y9 y10
      unfold colophonref29_Knots.j2
      repeat' first
      | (with_reducible exact ih0 _ _ _)
      | (with_reducible exact ih1 _ _ _ _ _ _ _ _ _ _)
      | (with_reducible exact ih2 _ _ _ _ _ _ _ _ _ _ _)
      | (with_reducible exact ih3 _ _ _ _ _ _ _ _ _ _)
      | (with_reducible exact ih4 _ _ _ _ _ _ _ _ _ _ _)
      | (with_reducible exact ih5 _ _ _ _ _ _ _ _ _ _)
      | (with_reducible exact ih6 _ _ _ _ _ _ _ _ _ _)
      | (with_reducible exact ih7 _ _ _ _ _ _ _ _ _ _ _)
      | (with_reducible exact colophonref29_Parents.mono _ _)
      | (with_reducible exact LeO.refl _)
      | (with_reducible exact LeO.none _)
      | (with_reducible refine LeO.ite ?_ ?_)
      | (with_reducible refine LeO.bind ?_ (fun _ => ?_))
      | exact ih0 _ _ _
      | exact ih1 _ _ _ _ _ _ _ _ _ _
      | exact ih2 _ _ _ _ _ _ _ _ _ _ _
      | exact ih3 _ _ _ _ _ _ _ _ _ _
      | exact ih4 _ _ _ _ _ _ _ _ _ _ _
      | exact ih5 _ _ _ _ _ _ _ _ _ _
      | exact ih6 _ _ _ _ _ _ _ _ _ _
      | exact ih7 _ _ _ _ _ _ _ _ _ _ _
      | exact colophonref29_Parents.mono _ _
      | exact LeO.none _
      | refine LeO.ite ?_ ?_
      | refine LeO.bind ?_ (fun _ => ?_)
    · intro y0 y1 y2 y3 y4 y5 y6 y7 y8 y9
      unfold colophonref29_Knots.j3
      repeat' first
      | (with_reducible exact ih0 _ _ _)
      | (with_reducible exact ih1 _ _ _ _ _ _ _ _ _ _)
      | (with_reducible exact ih2 _ _ _ _ _ _ _ _ _ _ _)
      | (with_reducible exact ih3 _ _ _ _ _ _ _ _ _ _)
      | (with_reducible exact ih4 _ _ _ _ _ _ _ _ _ _ _)
      | (with_reducible exact ih5 _ _ _ _ _ _ _ _ _ _)
      | (with_reducible exact ih6 _ _ _ _ _ _ _ _ _ _)
      | (with_reducible exact ih7 _ _ _ _ _ _ _ _ _ _ _)
      | (with_reducible exact colophonref29_Parents.mono _ _)
      | (with_reducible exact LeO.refl _)
      | (with_reducible exact LeO.none _)
      | (with_reducible refine LeO.ite ?_ ?_)
      | (with_reducible refine LeO.bind ?_ (fun _ => ?_))
      | exact ih0 _ _ _
      | exact ih1 _ _ _ _ _ _ _ _ _ _
      | exact ih2 _ _ _ _ _ _ _ _ _ _ _
      | exact ih3 _ _ _ _ _ _ _ _ _ _
      | exact ih4 _ _ _ _ _ _ _ _ _ _ _
      | exact ih5 _ _ _ _ _ _ _ _ _ _
      | exact ih6 _ _ _ _ _ _ _ _ _ _
      | exact ih7 _ _ _ _ _ _ _ _ _ _ _
      | exact colophonref29_Parents.mono _ _
      | exact LeO.none _
      | refine LeO.ite ?_ ?_
      | refine LeO.bind ?_ (fun _ => ?_)
    · intro y0 y1 y2 y3 y4 y5 y6 y7 y8 y9 y10
      unfold colophonref29_Knots.j4
      repeat' first
      | (with_reducible exact ih0 _ _ _)
      | (with_reducible exact ih1 _ _ _ _ _ _ _ _ _ _)
      | (with_reducible exact ih2 _ _ _ _ _ _ _ _ _ _ _)
      | (with_reducible exact ih3 _ _ _ _ _ _ _ _ _ _)
      | (with_reducible exact ih4 _ _ _ _ _ _ _ _ _ _ _)
      | (with_reducible exact ih5 _ _ _ _ _ _ _ _ _ _)
      | (with_reducible exact ih6 _ _ _ _ _ _ _ _ _ _)
      | (with_reducible exact ih7 _ _ _ _ _ _ _ _ _ _ _)
      | (with_reducible exact colophonref29_Parents.mono _ _)
      | (with_reducible exact LeO.refl _)
      | (with_reducible exact LeO.none _)
      | (with_reducible refine LeO.ite ?_ ?_)
      | (with_reducible refine LeO.bind ?_ (fun _ => ?_))
      | exact ih0 _ _ _
      | exact ih1 _ _ _ _ _ _ _ _ _ _
      | exact ih2 _ _ _ _ _ _ _ _ _ _ _
      | exact ih3 _ _ _ _ _ _ _ _ _ _
      | exact ih4 _ _ _ _ _ _ _ _ _ _ _
      | exact ih5 _ _ _ _ _ _ _ _ _ _
      | exact ih6 _ _ _ _ _ _ _ _ _ _
      | exact ih7 _ _ _ _ _ _ _ _ _ _ _
      | exact colophonref29_Parents.mono _ _
      | exact LeO.none _
      | refine LeO.ite ?_ ?_
      | refine LeO.bind ?_ (fun _ => ?_)
    · intro y0 y1 y2 y3 y4 y5 y6 y7 y8 y9
      unfold colophonref29_Knots.j5
      repeat' first
      | (with_reducible exact ih0 _ _ _)
      | (with_reducible exact ih1 _ _ _ _ _ _ _ _ _ _)
      | (with_reducible exact ih2 _ _ _ _ _ _ _ _ _ _ _)
      | (with_reducible exact ih3 _ _ _ _ _ _ _ _ _ _)
      | (with_reducible exact ih4 _ _ _ _ _ _ _ _ _ _ _)
      | (with_reducible exact ih5 _ _ _ _ _ _ _ _ _ _)
      | (with_reducible exact ih6 _ _ _ _ _ _ _ _ _ _)
      | (with_reducible exact ih7 _ _ _ _ _ _ _ _ _ _ _)
      | (with_reducible exact colophonref29_Parents.mono _ _)
      | (with_reducible exact LeO.refl _)
      | (with_reducible exact LeO.none _)
      | (with_reducible refine LeO.ite ?_ ?_)
      | (with_reducible refine LeO.bind ?_ (fun _ => ?_))
      | exact ih0 _ _ _
      | exact ih1 _ _ _ _ _ _ _ _ _ _
      | exact ih2 _ _ _ _ _ _ _ _ _ _ _
      | exact ih3 _ _ _ _ _ _ _ _ _ _
      | exact ih4 _ _ _ _ _ _ _ _ _ _ _
      | exact ih5 _ _ _ _ _ _ _ _ _ _
      | exact ih6 _ _ _ _ _ _ _ _ _ _
      | exact ih7 _ _ _ _ _ _ _ _ _ _ _
      | exact colophonref29_Parents.mono _ _
      | exact LeO.none _
      | refine LeO.ite ?_ ?_
      | refine LeO.bind ?_ (fun _ => ?_)
    · intro y0 y1 y2 y3 y4 y5 y6 y7 y8 y9
      unfold colophonref29_Knots.j6
      repeat' first
      | (with_reducible exact ih0 _ _ _)
      | (with_reducible exact ih1 _ _ _ _ _ _ _ _ _ _)
      | (with_reducible exact ih2 _ _ _ _ _ _ _ _ _ _ _)
      | (with_reducible exact ih3 _ _ _ _ _ _ _ _ _ _)
      | (with_reducible exact ih4 _ _ _ _ _ _ _ _ _ _ _)
      | (with_reducible exact ih5 _ _ _ _ _ _ _ _ _ _)
      | (with_reducible exact ih6 _ _ _ _ _ _ _ _ _ _)
      | (with_reducible exact ih7 _ _ _ _ _ _ _ _ _ _ _)
      | (with_reducible exact colophonref29_Parents.mono _ _)
      | (with_reducible exact LeO.refl _)
      | (with_reducible exact LeO.none _)
      | (with_reducible refine LeO.ite ?_ ?_)
      | (with_reducible refine LeO.bind ?_ (fun _ => ?_))
      | exact ih0 _ _ _
      | exact ih1 _ _ _ _ _ _ _ _ _ _
      | exact ih2 _ _ _ _ _ _ _ _ _ _ _
      | exact ih3 _ _ _ _ _ _ _ _ _ _
      | exact ih4 _ _ _ _ _ _ _ _ _ _ _
      | exact ih5 _ _ _ _ _ _ _ _ _ _
      | exact ih6 _ _ _ _ _ _ _ _ _ _
      | exact ih7 _ _ _ _ _ _ _ _ _ _ _
      | exact colophonref29_Parents.mono _ _
      | exact LeO.none _
      | refine LeO.ite ?_ ?_
      | refine LeO.bind ?_ (fun _ => ?_)
    · intro y0 y1 y2 y3 y4 y5 y6 y7 y8 y9 y10
      unfold colophonref29_Knots.l2
      repeat' first
      | (with_reducible exact ih0 _ _ _)
      | (with_reducible exact ih1 _ _ _ _ _ _ _ _ _ _)
      | (with_reducible exact ih2 _ _ _ _ _ _ _ _ _ _ _)
      | (with_reducible exact ih3 _ _ _ _ _ _ _ _ _ _)
      | (with_reducible exact ih4 _ _ _ _ _ _ _ _ _ _ _)
      | (with_reducible exact ih5 _ _ _ _ _ _ _ _ _ _)
      | (with_reducible exact ih6 _ _ _ _ _ _ _ _ _ _)
      | (with_reducible exact ih7 _ _ _ _ _ _ _ _ _ _ _)
      | (with_reducible exact colophonref29_Parents.mono _ _)
      | (with_reducible exact LeO.refl _)
      | (with_reducible exact LeO.none _)
      | (with_reducible refine LeO.ite ?_ ?_)
      | (with_reducible refine LeO.bind ?_ (fun _ => ?_))
      | exact ih0 _ _ _
      | exact ih1 _ _ _ _ _ _ _ _ _ _
      | exact ih2 _ _ _ _ _ _ _ _ _ _ _
      | exact ih3 _ _ _ _ _ _ _ _ _ _
      | exact ih4 _ _ _ _ _ _ _ _ _ _ _
      | exact ih5 _ _ _ _ _ _ _ _ _ _
      | exact ih6 _ _ _ _ _ _ _ _ _ _
      | exact ih7 _ _ _ _ _ _ _ _ _ _ _
      | exact colophonref29_Parents.mono _ _
      | exact LeO.none _
      | refine LeO.ite ?_ ?_
      | refine LeO.bind ?_ (fun _ => ?_)
theorem colophonref29_Knots.mono : ∀ a0 k, LeO (colophonref29_Knots.f k a0) (colophonref29_Knots.f (k + 1) a0) := by
  intro a0 k
  obtain ⟨ih0, ih1, ih2, ih3, ih4, ih5, ih6, ih7⟩ := colophonref29_Knots.mono_l k
  unfold colophonref29_Knots.f
  repeat' first
      | (with_reducible exact ih0 _ _ _)
      | (with_reducible exact ih1 _ _ _ _ _ _ _ _ _ _)
      | (with_reducible exact ih2 _ _ _ _ _ _ _ _ _ _ _)
      | (with_reducible exact ih3 _ _ _ _ _ _ _ _ _ _)
      | (with_reducible exact ih4 _ _ _ _ _ _ _ _ _ _ _)
      | (with_reducible exact ih5 _ _ _ _ _ _ _ _ _ _)
      | (with_reducible exact ih6 _ _ _ _ _ _ _ _ _ _)
      | (with_reducible exact ih7 _ _ _ _ _ _ _ _ _ _ _)
      | (with_reducible exact colophonref29_Parents.mono _ _)
      | (with_reducible exact LeO.refl _)
      | (with_reducible exact LeO.none _)
      | (with_reducible refine LeO.ite ?_ ?_)
      | (with_reducible refine LeO.bind ?_ (fun _ => ?_))
      | exact ih0 _ _ _
      | exact ih1 _ _ _ _ _ _ _ _ _ _
      | exact ih2 _ _ _ _ _ _ _ _ _ _ _
      | exact ih3 _ _ _ _ _ _ _ _ _ _
      | exact ih4 _ _ _ _ _ _ _ _ _ _ _
      | exact ih5 _ _ _ _ _ _ _ _ _ _
      | exact ih6 _ _ _ _ _ _ _ _ _ _
      | exact ih7 _ _ _ _ _ _ _ _ _ _ _
      | exact colophonref29_Parents.mono _ _
      | exact LeO.none _
      | refine LeO.ite ?_ ?_
      | refine LeO.bind ?_ (fun _ => ?_)
set_option maxHeartbeats 8000000 in
set_option maxRecDepth 100000 in
theorem colophonref29_Knots.calls (k : Nat) (A0 : Option Addr) (c0 : Nat) (l0 : List Int) (r : List (S27)) (w : World) (hr0 : Kd.C (Kd.int .i64) w A0 l0.length l0) (hc0 : l0.length ≤ c0) (h : colophonref29_Knots.f k l0 = some r) :
    Calls Try.prog 10 #[.slice A0 l0.length c0] w fun e w' => ∃ v0_ : Value, e = .returned (v0_) ∧ Kd.R k27 27 w' w.heap.size (fun _ => True) v0_ r ∧ Below w.heap.size w w' := by
  have hu27 := Try.underlying27
  have HR0 := Aside0.mk hr0
  have HC0 := Aside0.mk hc0
  clear hr0 hc0
  have HB := Aside0.mk (Below.refl w.heap.size w)
  have H : ((colophonref29_Parents.f k l0).bind fun t168 => (colophonref29_Knots.l0 k t168 ([] : List (S27)) 0)) = some r := h
  clear h
  replace H := Option.bind_eq_some_iff.mp H
  obtain ⟨t168, A20, H⟩ := H
  replace H : (colophonref29_Knots.l0 k t168 ([] : List (S27)) 0) = some r := H
  have A2 := Aside0.mk A20
  clear A20
  have H' := Aside0.mk H
  clear H
  go_enter Try.func10, Try.ntmps10
  go_wp2_with (first | (go_at_call 15; (with_reducible refine (colophonref29_Parents.calls k _ _ l0 t168 _ ?side1 ?side2 A2.out).mono ?_); (case side1 => repeat (first | exact HR0.out | (with_reducible refine Kd.C_alloc ?_ _) | (with_reducible refine Kd.C_drewN ?_ _) | (with_reducible refine Kd.C_drew ?_))); (case side2 => exact HC0.out); rintro e w3 ⟨v169, rfl, ho0, hb⟩; have n0_ := Aside0.mk (Kd.R_lower ho0 (below_size (by repeat (first | (with_reducible first | exact HB.out | apply below_alloc | apply pw_below_drewN | apply below_drew1) | exact HB.out)))); have n1_ := Aside0.mk (below_step (by repeat (first | (with_reducible first | exact HB.out | apply below_alloc | apply pw_below_drewN | apply below_drew1) | exact HB.out)) hb); clear HB; have HO170 := n0_; have HB := n1_; clear n0_ n1_; (try clear hb); (try clear hb2); (try clear hk); (try clear hi); (try clear ho0)))
  repeat (go_quiet (first | (go_at_call 15; (with_reducible refine (colophonref29_Parents.calls k _ _ l0 t168 _ ?side1 ?side2 A2.out).mono ?_); (case side1 => repeat (first | exact HR0.out | (with_reducible refine Kd.C_alloc ?_ _) | (with_reducible refine Kd.C_drewN ?_ _) | (with_reducible refine Kd.C_drew ?_))); (case side2 => exact HC0.out); rintro e w3 ⟨v169, rfl, ho0, hb⟩; have n0_ := Aside0.mk (Kd.R_lower ho0 (below_size (by repeat (first | (with_reducible first | exact HB.out | apply below_alloc | apply pw_below_drewN | apply below_drew1) | exact HB.out)))); have n1_ := Aside0.mk (below_step (by repeat (first | (with_reducible first | exact HB.out | apply below_alloc | apply pw_below_drewN | apply below_drew1) | exact HB.out)) hb); clear HB; have HO170 := n0_; have HB := n1_; clear n0_ n1_; (try clear hb); (try clear hb2); (try clear hk); (try clear hi); (try clear ho0))); try go_wp2_with (first | (go_at_call 15; (with_reducible refine (colophonref29_Parents.calls k _ _ l0 t168 _ ?side1 ?side2 A2.out).mono ?_); (case side1 => repeat (first | exact HR0.out | (with_reducible refine Kd.C_alloc ?_ _) | (with_reducible refine Kd.C_drewN ?_ _) | (with_reducible refine Kd.C_drew ?_))); (case side2 => exact HC0.out); rintro e w3 ⟨v169, rfl, ho0, hb⟩; have n0_ := Aside0.mk (Kd.R_lower ho0 (below_size (by repeat (first | (with_reducible first | exact HB.out | apply below_alloc | apply pw_below_drewN | apply below_drew1) | exact HB.out)))); have n1_ := Aside0.mk (below_step (by repeat (first | (with_reducible first | exact HB.out | apply below_alloc | apply pw_below_drewN | apply below_drew1) | exact HB.out)) hb); clear HB; have HO170 := n0_; have HB := n1_; clear n0_ n1_; (try clear hb); (try clear hb2); (try clear hk); (try clear hi); (try clear ho0))))
  go_loopg [4, 5] k (fun kq v4 v5 w' => ∃ (x4_1 : List (S27)) (x5_1 : Int), v5 = .int .i64 x5_1 ∧ Aside0 (colophonref29_Knots.l0 kq t168 x4_1 x5_1 = some r) ∧ Aside0 (kq ≤ k) ∧ Aside0 (Kd.R (Kd.int .i64) 3 w' w.heap.size (fun _ => True) v169 t168) ∧ Aside0 (Kd.R k27 27 w' w.heap.size (fun _ => True) v4 x4_1) ∧ Aside0 (Below w.heap.size w w'))
  case atStart => exact ⟨(([] : List (S27))), (0), (by first | rfl | (simp; done) | (simp [*]; done)), H', ⟨Nat.le_refl _⟩, ⟨by (with_reducible repeat (first | apply Kd.R_alloc | apply Kd.R_drewN | apply Kd.R_drew)); exact HO170.out⟩, ⟨by first | exact Kd.R_nil _ _ _ _ _ | exact Kd.N_nil _ _ _ _ _ | exact Kd.V_nil _ _ _ _ _ | exact Kd.Q_nil _ _ _ _ _ | exact Kd.S_nil _ _ _ _ _⟩, ⟨by repeat (first | (with_reducible first | exact HB.out | apply below_alloc | apply pw_below_drewN | apply below_drew1) | exact HB.out)⟩⟩
  case round =>
    clear H'
    try clear c1
    try clear p2
    obtain ⟨x4_1, x5_1, rfl, HA, HK1, HO_3, HO_4, HB⟩ := hrel
    cases gk with
    | zero => exact absurd HA.out (by simp [colophonref29_Knots.l0])
    | succ k1 =>
      have H := HA.out
      clear HA
      simp only [colophonref29_Knots.l0] at H
      by_cases c4 : x5_1 < (t168.length : Int)
      · rw [if_pos c4] at H
        have c4b0 : decide (x5_1 < (t168.length : Int)) = true := decide_eq_true c4
        clear c4
        by_cases c5 : 0 ≤ x5_1
        · rw [if_pos c5] at H
          have c5b0 : decide (0 ≤ x5_1) = true := decide_eq_true c5
          clear c5
          have H' := Aside0.mk H
          clear H
          obtain ⟨Ao6, co6, eo6⟩ := Kd.R_slice HO_3.out
          subst eo6
          have p171 : 0 ≤ (x5_1 : Int) := of_decide_eq_true (by first | (with_reducible assumption) | assumption)
          have q171 : x5_1 < (t168.length : Int) := of_decide_eq_true (by first | (with_reducible assumption) | assumption)
          obtain ⟨ad171, e171, hx171_0⟩ := Kd.at_int (Kd.R_reads' HO_3.out).2.2 x5_1 p171 q171
          cases e171
          replace p171 := eq_true p171
          replace q171 := eq_true q171
          go_wp2_with (first | ((with_reducible refine gate_dst (N := 6) rfl ?_); refine box_event ?hg (N := 6) ?hd (cs := #[.int .i64 0, .int .i64 0, .int .i64 0, .int .i64 0, .int .i64 0, .int .i64 0]) (t := 27) ?hr ?_; (case hd => rfl); (case hg => rfl); (case hr => first | (go_simp; done) | (go_simp; rfl)); intro gb172 hg w7 hbox hb; have n0_ := Aside0.mk (Kd.R_below (by (with_reducible repeat (first | apply Kd.R_alloc | apply Kd.R_drewN | apply Kd.R_drew)); exact HO_3.out) hb); have n1_ := Aside0.mk (Kd.R_below (Kd.R_elderB (by (with_reducible repeat (first | apply Kd.R_alloc | apply Kd.R_drewN | apply Kd.R_drew)); exact HO_4.out) gb172 (Nat.le_of_eq hg.symm)) hb); have n2_ := Aside0.mk (below_step (by repeat (first | (with_reducible first | exact HB.out | apply below_alloc | apply pw_below_drewN | apply below_drew1) | exact HB.out)) hb); have n3_ := Aside0.mk (hbox); have n4_ := Aside0.mk ((by rw [hg]; exact (below_size (by repeat (first | (with_reducible first | exact HB.out | apply below_alloc | apply pw_below_drewN | apply below_drew1) | exact HB.out))) : w.heap.size ≤ gb172)); have n5_ := Aside0.mk ((by rw [hg]; exact (below_size (by repeat (first | (with_reducible first | exact HB.out | apply below_alloc | apply pw_below_drewN | apply below_drew1) | exact HB.out))) : w.heap.size ≤ gb172)); clear HO_3; clear HO_4; clear HB; have HO_3 := n0_; have HO_4 := n1_; have HB := n2_; have BK172 := n3_; have GW172 := n4_; have GE172 := n5_; clear n0_ n1_ n2_ n3_ n4_ n5_; clear hb hbox hg; have hcz8_0 : w7.cell? ⟨gb172, 0, none⟩ = some (.int .i64 0) := (blk_cell BK172.out 0).trans rfl; have hcz8_1 : w7.cell? ⟨gb172, 1, none⟩ = some (.int .i64 0) := (blk_cell BK172.out 1).trans rfl; have hcz8_2 : w7.cell? ⟨gb172, 2, none⟩ = some (.int .i64 0) := (blk_cell BK172.out 2).trans rfl; have hcz8_3 : w7.cell? ⟨gb172, 3, none⟩ = some (.int .i64 0) := (blk_cell BK172.out 3).trans rfl; have hcz8_4 : w7.cell? ⟨gb172, 4, none⟩ = some (.int .i64 0) := (blk_cell BK172.out 4).trans rfl; have hcz8_5 : w7.cell? ⟨gb172, 5, none⟩ = some (.int .i64 0) := (blk_cell BK172.out 5).trans rfl; have hfz8_0 := blk_frozen BK172.out 0; have hfz8_1 := blk_frozen BK172.out 1; have hfz8_2 := blk_frozen BK172.out 2; have hfz8_3 := blk_frozen BK172.out 3; have hfz8_4 := blk_frozen BK172.out 4; have hfz8_5 := blk_frozen BK172.out 5))
          repeat (go_quiet (first | ((with_reducible refine gate_dst (N := 6) rfl ?_); refine box_event ?hg (N := 6) ?hd (cs := #[.int .i64 0, .int .i64 0, .int .i64 0, .int .i64 0, .int .i64 0, .int .i64 0]) (t := 27) ?hr ?_; (case hd => rfl); (case hg => rfl); (case hr => first | (go_simp; done) | (go_simp; rfl)); intro gb172 hg w7 hbox hb; have n0_ := Aside0.mk (Kd.R_below (by (with_reducible repeat (first | apply Kd.R_alloc | apply Kd.R_drewN | apply Kd.R_drew)); exact HO_3.out) hb); have n1_ := Aside0.mk (Kd.R_below (Kd.R_elderB (by (with_reducible repeat (first | apply Kd.R_alloc | apply Kd.R_drewN | apply Kd.R_drew)); exact HO_4.out) gb172 (Nat.le_of_eq hg.symm)) hb); have n2_ := Aside0.mk (below_step (by repeat (first | (with_reducible first | exact HB.out | apply below_alloc | apply pw_below_drewN | apply below_drew1) | exact HB.out)) hb); have n3_ := Aside0.mk (hbox); have n4_ := Aside0.mk ((by rw [hg]; exact (below_size (by repeat (first | (with_reducible first | exact HB.out | apply below_alloc | apply pw_below_drewN | apply below_drew1) | exact HB.out))) : w.heap.size ≤ gb172)); have n5_ := Aside0.mk ((by rw [hg]; exact (below_size (by repeat (first | (with_reducible first | exact HB.out | apply below_alloc | apply pw_below_drewN | apply below_drew1) | exact HB.out))) : w.heap.size ≤ gb172)); clear HO_3; clear HO_4; clear HB; have HO_3 := n0_; have HO_4 := n1_; have HB := n2_; have BK172 := n3_; have GW172 := n4_; have GE172 := n5_; clear n0_ n1_ n2_ n3_ n4_ n5_; clear hb hbox hg; have hcz8_0 : w7.cell? ⟨gb172, 0, none⟩ = some (.int .i64 0) := (blk_cell BK172.out 0).trans rfl; have hcz8_1 : w7.cell? ⟨gb172, 1, none⟩ = some (.int .i64 0) := (blk_cell BK172.out 1).trans rfl; have hcz8_2 : w7.cell? ⟨gb172, 2, none⟩ = some (.int .i64 0) := (blk_cell BK172.out 2).trans rfl; have hcz8_3 : w7.cell? ⟨gb172, 3, none⟩ = some (.int .i64 0) := (blk_cell BK172.out 3).trans rfl; have hcz8_4 : w7.cell? ⟨gb172, 4, none⟩ = some (.int .i64 0) := (blk_cell BK172.out 4).trans rfl; have hcz8_5 : w7.cell? ⟨gb172, 5, none⟩ = some (.int .i64 0) := (blk_cell BK172.out 5).trans rfl; have hfz8_0 := blk_frozen BK172.out 0; have hfz8_1 := blk_frozen BK172.out 1; have hfz8_2 := blk_frozen BK172.out 2; have hfz8_3 := blk_frozen BK172.out 3; have hfz8_4 := blk_frozen BK172.out 4; have hfz8_5 := blk_frozen BK172.out 5)); try go_wp2_with (first | ((with_reducible refine gate_dst (N := 6) rfl ?_); refine box_event ?hg (N := 6) ?hd (cs := #[.int .i64 0, .int .i64 0, .int .i64 0, .int .i64 0, .int .i64 0, .int .i64 0]) (t := 27) ?hr ?_; (case hd => rfl); (case hg => rfl); (case hr => first | (go_simp; done) | (go_simp; rfl)); intro gb172 hg w7 hbox hb; have n0_ := Aside0.mk (Kd.R_below (by (with_reducible repeat (first | apply Kd.R_alloc | apply Kd.R_drewN | apply Kd.R_drew)); exact HO_3.out) hb); have n1_ := Aside0.mk (Kd.R_below (Kd.R_elderB (by (with_reducible repeat (first | apply Kd.R_alloc | apply Kd.R_drewN | apply Kd.R_drew)); exact HO_4.out) gb172 (Nat.le_of_eq hg.symm)) hb); have n2_ := Aside0.mk (below_step (by repeat (first | (with_reducible first | exact HB.out | apply below_alloc | apply pw_below_drewN | apply below_drew1) | exact HB.out)) hb); have n3_ := Aside0.mk (hbox); have n4_ := Aside0.mk ((by rw [hg]; exact (below_size (by repeat (first | (with_reducible first | exact HB.out | apply below_alloc | apply pw_below_drewN | apply below_drew1) | exact HB.out))) : w.heap.size ≤ gb172)); have n5_ := Aside0.mk ((by rw [hg]; exact (below_size (by repeat (first | (with_reducible first | exact HB.out | apply below_alloc | apply pw_below_drewN | apply below_drew1) | exact HB.out))) : w.heap.size ≤ gb172)); clear HO_3; clear HO_4; clear HB; have HO_3 := n0_; have HO_4 := n1_; have HB := n2_; have BK172 := n3_; have GW172 := n4_; have GE172 := n5_; clear n0_ n1_ n2_ n3_ n4_ n5_; clear hb hbox hg; have hcz8_0 : w7.cell? ⟨gb172, 0, none⟩ = some (.int .i64 0) := (blk_cell BK172.out 0).trans rfl; have hcz8_1 : w7.cell? ⟨gb172, 1, none⟩ = some (.int .i64 0) := (blk_cell BK172.out 1).trans rfl; have hcz8_2 : w7.cell? ⟨gb172, 2, none⟩ = some (.int .i64 0) := (blk_cell BK172.out 2).trans rfl; have hcz8_3 : w7.cell? ⟨gb172, 3, none⟩ = some (.int .i64 0) := (blk_cell BK172.out 3).trans rfl; have hcz8_4 : w7.cell? ⟨gb172, 4, none⟩ = some (.int .i64 0) := (blk_cell BK172.out 4).trans rfl; have hcz8_5 : w7.cell? ⟨gb172, 5, none⟩ = some (.int .i64 0) := (blk_cell BK172.out 5).trans rfl; have hfz8_0 := blk_frozen BK172.out 0; have hfz8_1 := blk_frozen BK172.out 1; have hfz8_2 := blk_frozen BK172.out 2; have hfz8_3 := blk_frozen BK172.out 3; have hfz8_4 := blk_frozen BK172.out 4; have hfz8_5 := blk_frozen BK172.out 5)))
          go_loopg [7] k1 (fun kq v7 w' => ∃ (x7_2 : Int) (x173001_2 : Int) (x173002_2 : Int) (x173003_2 : Int) (x173004_2 : Int) (x173005_2 : Int), v7 = .int .i64 x7_2 ∧ Aside0 (colophonref29_Knots.l1 kq t168 x4_1 x5_1 x7_2 (rd t168 x5_1) x173001_2 x173002_2 x173003_2 x173004_2 x173005_2 = some r) ∧ Aside0 (kq ≤ k1) ∧ Aside0 (Kd.R (Kd.int .i64) 3 w' w.heap.size (fun _ => True) (.slice (some ad171) t168.length co6) t168) ∧ Aside0 (Kd.R k27 27 w' w.heap.size (fun k_ => k_ ≠ gb172) u4 x4_1) ∧ Aside0 (w'.heap[gb172]? = some (.cells #[.int .i64 (rd t168 x5_1), .int .i64 x173001_2, .int .i64 x173002_2, .int .i64 x173003_2, .int .i64 x173004_2, .int .i64 x173005_2] 27 (0, 0))) ∧ Aside0 (Below w.heap.size w w'))
          case atStart => exact ⟨(0), ((-1)), ((-1)), ((-1)), ((-1)), (0), (by first | rfl | (simp; done) | (simp [*]; done)), H', ⟨Nat.le_refl _⟩, ⟨by (with_reducible repeat (first | apply Kd.R_alloc | apply Kd.R_drewN | apply Kd.R_drew)); exact Kd.R_mono (Kd.R_far (p := ⟨gb172, 5, none⟩) (Kd.R_far (p := ⟨gb172, 4, none⟩) (Kd.R_far (p := ⟨gb172, 3, none⟩) (Kd.R_far (p := ⟨gb172, 2, none⟩) (Kd.R_far (p := ⟨gb172, 1, none⟩) (Kd.R_far (p := ⟨gb172, 0, none⟩) (Kd.R_types HO_3.out BK172.out (by decide)) (fun _ hk => hk.2) (.int .i64 (rd t168 x5_1))) (fun _ hk => hk.2) (.int .i64 (-1))) (fun _ hk => hk.2) (.int .i64 (-1))) (fun _ hk => hk.2) (.int .i64 (-1))) (fun _ hk => hk.2) (.int .i64 (-1))) (fun _ hk => hk.2) (.int .i64 0)) (fun _ hk => trivial)⟩, ⟨by (with_reducible repeat (first | apply Kd.R_alloc | apply Kd.R_drewN | apply Kd.R_drew)); exact Kd.R_mono (Kd.R_far (p := ⟨gb172, 5, none⟩) (Kd.R_far (p := ⟨gb172, 4, none⟩) (Kd.R_far (p := ⟨gb172, 3, none⟩) (Kd.R_far (p := ⟨gb172, 2, none⟩) (Kd.R_far (p := ⟨gb172, 1, none⟩) (Kd.R_far (p := ⟨gb172, 0, none⟩) (Kd.R_mono HO_4.out (fun k_ hk => (⟨hk, hk.2⟩ : _ ∧ k_ ≠ gb172))) (fun _ hk => hk.2) (.int .i64 (rd t168 x5_1))) (fun _ hk => hk.2) (.int .i64 (-1))) (fun _ hk => hk.2) (.int .i64 (-1))) (fun _ hk => hk.2) (.int .i64 (-1))) (fun _ hk => hk.2) (.int .i64 (-1))) (fun _ hk => hk.2) (.int .i64 0)) (fun _ hk => hk.1.2)⟩, ⟨by (with_reducible repeat (first | refine blk_drewN ?_ _ | refine blk_drew ?_ | refine blk_alloc ?_ _)); refine blk_put (cs := #[.int .i64 (rd t168 x5_1), .int .i64 (-1), .int .i64 (-1), .int .i64 (-1), .int .i64 (-1), .int .i64 0]) ?_ 5 _ rfl; (with_reducible repeat (first | refine blk_drewN ?_ _ | refine blk_drew ?_ | refine blk_alloc ?_ _)); refine blk_put (cs := #[.int .i64 (rd t168 x5_1), .int .i64 (-1), .int .i64 (-1), .int .i64 (-1), .int .i64 0, .int .i64 0]) ?_ 4 _ rfl; (with_reducible repeat (first | refine blk_drewN ?_ _ | refine blk_drew ?_ | refine blk_alloc ?_ _)); refine blk_put (cs := #[.int .i64 (rd t168 x5_1), .int .i64 (-1), .int .i64 (-1), .int .i64 0, .int .i64 0, .int .i64 0]) ?_ 3 _ rfl; (with_reducible repeat (first | refine blk_drewN ?_ _ | refine blk_drew ?_ | refine blk_alloc ?_ _)); refine blk_put (cs := #[.int .i64 (rd t168 x5_1), .int .i64 (-1), .int .i64 0, .int .i64 0, .int .i64 0, .int .i64 0]) ?_ 2 _ rfl; (with_reducible repeat (first | refine blk_drewN ?_ _ | refine blk_drew ?_ | refine blk_alloc ?_ _)); refine blk_put (cs := #[.int .i64 (rd t168 x5_1), .int .i64 0, .int .i64 0, .int .i64 0, .int .i64 0, .int .i64 0]) ?_ 1 _ rfl; (with_reducible repeat (first | refine blk_drewN ?_ _ | refine blk_drew ?_ | refine blk_alloc ?_ _)); refine blk_put (cs := #[.int .i64 0, .int .i64 0, .int .i64 0, .int .i64 0, .int .i64 0, .int .i64 0]) ?_ 0 _ rfl; (with_reducible repeat (first | refine blk_drewN ?_ _ | refine blk_drew ?_ | refine blk_alloc ?_ _)); exact BK172.out⟩, ⟨by repeat (first | (with_reducible first | exact HB.out | apply below_alloc | apply pw_below_drewN | apply below_drew1 | refine below_set ?_ GE172.out) | exact HB.out)⟩⟩
          case round =>
            clear H'
            try clear c1
            try clear p1
            try clear q1
            try clear hx1
            try clear p2
            try clear c4
            try clear c4b0
            try clear c5
            try clear c5b0
            try clear hcz8_0
            try clear hcz8_1
            try clear hcz8_2
            try clear hcz8_3
            try clear hcz8_4
            try clear hcz8_5
            try clear hfz8_0
            try clear hfz8_1
            try clear hfz8_2
            try clear hfz8_3
            try clear hfz8_4
            try clear hfz8_5
            try clear hx171_0
            try clear p171
            try clear p2
            try clear q171
            obtain ⟨x7_2, x173001_2, x173002_2, x173003_2, x173004_2, x173005_2, rfl, HA, HK2, HO_3, HO_4, BK172, HB⟩ := hrel
            cases gk with
            | zero => exact absurd HA.out (by simp [colophonref29_Knots.l1])
            | succ k2 =>
              have H := HA.out
              clear HA
              simp only [colophonref29_Knots.l1] at H
              by_cases c9 : x7_2 < (t168.length : Int)
              · rw [if_pos c9] at H
                have c9b0 : decide (x7_2 < (t168.length : Int)) = true := decide_eq_true c9
                clear c9
                have HC10 := Aside0.mk H
                clear H
                go_upto_region 10 with (fail)
                repeat (go_quiet (fail); go_upto_region 10 with (fail))
                go_cut [41] (fun v41 wc => ∃ (kq : Nat) (x41_9 : Bool), v41 = .bool x41_9 ∧ Aside0 (colophonref29_Knots.j2 kq t168 x4_1 x5_1 x7_2 x41_9 (rd t168 x5_1) x173001_2 x173002_2 x173003_2 x173004_2 x173005_2 = some r) ∧ Aside0 (kq ≤ k2) ∧ Aside0 (Kd.R (Kd.int .i64) 3 wc w.heap.size (fun _ => True) (.slice (some ad171) t168.length co6) t168) ∧ Aside0 (Kd.R k27 27 wc w.heap.size (fun k_ => k_ ≠ gb172) u4 x4_1) ∧ Aside0 (wc.heap[gb172]? = some (.cells #[.int .i64 (rd t168 x5_1), .int .i64 x173001_2, .int .i64 x173002_2, .int .i64 x173003_2, .int .i64 x173004_2, .int .i64 x173005_2] 27 (0, 0))) ∧ Aside0 (Below w.heap.size w wc))
                case first =>
                  have H := HC10.out
                  clear HC10
                  by_cases c11 : 0 ≤ x7_2
                  · rw [if_pos c11] at H
                    have c11b0 : decide (0 ≤ x7_2) = true := decide_eq_true c11
                    clear c11
                    (first | rw [c11b0] | (simp only [i64_w, i32_w]; rw [c11b0]) | skip)
                    by_cases c12 : 0 ≤ x5_1
                    · rw [if_pos c12] at H
                      have c12b0 : decide (0 ≤ x5_1) = true := decide_eq_true c12
                      clear c12
                      by_cases c13 : x5_1 < (t168.length : Int)
                      · rw [if_pos c13] at H
                        have c13b0 : decide (x5_1 < (t168.length : Int)) = true := decide_eq_true c13
                        clear c13
                        by_cases c14 : (rd t168 x7_2) = (rd t168 x5_1)
                        · rw [if_pos c14] at H
                          have c14b0 : ((rd t168 x7_2) == (rd t168 x5_1)) = true := beq_iff_eq.mpr c14
                          have c14b1 : ((rd t168 x7_2) != (rd t168 x5_1)) = false := bne_eq_false_iff_eq.mpr c14
                          clear c14
                          have H' := Aside0.mk H
                          clear H
                          have p176 : 0 ≤ (x7_2 : Int) := of_decide_eq_true (by first | (with_reducible assumption) | assumption)
                          have q176 : x7_2 < (t168.length : Int) := of_decide_eq_true (by first | (with_reducible assumption) | assumption)
                          obtain ⟨ad176, e176, hx176_0⟩ := Kd.at_int (Kd.R_reads' HO_3.out).2.2 x7_2 p176 q176
                          obtain rfl : ad171 = ad176 := (by injection e176)
                          replace p176 := eq_true p176
                          replace q176 := eq_true q176
                          have p177 : 0 ≤ (x5_1 : Int) := of_decide_eq_true (by first | (with_reducible assumption) | assumption)
                          have q177 : x5_1 < (t168.length : Int) := of_decide_eq_true (by first | (with_reducible assumption) | assumption)
                          obtain ⟨ad177, e177, hx177_0⟩ := Kd.at_int (Kd.R_reads' HO_3.out).2.2 x5_1 p177 q177
                          obtain rfl : ad171 = ad177 := (by injection e177)
                          replace p177 := eq_true p177
                          replace q177 := eq_true q177
                          go_wp2
                          repeat (go_quiet (fail); try go_wp2)
                          go_meet
                          case rel => exact ⟨_, (decide (x7_2 < x5_1)), (by first | rfl | (simp; done) | (simp [*]; done)), H', ⟨by have := HK1.out; have := HK2.out; first | omega | exact Nat.le_refl _⟩, ⟨by (with_reducible repeat (first | apply Kd.R_alloc | apply Kd.R_drewN | apply Kd.R_drew)); exact HO_3.out⟩, ⟨by (with_reducible repeat (first | apply Kd.R_alloc | apply Kd.R_drewN | apply Kd.R_drew)); exact HO_4.out⟩, ⟨by (with_reducible repeat (first | refine blk_drewN ?_ _ | refine blk_drew ?_ | refine blk_alloc ?_ _)); exact BK172.out⟩, ⟨by repeat (first | (with_reducible first | exact HB.out | apply below_alloc | apply pw_below_drewN | apply below_drew1 | refine below_set ?_ GE172.out) | exact HB.out)⟩⟩
                        · rw [if_neg c14] at H
                          have c14b0 : ((rd t168 x7_2) == (rd t168 x5_1)) = false := beq_eq_false_iff_ne.mpr c14
                          have c14b1 : ((rd t168 x7_2) != (rd t168 x5_1)) = true := bne_iff_ne.mpr c14
                          have H' := Aside0.mk H
                          clear H
                          have p176 : 0 ≤ (x7_2 : Int) := of_decide_eq_true (by first | (with_reducible assumption) | assumption)
                          have q176 : x7_2 < (t168.length : Int) := of_decide_eq_true (by first | (with_reducible assumption) | assumption)
                          obtain ⟨ad176, e176, hx176_0⟩ := Kd.at_int (Kd.R_reads' HO_3.out).2.2 x7_2 p176 q176
                          obtain rfl : ad171 = ad176 := (by injection e176)
                          replace p176 := eq_true p176
                          replace q176 := eq_true q176
                          have p177 : 0 ≤ (x5_1 : Int) := of_decide_eq_true (by first | (with_reducible assumption) | assumption)
                          have q177 : x5_1 < (t168.length : Int) := of_decide_eq_true (by first | (with_reducible assumption) | assumption)
                          obtain ⟨ad177, e177, hx177_0⟩ := Kd.at_int (Kd.R_reads' HO_3.out).2.2 x5_1 p177 q177
                          obtain rfl : ad171 = ad177 := (by injection e177)
                          replace p177 := eq_true p177
                          replace q177 := eq_true q177
                          go_wp2
                          repeat (go_quiet (fail); try go_wp2)
                          go_meet
                          case rel => exact ⟨_, (false), (by first | rfl | (simp; done) | (simp [*]; done)), H', ⟨by have := HK1.out; have := HK2.out; first | omega | exact Nat.le_refl _⟩, ⟨by (with_reducible repeat (first | apply Kd.R_alloc | apply Kd.R_drewN | apply Kd.R_drew)); exact HO_3.out⟩, ⟨by (with_reducible repeat (first | apply Kd.R_alloc | apply Kd.R_drewN | apply Kd.R_drew)); exact HO_4.out⟩, ⟨by (with_reducible repeat (first | refine blk_drewN ?_ _ | refine blk_drew ?_ | refine blk_alloc ?_ _)); exact BK172.out⟩, ⟨by repeat (first | (with_reducible first | exact HB.out | apply below_alloc | apply pw_below_drewN | apply below_drew1 | refine below_set ?_ GE172.out) | exact HB.out)⟩⟩
                      · rw [if_neg c13] at H
                        exact absurd H (by simp)
                    · rw [if_neg c12] at H
                      exact absurd H (by simp)
                  · rw [if_neg c11] at H
                    exact absurd H (by simp)
                case rest =>
                  clear HC10
                  try clear c1
                  try clear p1
                  try clear q1
                  try clear hx1
                  try clear p2
                  try clear c4
                  try clear c4b0
                  try clear c5
                  try clear c5b0
                  try clear c9
                  try clear c9b0
                  try clear c10
                  try clear c11
                  try clear c11b0
                  try clear c12
                  try clear c12b0
                  try clear c13
                  try clear c13b0
                  try clear c14
                  try clear c14b0
                  try clear c14b1
                  try clear hcz8_0
                  try clear hcz8_1
                  try clear hcz8_2
                  try clear hcz8_3
                  try clear hcz8_4
                  try clear hcz8_5
                  try clear hfz8_0
                  try clear hfz8_1
                  try clear hfz8_2
                  try clear hfz8_3
                  try clear hfz8_4
                  try clear hfz8_5
                  try clear hx171_0
                  try clear hx176_0
                  try clear hx177_0
                  try clear p1
                  try clear p171
                  try clear p176
                  try clear p177
                  try clear p2
                  try clear q1
                  try clear q171
                  try clear q176
                  try clear q177
                  obtain ⟨kq, x41_9, rfl, HA, HJ9, HO_3, HO_4, BK172, HB⟩ := hcut
                  cases kq with
                  | zero => exact absurd HA.out (by simp [colophonref29_Knots.j2])
                  | succ kj9 =>
                    have H := HA.out
                    clear HA
                    simp only [colophonref29_Knots.j2] at H
                    have HC15 := Aside0.mk H
                    clear H
                    go_upto_if 41 with (fail)
                    repeat (go_quiet (fail); go_upto_if 41 with (fail))
                    go_cut [] (fun wc => ∃ (kq : Nat) (x173001_14 : Int), Aside0 (colophonref29_Knots.j3 kq t168 x4_1 x5_1 x7_2 (rd t168 x5_1) x173001_14 x173002_2 x173003_2 x173004_2 x173005_2 = some r) ∧ Aside0 (kq ≤ kj9) ∧ Aside0 (Kd.R (Kd.int .i64) 3 wc w.heap.size (fun _ => True) (.slice (some ad171) t168.length co6) t168) ∧ Aside0 (Kd.R k27 27 wc w.heap.size (fun k_ => k_ ≠ gb172) u4 x4_1) ∧ Aside0 (wc.heap[gb172]? = some (.cells #[.int .i64 (rd t168 x5_1), .int .i64 x173001_14, .int .i64 x173002_2, .int .i64 x173003_2, .int .i64 x173004_2, .int .i64 x173005_2] 27 (0, 0))) ∧ Aside0 (Below w.heap.size w wc))
                    case first =>
                      have H := HC15.out
                      clear HC15
                      by_cases c16 : x41_9 = true
                      · subst c16
                        have H1 : (colophonref29_Knots.j3 kj9 t168 x4_1 x5_1 x7_2 (rd t168 x5_1) x7_2 x173002_2 x173003_2 x173004_2 x173005_2) = some r := by rw [if_pos rfl] at H; exact H
                        clear H
                        have H := H1
                        clear H1
                        have H' := Aside0.mk H
                        clear H
                        have hcz17_0 : wc.cell? ⟨gb172, 0, none⟩ = some (.int .i64 (rd t168 x5_1)) := (blk_cell BK172.out 0).trans rfl
                        have hcz17_1 : wc.cell? ⟨gb172, 1, none⟩ = some (.int .i64 x173001_2) := (blk_cell BK172.out 1).trans rfl
                        have hcz17_2 : wc.cell? ⟨gb172, 2, none⟩ = some (.int .i64 x173002_2) := (blk_cell BK172.out 2).trans rfl
                        have hcz17_3 : wc.cell? ⟨gb172, 3, none⟩ = some (.int .i64 x173003_2) := (blk_cell BK172.out 3).trans rfl
                        have hcz17_4 : wc.cell? ⟨gb172, 4, none⟩ = some (.int .i64 x173004_2) := (blk_cell BK172.out 4).trans rfl
                        have hcz17_5 : wc.cell? ⟨gb172, 5, none⟩ = some (.int .i64 x173005_2) := (blk_cell BK172.out 5).trans rfl
                        have hfz17_0 := blk_frozen BK172.out 0
                        have hfz17_1 := blk_frozen BK172.out 1
                        have hfz17_2 := blk_frozen BK172.out 2
                        have hfz17_3 := blk_frozen BK172.out 3
                        have hfz17_4 := blk_frozen BK172.out 4
                        have hfz17_5 := blk_frozen BK172.out 5
                        go_wp2
                        repeat (go_quiet (fail); try go_wp2)
                        go_meet
                        case rel => exact ⟨_, (x7_2), H', ⟨by have := HK1.out; have := HK2.out; have := HJ9.out; first | omega | exact Nat.le_refl _⟩, ⟨by (with_reducible repeat (first | apply Kd.R_alloc | apply Kd.R_drewN | apply Kd.R_drew)); exact Kd.R_mono (Kd.R_far (p := ⟨gb172, 1, none⟩) (Kd.R_types HO_3.out BK172.out (by decide)) (fun _ hk => hk.2) (.int .i64 x7_2)) (fun _ hk => trivial)⟩, ⟨by (with_reducible repeat (first | apply Kd.R_alloc | apply Kd.R_drewN | apply Kd.R_drew)); exact Kd.R_mono (Kd.R_far (p := ⟨gb172, 1, none⟩) (Kd.R_mono HO_4.out (fun k_ hk => (⟨hk, hk⟩ : _ ∧ k_ ≠ gb172))) (fun _ hk => hk.2) (.int .i64 x7_2)) (fun _ hk => hk.1)⟩, ⟨by (with_reducible repeat (first | refine blk_drewN ?_ _ | refine blk_drew ?_ | refine blk_alloc ?_ _)); refine blk_put (cs := #[.int .i64 (rd t168 x5_1), .int .i64 x173001_2, .int .i64 x173002_2, .int .i64 x173003_2, .int .i64 x173004_2, .int .i64 x173005_2]) ?_ 1 _ rfl; (with_reducible repeat (first | refine blk_drewN ?_ _ | refine blk_drew ?_ | refine blk_alloc ?_ _)); exact BK172.out⟩, ⟨by repeat (first | (with_reducible first | exact HB.out | apply below_alloc | apply pw_below_drewN | apply below_drew1 | refine below_set ?_ GE172.out) | exact HB.out)⟩⟩
                      · replace c16 := Bool.eq_false_iff.mpr c16
                        subst c16
                        have H1 : (colophonref29_Knots.j3 kj9 t168 x4_1 x5_1 x7_2 (rd t168 x5_1) x173001_2 x173002_2 x173003_2 x173004_2 x173005_2) = some r := by rw [if_neg (show ¬ (false = true) by decide)] at H; exact H
                        clear H
                        have H := H1
                        clear H1
                        have H' := Aside0.mk H
                        clear H
                        go_wp2
                        repeat (go_quiet (fail); try go_wp2)
                        go_meet
                        case rel => exact ⟨_, (x173001_2), H', ⟨by have := HK1.out; have := HK2.out; have := HJ9.out; first | omega | exact Nat.le_refl _⟩, ⟨by (with_reducible repeat (first | apply Kd.R_alloc | apply Kd.R_drewN | apply Kd.R_drew)); exact HO_3.out⟩, ⟨by (with_reducible repeat (first | apply Kd.R_alloc | apply Kd.R_drewN | apply Kd.R_drew)); exact HO_4.out⟩, ⟨by (with_reducible repeat (first | refine blk_drewN ?_ _ | refine blk_drew ?_ | refine blk_alloc ?_ _)); exact BK172.out⟩, ⟨by repeat (first | (with_reducible first | exact HB.out | apply below_alloc | apply pw_below_drewN | apply below_drew1 | refine below_set ?_ GE172.out) | exact HB.out)⟩⟩
                    case rest =>
                      clear HC15
                      try clear c1
                      try clear p1
                      try clear q1
                      try clear hx1
                      try clear p2
                      try clear c4
                      try clear c4b0
                      try clear c5
                      try clear c5b0
                      try clear c9
                      try clear c9b0
                      try clear c10
                      try clear c11
                      try clear c11b0
                      try clear c12
                      try clear c12b0
                      try clear c13
                      try clear c13b0
                      try clear c14
                      try clear c14b0
                      try clear c14b1
                      try clear c16
                      try clear p17
                      try clear q17
                      try clear hx17
                      try clear hcz17_0
                      try clear hcz17_1
                      try clear hcz17_2
                      try clear hcz17_3
                      try clear hcz17_4
                      try clear hcz17_5
                      try clear hcz8_0
                      try clear hcz8_1
                      try clear hcz8_2
                      try clear hcz8_3
                      try clear hcz8_4
                      try clear hcz8_5
                      try clear hfz17_0
                      try clear hfz17_1
                      try clear hfz17_2
                      try clear hfz17_3
                      try clear hfz17_4
                      try clear hfz17_5
                      try clear hfz8_0
                      try clear hfz8_1
                      try clear hfz8_2
                      try clear hfz8_3
                      try clear hfz8_4
                      try clear hfz8_5
                      try clear hx171_0
                      try clear hx176_0
                      try clear hx177_0
                      try clear p1
                      try clear p171
                      try clear p176
                      try clear p177
                      try clear p2
                      try clear q1
                      try clear q171
                      try clear q176
                      try clear q177
                      obtain ⟨kq, x173001_14, HA, HJ14, HO_3, HO_4, BK172, HB⟩ := hcut
                      cases kq with
                      | zero => exact absurd HA.out (by simp [colophonref29_Knots.j3])
                      | succ kj14 =>
                        have H := HA.out
                        clear HA
                        simp only [colophonref29_Knots.j3] at H
                        have HC18 := Aside0.mk H
                        clear H
                        go_upto_region 12 with (fail)
                        repeat (go_quiet (fail); go_upto_region 12 with (fail))
                        go_cut [62] (fun v62 wc => ∃ (kq : Nat) (x62_17 : Bool), v62 = .bool x62_17 ∧ Aside0 (colophonref29_Knots.j4 kq t168 x4_1 x5_1 x7_2 x62_17 (rd t168 x5_1) x173001_14 x173002_2 x173003_2 x173004_2 x173005_2 = some r) ∧ Aside0 (kq ≤ kj14) ∧ Aside0 (Kd.R (Kd.int .i64) 3 wc w.heap.size (fun _ => True) (.slice (some ad171) t168.length co6) t168) ∧ Aside0 (Kd.R k27 27 wc w.heap.size (fun k_ => k_ ≠ gb172) u4 x4_1) ∧ Aside0 (wc.heap[gb172]? = some (.cells #[.int .i64 (rd t168 x5_1), .int .i64 x173001_14, .int .i64 x173002_2, .int .i64 x173003_2, .int .i64 x173004_2, .int .i64 x173005_2] 27 (0, 0))) ∧ Aside0 (Below w.heap.size w wc))
                        case first =>
                          have H := HC18.out
                          clear HC18
                          by_cases c19 : 0 ≤ x7_2
                          · rw [if_pos c19] at H
                            have c19b0 : decide (0 ≤ x7_2) = true := decide_eq_true c19
                            clear c19
                            (first | rw [c19b0] | (simp only [i64_w, i32_w]; rw [c19b0]) | skip)
                            by_cases c20 : x7_2 < (t168.length : Int)
                            · rw [if_pos c20] at H
                              have c20b0 : decide (x7_2 < (t168.length : Int)) = true := decide_eq_true c20
                              clear c20
                              by_cases c21 : 0 ≤ x5_1
                              · rw [if_pos c21] at H
                                have c21b0 : decide (0 ≤ x5_1) = true := decide_eq_true c21
                                clear c21
                                by_cases c22 : x5_1 < (t168.length : Int)
                                · rw [if_pos c22] at H
                                  have c22b0 : decide (x5_1 < (t168.length : Int)) = true := decide_eq_true c22
                                  clear c22
                                  by_cases c23 : (rd t168 x7_2) = (rd t168 x5_1)
                                  · rw [if_pos c23] at H
                                    have c23b0 : ((rd t168 x7_2) == (rd t168 x5_1)) = true := beq_iff_eq.mpr c23
                                    have c23b1 : ((rd t168 x7_2) != (rd t168 x5_1)) = false := bne_eq_false_iff_eq.mpr c23
                                    clear c23
                                    by_cases c24 : x7_2 > x5_1
                                    · rw [if_pos c24] at H
                                      have c24b0 : decide (x5_1 < x7_2) = true := decide_eq_true c24
                                      clear c24
                                      have H' := Aside0.mk H
                                      clear H
                                      have p178 : 0 ≤ (x7_2 : Int) := of_decide_eq_true (by first | (with_reducible assumption) | assumption)
                                      have q178 : x7_2 < (t168.length : Int) := of_decide_eq_true (by first | (with_reducible assumption) | assumption)
                                      obtain ⟨ad178, e178, hx178_0⟩ := Kd.at_int (Kd.R_reads' HO_3.out).2.2 x7_2 p178 q178
                                      obtain rfl : ad171 = ad178 := (by injection e178)
                                      replace p178 := eq_true p178
                                      replace q178 := eq_true q178
                                      have p179 : 0 ≤ (x5_1 : Int) := of_decide_eq_true (by first | (with_reducible assumption) | assumption)
                                      have q179 : x5_1 < (t168.length : Int) := of_decide_eq_true (by first | (with_reducible assumption) | assumption)
                                      obtain ⟨ad179, e179, hx179_0⟩ := Kd.at_int (Kd.R_reads' HO_3.out).2.2 x5_1 p179 q179
                                      obtain rfl : ad171 = ad179 := (by injection e179)
                                      replace p179 := eq_true p179
                                      replace q179 := eq_true q179
                                      have hcz25_0 : wc.cell? ⟨gb172, 0, none⟩ = some (.int .i64 (rd t168 x5_1)) := (blk_cell BK172.out 0).trans rfl
                                      have hcz25_1 : wc.cell? ⟨gb172, 1, none⟩ = some (.int .i64 x173001_14) := (blk_cell BK172.out 1).trans rfl
                                      have hcz25_2 : wc.cell? ⟨gb172, 2, none⟩ = some (.int .i64 x173002_2) := (blk_cell BK172.out 2).trans rfl
                                      have hcz25_3 : wc.cell? ⟨gb172, 3, none⟩ = some (.int .i64 x173003_2) := (blk_cell BK172.out 3).trans rfl
                                      have hcz25_4 : wc.cell? ⟨gb172, 4, none⟩ = some (.int .i64 x173004_2) := (blk_cell BK172.out 4).trans rfl
                                      have hcz25_5 : wc.cell? ⟨gb172, 5, none⟩ = some (.int .i64 x173005_2) := (blk_cell BK172.out 5).trans rfl
                                      have hfz25_0 := blk_frozen BK172.out 0
                                      have hfz25_1 := blk_frozen BK172.out 1
                                      have hfz25_2 := blk_frozen BK172.out 2
                                      have hfz25_3 := blk_frozen BK172.out 3
                                      have hfz25_4 := blk_frozen BK172.out 4
                                      have hfz25_5 := blk_frozen BK172.out 5
                                      go_wp2
                                      repeat (go_quiet (fail); try go_wp2)
                                      go_meet
                                      case rel => exact ⟨_, (decide (x173002_2 < 0)), (by first | rfl | (simp; done) | (simp [*]; done)), H', ⟨by have := HK1.out; have := HK2.out; have := HJ9.out; have := HJ14.out; first | omega | exact Nat.le_refl _⟩, ⟨by (with_reducible repeat (first | apply Kd.R_alloc | apply Kd.R_drewN | apply Kd.R_drew)); exact HO_3.out⟩, ⟨by (with_reducible repeat (first | apply Kd.R_alloc | apply Kd.R_drewN | apply Kd.R_drew)); exact HO_4.out⟩, ⟨by (with_reducible repeat (first | refine blk_drewN ?_ _ | refine blk_drew ?_ | refine blk_alloc ?_ _)); exact BK172.out⟩, ⟨by repeat (first | (with_reducible first | exact HB.out | apply below_alloc | apply pw_below_drewN | apply below_drew1 | refine below_set ?_ GE172.out) | exact HB.out)⟩⟩
                                    · rw [if_neg c24] at H
                                      have c24b0 : decide (x5_1 < x7_2) = false := decide_eq_false c24
                                      clear c24
                                      have H' := Aside0.mk H
                                      clear H
                                      have p178 : 0 ≤ (x7_2 : Int) := of_decide_eq_true (by first | (with_reducible assumption) | assumption)
                                      have q178 : x7_2 < (t168.length : Int) := of_decide_eq_true (by first | (with_reducible assumption) | assumption)
                                      obtain ⟨ad178, e178, hx178_0⟩ := Kd.at_int (Kd.R_reads' HO_3.out).2.2 x7_2 p178 q178
                                      obtain rfl : ad171 = ad178 := (by injection e178)
                                      replace p178 := eq_true p178
                                      replace q178 := eq_true q178
                                      have p179 : 0 ≤ (x5_1 : Int) := of_decide_eq_true (by first | (with_reducible assumption) | assumption)
                                      have q179 : x5_1 < (t168.length : Int) := of_decide_eq_true (by first | (with_reducible assumption) | assumption)
                                      obtain ⟨ad179, e179, hx179_0⟩ := Kd.at_int (Kd.R_reads' HO_3.out).2.2 x5_1 p179 q179
                                      obtain rfl : ad171 = ad179 := (by injection e179)
                                      replace p179 := eq_true p179
                                      replace q179 := eq_true q179
                                      go_wp2
                                      repeat (go_quiet (fail); try go_wp2)
                                      go_meet
                                      case rel => exact ⟨_, (false), (by first | rfl | (simp; done) | (simp [*]; done)), H', ⟨by have := HK1.out; have := HK2.out; have := HJ9.out; have := HJ14.out; first | omega | exact Nat.le_refl _⟩, ⟨by (with_reducible repeat (first | apply Kd.R_alloc | apply Kd.R_drewN | apply Kd.R_drew)); exact HO_3.out⟩, ⟨by (with_reducible repeat (first | apply Kd.R_alloc | apply Kd.R_drewN | apply Kd.R_drew)); exact HO_4.out⟩, ⟨by (with_reducible repeat (first | refine blk_drewN ?_ _ | refine blk_drew ?_ | refine blk_alloc ?_ _)); exact BK172.out⟩, ⟨by repeat (first | (with_reducible first | exact HB.out | apply below_alloc | apply pw_below_drewN | apply below_drew1 | refine below_set ?_ GE172.out) | exact HB.out)⟩⟩
                                  · rw [if_neg c23] at H
                                    have c23b0 : ((rd t168 x7_2) == (rd t168 x5_1)) = false := beq_eq_false_iff_ne.mpr c23
                                    have c23b1 : ((rd t168 x7_2) != (rd t168 x5_1)) = true := bne_iff_ne.mpr c23
                                    have H' := Aside0.mk H
                                    clear H
                                    have p178 : 0 ≤ (x7_2 : Int) := of_decide_eq_true (by first | (with_reducible assumption) | assumption)
                                    have q178 : x7_2 < (t168.length : Int) := of_decide_eq_true (by first | (with_reducible assumption) | assumption)
                                    obtain ⟨ad178, e178, hx178_0⟩ := Kd.at_int (Kd.R_reads' HO_3.out).2.2 x7_2 p178 q178
                                    obtain rfl : ad171 = ad178 := (by injection e178)
                                    replace p178 := eq_true p178
                                    replace q178 := eq_true q178
                                    have p179 : 0 ≤ (x5_1 : Int) := of_decide_eq_true (by first | (with_reducible assumption) | assumption)
                                    have q179 : x5_1 < (t168.length : Int) := of_decide_eq_true (by first | (with_reducible assumption) | assumption)
                                    obtain ⟨ad179, e179, hx179_0⟩ := Kd.at_int (Kd.R_reads' HO_3.out).2.2 x5_1 p179 q179
                                    obtain rfl : ad171 = ad179 := (by injection e179)
                                    replace p179 := eq_true p179
                                    replace q179 := eq_true q179
                                    go_wp2
                                    repeat (go_quiet (fail); try go_wp2)
                                    go_meet
                                    case rel => exact ⟨_, (false), (by first | rfl | (simp; done) | (simp [*]; done)), H', ⟨by have := HK1.out; have := HK2.out; have := HJ9.out; have := HJ14.out; first | omega | exact Nat.le_refl _⟩, ⟨by (with_reducible repeat (first | apply Kd.R_alloc | apply Kd.R_drewN | apply Kd.R_drew)); exact HO_3.out⟩, ⟨by (with_reducible repeat (first | apply Kd.R_alloc | apply Kd.R_drewN | apply Kd.R_drew)); exact HO_4.out⟩, ⟨by (with_reducible repeat (first | refine blk_drewN ?_ _ | refine blk_drew ?_ | refine blk_alloc ?_ _)); exact BK172.out⟩, ⟨by repeat (first | (with_reducible first | exact HB.out | apply below_alloc | apply pw_below_drewN | apply below_drew1 | refine below_set ?_ GE172.out) | exact HB.out)⟩⟩
                                · rw [if_neg c22] at H
                                  exact absurd H (by simp)
                              · rw [if_neg c21] at H
                                exact absurd H (by simp)
                            · rw [if_neg c20] at H
                              exact absurd H (by simp)
                          · rw [if_neg c19] at H
                            exact absurd H (by simp)
                        case rest =>
                          clear HC18
                          try clear c1
                          try clear p1
                          try clear q1
                          try clear hx1
                          try clear c2
                          try clear p2
                          try clear c4
                          try clear c4b0
                          try clear c5
                          try clear c5b0
                          try clear c9
                          try clear c9b0
                          try clear c10
                          try clear c11
                          try clear c11b0
                          try clear c12
                          try clear c12b0
                          try clear c13
                          try clear c13b0
                          try clear c14
                          try clear c14b0
                          try clear c14b1
                          try clear c16
                          try clear p17
                          try clear q17
                          try clear hx17
                          try clear c19
                          try clear c19b0
                          try clear c20
                          try clear c20b0
                          try clear c21
                          try clear c21b0
                          try clear c22
                          try clear c22b0
                          try clear c23
                          try clear c23b0
                          try clear c23b1
                          try clear c24
                          try clear c24b0
                          try clear hcz17_0
                          try clear hcz17_1
                          try clear hcz17_2
                          try clear hcz17_3
                          try clear hcz17_4
                          try clear hcz17_5
                          try clear hcz25_0
                          try clear hcz25_1
                          try clear hcz25_2
                          try clear hcz25_3
                          try clear hcz25_4
                          try clear hcz25_5
                          try clear hcz8_0
                          try clear hcz8_1
                          try clear hcz8_2
                          try clear hcz8_3
                          try clear hcz8_4
                          try clear hcz8_5
                          try clear hfz17_0
                          try clear hfz17_1
                          try clear hfz17_2
                          try clear hfz17_3
                          try clear hfz17_4
                          try clear hfz17_5
                          try clear hfz25_0
                          try clear hfz25_1
                          try clear hfz25_2
                          try clear hfz25_3
                          try clear hfz25_4
                          try clear hfz25_5
                          try clear hfz8_0
                          try clear hfz8_1
                          try clear hfz8_2
                          try clear hfz8_3
                          try clear hfz8_4
                          try clear hfz8_5
                          try clear hx171_0
                          try clear hx176_0
                          try clear hx177_0
                          try clear hx178_0
                          try clear hx179_0
                          try clear p1
                          try clear p17
                          try clear p171
                          try clear p176
                          try clear p177
                          try clear p178
                          try clear p179
                          try clear p2
                          try clear q1
                          try clear q17
                          try clear q171
                          try clear q176
                          try clear q177
                          try clear q178
                          try clear q179
                          obtain ⟨kq, x62_17, rfl, HA, HJ17, HO_3, HO_4, BK172, HB⟩ := hcut
                          cases kq with
                          | zero => exact absurd HA.out (by simp [colophonref29_Knots.j4])
                          | succ kj17 =>
                            have H := HA.out
                            clear HA
                            simp only [colophonref29_Knots.j4] at H
                            have HC26 := Aside0.mk H
                            clear H
                            go_upto_if 62 with (fail)
                            repeat (go_quiet (fail); go_upto_if 62 with (fail))
                            go_cut [] (fun wc => ∃ (kq : Nat) (x173002_25 : Int), Aside0 (colophonref29_Knots.j5 kq t168 x4_1 x5_1 x7_2 (rd t168 x5_1) x173001_14 x173002_25 x173003_2 x173004_2 x173005_2 = some r) ∧ Aside0 (kq ≤ kj17) ∧ Aside0 (Kd.R (Kd.int .i64) 3 wc w.heap.size (fun _ => True) (.slice (some ad171) t168.length co6) t168) ∧ Aside0 (Kd.R k27 27 wc w.heap.size (fun k_ => k_ ≠ gb172) u4 x4_1) ∧ Aside0 (wc.heap[gb172]? = some (.cells #[.int .i64 (rd t168 x5_1), .int .i64 x173001_14, .int .i64 x173002_25, .int .i64 x173003_2, .int .i64 x173004_2, .int .i64 x173005_2] 27 (0, 0))) ∧ Aside0 (Below w.heap.size w wc))
                            case first =>
                              have H := HC26.out
                              clear HC26
                              by_cases c27 : x62_17 = true
                              · subst c27
                                have H1 : (colophonref29_Knots.j5 kj17 t168 x4_1 x5_1 x7_2 (rd t168 x5_1) x173001_14 x7_2 x173003_2 x173004_2 x173005_2) = some r := by rw [if_pos rfl] at H; exact H
                                clear H
                                have H := H1
                                clear H1
                                have H' := Aside0.mk H
                                clear H
                                have hcz28_0 : wc.cell? ⟨gb172, 0, none⟩ = some (.int .i64 (rd t168 x5_1)) := (blk_cell BK172.out 0).trans rfl
                                have hcz28_1 : wc.cell? ⟨gb172, 1, none⟩ = some (.int .i64 x173001_14) := (blk_cell BK172.out 1).trans rfl
                                have hcz28_2 : wc.cell? ⟨gb172, 2, none⟩ = some (.int .i64 x173002_2) := (blk_cell BK172.out 2).trans rfl
                                have hcz28_3 : wc.cell? ⟨gb172, 3, none⟩ = some (.int .i64 x173003_2) := (blk_cell BK172.out 3).trans rfl
                                have hcz28_4 : wc.cell? ⟨gb172, 4, none⟩ = some (.int .i64 x173004_2) := (blk_cell BK172.out 4).trans rfl
                                have hcz28_5 : wc.cell? ⟨gb172, 5, none⟩ = some (.int .i64 x173005_2) := (blk_cell BK172.out 5).trans rfl
                                have hfz28_0 := blk_frozen BK172.out 0
                                have hfz28_1 := blk_frozen BK172.out 1
                                have hfz28_2 := blk_frozen BK172.out 2
                                have hfz28_3 := blk_frozen BK172.out 3
                                have hfz28_4 := blk_frozen BK172.out 4
                                have hfz28_5 := blk_frozen BK172.out 5
                                go_wp2
                                repeat (go_quiet (fail); try go_wp2)
                                go_meet
                                case rel => exact ⟨_, (x7_2), H', ⟨by have := HK1.out; have := HK2.out; have := HJ9.out; have := HJ14.out; have := HJ17.out; first | omega | exact Nat.le_refl _⟩, ⟨by (with_reducible repeat (first | apply Kd.R_alloc | apply Kd.R_drewN | apply Kd.R_drew)); exact Kd.R_mono (Kd.R_far (p := ⟨gb172, 2, none⟩) (Kd.R_types HO_3.out BK172.out (by decide)) (fun _ hk => hk.2) (.int .i64 x7_2)) (fun _ hk => trivial)⟩, ⟨by (with_reducible repeat (first | apply Kd.R_alloc | apply Kd.R_drewN | apply Kd.R_drew)); exact Kd.R_mono (Kd.R_far (p := ⟨gb172, 2, none⟩) (Kd.R_mono HO_4.out (fun k_ hk => (⟨hk, hk⟩ : _ ∧ k_ ≠ gb172))) (fun _ hk => hk.2) (.int .i64 x7_2)) (fun _ hk => hk.1)⟩, ⟨by (with_reducible repeat (first | refine blk_drewN ?_ _ | refine blk_drew ?_ | refine blk_alloc ?_ _)); refine blk_put (cs := #[.int .i64 (rd t168 x5_1), .int .i64 x173001_14, .int .i64 x173002_2, .int .i64 x173003_2, .int .i64 x173004_2, .int .i64 x173005_2]) ?_ 2 _ rfl; (with_reducible repeat (first | refine blk_drewN ?_ _ | refine blk_drew ?_ | refine blk_alloc ?_ _)); exact BK172.out⟩, ⟨by repeat (first | (with_reducible first | exact HB.out | apply below_alloc | apply pw_below_drewN | apply below_drew1 | refine below_set ?_ GE172.out) | exact HB.out)⟩⟩
                              · replace c27 := Bool.eq_false_iff.mpr c27
                                subst c27
                                have H1 : (colophonref29_Knots.j5 kj17 t168 x4_1 x5_1 x7_2 (rd t168 x5_1) x173001_14 x173002_2 x173003_2 x173004_2 x173005_2) = some r := by rw [if_neg (show ¬ (false = true) by decide)] at H; exact H
                                clear H
                                have H := H1
                                clear H1
                                have H' := Aside0.mk H
                                clear H
                                go_wp2
                                repeat (go_quiet (fail); try go_wp2)
                                go_meet
                                case rel => exact ⟨_, (x173002_2), H', ⟨by have := HK1.out; have := HK2.out; have := HJ9.out; have := HJ14.out; have := HJ17.out; first | omega | exact Nat.le_refl _⟩, ⟨by (with_reducible repeat (first | apply Kd.R_alloc | apply Kd.R_drewN | apply Kd.R_drew)); exact HO_3.out⟩, ⟨by (with_reducible repeat (first | apply Kd.R_alloc | apply Kd.R_drewN | apply Kd.R_drew)); exact HO_4.out⟩, ⟨by (with_reducible repeat (first | refine blk_drewN ?_ _ | refine blk_drew ?_ | refine blk_alloc ?_ _)); exact BK172.out⟩, ⟨by repeat (first | (with_reducible first | exact HB.out | apply below_alloc | apply pw_below_drewN | apply below_drew1 | refine below_set ?_ GE172.out) | exact HB.out)⟩⟩
                            case rest =>
                              clear HC26
                              try clear c1
                              try clear p1
                              try clear q1
                              try clear hx1
                              try clear c2
                              try clear p2
                              try clear c4
                              try clear c4b0
                              try clear c5
                              try clear c5b0
                              try clear c9
                              try clear c9b0
                              try clear c10
                              try clear c11
                              try clear c11b0
                              try clear c12
                              try clear c12b0
                              try clear c13
                              try clear c13b0
                              try clear c14
                              try clear c14b0
                              try clear c14b1
                              try clear c16
                              try clear p17
                              try clear q17
                              try clear hx17
                              try clear c19
                              try clear c19b0
                              try clear c20
                              try clear c20b0
                              try clear c21
                              try clear c21b0
                              try clear c22
                              try clear c22b0
                              try clear c23
                              try clear c23b0
                              try clear c23b1
                              try clear c24
                              try clear c24b0
                              try clear c27
                              try clear hcz17_0
                              try clear hcz17_1
                              try clear hcz17_2
                              try clear hcz17_3
                              try clear hcz17_4
                              try clear hcz17_5
                              try clear hcz25_0
                              try clear hcz25_1
                              try clear hcz25_2
                              try clear hcz25_3
                              try clear hcz25_4
                              try clear hcz25_5
                              try clear hcz28_0
                              try clear hcz28_1
                              try clear hcz28_2
                              try clear hcz28_3
                              try clear hcz28_4
                              try clear hcz28_5
                              try clear hcz8_0
                              try clear hcz8_1
                              try clear hcz8_2
                              try clear hcz8_3
                              try clear hcz8_4
                              try clear hcz8_5
                              try clear hfz17_0
                              try clear hfz17_1
                              try clear hfz17_2
                              try clear hfz17_3
                              try clear hfz17_4
                              try clear hfz17_5
                              try clear hfz25_0
                              try clear hfz25_1
                              try clear hfz25_2
                              try clear hfz25_3
                              try clear hfz25_4
                              try clear hfz25_5
                              try clear hfz28_0
                              try clear hfz28_1
                              try clear hfz28_2
                              try clear hfz28_3
                              try clear hfz28_4
                              try clear hfz28_5
                              try clear hfz8_0
                              try clear hfz8_1
                              try clear hfz8_2
                              try clear hfz8_3
                              try clear hfz8_4
                              try clear hfz8_5
                              try clear hx171_0
                              try clear hx176_0
                              try clear hx177_0
                              try clear hx178_0
                              try clear hx179_0
                              try clear p1
                              try clear p17
                              try clear p171
                              try clear p176
                              try clear p177
                              try clear p178
                              try clear p179
                              try clear p2
                              try clear q1
                              try clear q17
                              try clear q171
                              try clear q176
                              try clear q177
                              try clear q178
                              try clear q179
                              obtain ⟨kq, x173002_25, HA, HJ25, HO_3, HO_4, BK172, HB⟩ := hcut
                              cases kq with
                              | zero => exact absurd HA.out (by simp [colophonref29_Knots.j5])
                              | succ kj25 =>
                                have H := HA.out
                                clear HA
                                simp only [colophonref29_Knots.j5] at H
                                by_cases c29 : 0 ≤ x7_2
                                · rw [if_pos c29] at H
                                  have c29b0 : decide (0 ≤ x7_2) = true := decide_eq_true c29
                                  clear c29
                                  by_cases c30 : x7_2 < (t168.length : Int)
                                  · rw [if_pos c30] at H
                                    have c30b0 : decide (x7_2 < (t168.length : Int)) = true := decide_eq_true c30
                                    clear c30
                                    have HC31 := Aside0.mk H
                                    clear H
                                    have p180 : 0 ≤ (x7_2 : Int) := of_decide_eq_true (by first | (with_reducible assumption) | assumption)
                                    have q180 : x7_2 < (t168.length : Int) := of_decide_eq_true (by first | (with_reducible assumption) | assumption)
                                    obtain ⟨ad180, e180, hx180_0⟩ := Kd.at_int (Kd.R_reads' HO_3.out).2.2 x7_2 p180 q180
                                    obtain rfl : ad171 = ad180 := (by injection e180)
                                    replace p180 := eq_true p180
                                    replace q180 := eq_true q180
                                    go_upto_if 70 with (fail)
                                    repeat (go_quiet (fail); go_upto_if 70 with (fail))
                                    go_cut [] (fun wc => ∃ (kq : Nat) (x173003_30 : Int) (x173004_30 : Int), Aside0 (colophonref29_Knots.j6 kq t168 x4_1 x5_1 x7_2 (rd t168 x5_1) x173001_14 x173002_25 x173003_30 x173004_30 x173005_2 = some r) ∧ Aside0 (kq ≤ kj25) ∧ Aside0 (Kd.R (Kd.int .i64) 3 wc w.heap.size (fun _ => True) (.slice (some ad171) t168.length co6) t168) ∧ Aside0 (Kd.R k27 27 wc w.heap.size (fun k_ => k_ ≠ gb172) u4 x4_1) ∧ Aside0 (wc.heap[gb172]? = some (.cells #[.int .i64 (rd t168 x5_1), .int .i64 x173001_14, .int .i64 x173002_25, .int .i64 x173003_30, .int .i64 x173004_30, .int .i64 x173005_2] 27 (0, 0))) ∧ Aside0 (Below w.heap.size w wc))
                                    case first =>
                                      have H := HC31.out
                                      clear HC31
                                      by_cases c32 : (rd t168 x7_2) = x5_1
                                      · rw [if_pos c32] at H
                                        have c32b0 : ((rd t168 x7_2) == x5_1) = true := beq_iff_eq.mpr c32
                                        have c32b1 : ((rd t168 x7_2) != x5_1) = false := bne_eq_false_iff_eq.mpr c32
                                        clear c32
                                        (first | rw [c32b0] | (simp only [i64_w, i32_w]; rw [c32b0]) | skip)
                                        by_cases c33 : x173003_2 < 0
                                        · rw [if_pos c33] at H
                                          have c33b0 : decide (x173003_2 < 0) = true := decide_eq_true c33
                                          clear c33
                                          have H' := Aside0.mk H
                                          clear H
                                          have hcz34_0 : wc.cell? ⟨gb172, 0, none⟩ = some (.int .i64 (rd t168 x5_1)) := (blk_cell BK172.out 0).trans rfl
                                          have hcz34_1 : wc.cell? ⟨gb172, 1, none⟩ = some (.int .i64 x173001_14) := (blk_cell BK172.out 1).trans rfl
                                          have hcz34_2 : wc.cell? ⟨gb172, 2, none⟩ = some (.int .i64 x173002_25) := (blk_cell BK172.out 2).trans rfl
                                          have hcz34_3 : wc.cell? ⟨gb172, 3, none⟩ = some (.int .i64 x173003_2) := (blk_cell BK172.out 3).trans rfl
                                          have hcz34_4 : wc.cell? ⟨gb172, 4, none⟩ = some (.int .i64 x173004_2) := (blk_cell BK172.out 4).trans rfl
                                          have hcz34_5 : wc.cell? ⟨gb172, 5, none⟩ = some (.int .i64 x173005_2) := (blk_cell BK172.out 5).trans rfl
                                          have hfz34_0 := blk_frozen BK172.out 0
                                          have hfz34_1 := blk_frozen BK172.out 1
                                          have hfz34_2 := blk_frozen BK172.out 2
                                          have hfz34_3 := blk_frozen BK172.out 3
                                          have hfz34_4 := blk_frozen BK172.out 4
                                          have hfz34_5 := blk_frozen BK172.out 5
                                          go_wp2
                                          repeat (go_quiet (fail); try go_wp2)
                                          go_meet
                                          case rel => exact ⟨_, (x7_2), (x7_2), H', ⟨by have := HK1.out; have := HK2.out; have := HJ9.out; have := HJ14.out; have := HJ17.out; have := HJ25.out; first | omega | exact Nat.le_refl _⟩, ⟨by (with_reducible repeat (first | apply Kd.R_alloc | apply Kd.R_drewN | apply Kd.R_drew)); exact Kd.R_mono (Kd.R_far (p := ⟨gb172, 4, none⟩) (Kd.R_far (p := ⟨gb172, 3, none⟩) (Kd.R_types HO_3.out BK172.out (by decide)) (fun _ hk => hk.2) (.int .i64 x7_2)) (fun _ hk => hk.2) (.int .i64 x7_2)) (fun _ hk => trivial)⟩, ⟨by (with_reducible repeat (first | apply Kd.R_alloc | apply Kd.R_drewN | apply Kd.R_drew)); exact Kd.R_mono (Kd.R_far (p := ⟨gb172, 4, none⟩) (Kd.R_far (p := ⟨gb172, 3, none⟩) (Kd.R_mono HO_4.out (fun k_ hk => (⟨hk, hk⟩ : _ ∧ k_ ≠ gb172))) (fun _ hk => hk.2) (.int .i64 x7_2)) (fun _ hk => hk.2) (.int .i64 x7_2)) (fun _ hk => hk.1)⟩, ⟨by (with_reducible repeat (first | refine blk_drewN ?_ _ | refine blk_drew ?_ | refine blk_alloc ?_ _)); refine blk_put (cs := #[.int .i64 (rd t168 x5_1), .int .i64 x173001_14, .int .i64 x173002_25, .int .i64 x7_2, .int .i64 x173004_2, .int .i64 x173005_2]) ?_ 4 _ rfl; (with_reducible repeat (first | refine blk_drewN ?_ _ | refine blk_drew ?_ | refine blk_alloc ?_ _)); refine blk_put (cs := #[.int .i64 (rd t168 x5_1), .int .i64 x173001_14, .int .i64 x173002_25, .int .i64 x173003_2, .int .i64 x173004_2, .int .i64 x173005_2]) ?_ 3 _ rfl; (with_reducible repeat (first | refine blk_drewN ?_ _ | refine blk_drew ?_ | refine blk_alloc ?_ _)); exact BK172.out⟩, ⟨by repeat (first | (with_reducible first | exact HB.out | apply below_alloc | apply pw_below_drewN | apply below_drew1 | refine below_set ?_ GE172.out) | exact HB.out)⟩⟩
                                        · rw [if_neg c33] at H
                                          have c33b0 : decide (x173003_2 < 0) = false := decide_eq_false c33
                                          clear c33
                                          have H' := Aside0.mk H
                                          clear H
                                          have hcz35_0 : wc.cell? ⟨gb172, 0, none⟩ = some (.int .i64 (rd t168 x5_1)) := (blk_cell BK172.out 0).trans rfl
                                          have hcz35_1 : wc.cell? ⟨gb172, 1, none⟩ = some (.int .i64 x173001_14) := (blk_cell BK172.out 1).trans rfl
                                          have hcz35_2 : wc.cell? ⟨gb172, 2, none⟩ = some (.int .i64 x173002_25) := (blk_cell BK172.out 2).trans rfl
                                          have hcz35_3 : wc.cell? ⟨gb172, 3, none⟩ = some (.int .i64 x173003_2) := (blk_cell BK172.out 3).trans rfl
                                          have hcz35_4 : wc.cell? ⟨gb172, 4, none⟩ = some (.int .i64 x173004_2) := (blk_cell BK172.out 4).trans rfl
                                          have hcz35_5 : wc.cell? ⟨gb172, 5, none⟩ = some (.int .i64 x173005_2) := (blk_cell BK172.out 5).trans rfl
                                          have hfz35_0 := blk_frozen BK172.out 0
                                          have hfz35_1 := blk_frozen BK172.out 1
                                          have hfz35_2 := blk_frozen BK172.out 2
                                          have hfz35_3 := blk_frozen BK172.out 3
                                          have hfz35_4 := blk_frozen BK172.out 4
                                          have hfz35_5 := blk_frozen BK172.out 5
                                          go_wp2
                                          repeat (go_quiet (fail); try go_wp2)
                                          go_meet
                                          case rel => exact ⟨_, (x173003_2), (x7_2), H', ⟨by have := HK1.out; have := HK2.out; have := HJ9.out; have := HJ14.out; have := HJ17.out; have := HJ25.out; first | omega | exact Nat.le_refl _⟩, ⟨by (with_reducible repeat (first | apply Kd.R_alloc | apply Kd.R_drewN | apply Kd.R_drew)); exact Kd.R_mono (Kd.R_far (p := ⟨gb172, 4, none⟩) (Kd.R_types HO_3.out BK172.out (by decide)) (fun _ hk => hk.2) (.int .i64 x7_2)) (fun _ hk => trivial)⟩, ⟨by (with_reducible repeat (first | apply Kd.R_alloc | apply Kd.R_drewN | apply Kd.R_drew)); exact Kd.R_mono (Kd.R_far (p := ⟨gb172, 4, none⟩) (Kd.R_mono HO_4.out (fun k_ hk => (⟨hk, hk⟩ : _ ∧ k_ ≠ gb172))) (fun _ hk => hk.2) (.int .i64 x7_2)) (fun _ hk => hk.1)⟩, ⟨by (with_reducible repeat (first | refine blk_drewN ?_ _ | refine blk_drew ?_ | refine blk_alloc ?_ _)); refine blk_put (cs := #[.int .i64 (rd t168 x5_1), .int .i64 x173001_14, .int .i64 x173002_25, .int .i64 x173003_2, .int .i64 x173004_2, .int .i64 x173005_2]) ?_ 4 _ rfl; (with_reducible repeat (first | refine blk_drewN ?_ _ | refine blk_drew ?_ | refine blk_alloc ?_ _)); exact BK172.out⟩, ⟨by repeat (first | (with_reducible first | exact HB.out | apply below_alloc | apply pw_below_drewN | apply below_drew1 | refine below_set ?_ GE172.out) | exact HB.out)⟩⟩
                                      · rw [if_neg c32] at H
                                        have c32b0 : ((rd t168 x7_2) == x5_1) = false := beq_eq_false_iff_ne.mpr c32
                                        have c32b1 : ((rd t168 x7_2) != x5_1) = true := bne_iff_ne.mpr c32
                                        (first | rw [c32b0] | (simp only [i64_w, i32_w]; rw [c32b0]) | skip)
                                        have H' := Aside0.mk H
                                        clear H
                                        go_wp2
                                        repeat (go_quiet (fail); try go_wp2)
                                        go_meet
                                        case rel => exact ⟨_, (x173003_2), (x173004_2), H', ⟨by have := HK1.out; have := HK2.out; have := HJ9.out; have := HJ14.out; have := HJ17.out; have := HJ25.out; first | omega | exact Nat.le_refl _⟩, ⟨by (with_reducible repeat (first | apply Kd.R_alloc | apply Kd.R_drewN | apply Kd.R_drew)); exact HO_3.out⟩, ⟨by (with_reducible repeat (first | apply Kd.R_alloc | apply Kd.R_drewN | apply Kd.R_drew)); exact HO_4.out⟩, ⟨by (with_reducible repeat (first | refine blk_drewN ?_ _ | refine blk_drew ?_ | refine blk_alloc ?_ _)); exact BK172.out⟩, ⟨by repeat (first | (with_reducible first | exact HB.out | apply below_alloc | apply pw_below_drewN | apply below_drew1 | refine below_set ?_ GE172.out) | exact HB.out)⟩⟩
                                    case rest =>
                                      clear HC31
                                      try clear c1
                                      try clear p1
                                      try clear q1
                                      try clear hx1
                                      try clear c2
                                      try clear p2
                                      try clear c3
                                      try clear c4
                                      try clear c4b0
                                      try clear c5
                                      try clear c5b0
                                      try clear c9
                                      try clear c9b0
                                      try clear c10
                                      try clear c11
                                      try clear c11b0
                                      try clear c12
                                      try clear c12b0
                                      try clear c13
                                      try clear c13b0
                                      try clear c14
                                      try clear c14b0
                                      try clear c14b1
                                      try clear c16
                                      try clear p17
                                      try clear q17
                                      try clear hx17
                                      try clear p18
                                      try clear q18
                                      try clear hx18
                                      try clear c19
                                      try clear c19b0
                                      try clear c20
                                      try clear c20b0
                                      try clear c21
                                      try clear c21b0
                                      try clear c22
                                      try clear c22b0
                                      try clear c23
                                      try clear c23b0
                                      try clear c23b1
                                      try clear c24
                                      try clear c24b0
                                      try clear c27
                                      try clear c29
                                      try clear c29b0
                                      try clear c30
                                      try clear c30b0
                                      try clear c32
                                      try clear c32b0
                                      try clear c32b1
                                      try clear c33
                                      try clear c33b0
                                      try clear hcz17_0
                                      try clear hcz17_1
                                      try clear hcz17_2
                                      try clear hcz17_3
                                      try clear hcz17_4
                                      try clear hcz17_5
                                      try clear hcz25_0
                                      try clear hcz25_1
                                      try clear hcz25_2
                                      try clear hcz25_3
                                      try clear hcz25_4
                                      try clear hcz25_5
                                      try clear hcz28_0
                                      try clear hcz28_1
                                      try clear hcz28_2
                                      try clear hcz28_3
                                      try clear hcz28_4
                                      try clear hcz28_5
                                      try clear hcz34_0
                                      try clear hcz34_1
                                      try clear hcz34_2
                                      try clear hcz34_3
                                      try clear hcz34_4
                                      try clear hcz34_5
                                      try clear hcz35_0
                                      try clear hcz35_1
                                      try clear hcz35_2
                                      try clear hcz35_3
                                      try clear hcz35_4
                                      try clear hcz35_5
                                      try clear hcz8_0
                                      try clear hcz8_1
                                      try clear hcz8_2
                                      try clear hcz8_3
                                      try clear hcz8_4
                                      try clear hcz8_5
                                      try clear hfz17_0
                                      try clear hfz17_1
                                      try clear hfz17_2
                                      try clear hfz17_3
                                      try clear hfz17_4
                                      try clear hfz17_5
                                      try clear hfz25_0
                                      try clear hfz25_1
                                      try clear hfz25_2
                                      try clear hfz25_3
                                      try clear hfz25_4
                                      try clear hfz25_5
                                      try clear hfz28_0
                                      try clear hfz28_1
                                      try clear hfz28_2
                                      try clear hfz28_3
                                      try clear hfz28_4
                                      try clear hfz28_5
                                      try clear hfz34_0
                                      try clear hfz34_1
                                      try clear hfz34_2
                                      try clear hfz34_3
                                      try clear hfz34_4
                                      try clear hfz34_5
                                      try clear hfz35_0
                                      try clear hfz35_1
                                      try clear hfz35_2
                                      try clear hfz35_3
                                      try clear hfz35_4
                                      try clear hfz35_5
                                      try clear hfz8_0
                                      try clear hfz8_1
                                      try clear hfz8_2
                                      try clear hfz8_3
                                      try clear hfz8_4
                                      try clear hfz8_5
                                      try clear hx171_0
                                      try clear hx176_0
                                      try clear hx177_0
                                      try clear hx178_0
                                      try clear hx179_0
                                      try clear hx180_0
                                      try clear p1
                                      try clear p17
                                      try clear p171
                                      try clear p176
                                      try clear p177
                                      try clear p178
                                      try clear p179
                                      try clear p180
                                      try clear p2
                                      try clear q1
                                      try clear q17
                                      try clear q171
                                      try clear q176
                                      try clear q177
                                      try clear q178
                                      try clear q179
                                      try clear q180
                                      obtain ⟨kq, x173003_30, x173004_30, HA, HJ30, HO_3, HO_4, BK172, HB⟩ := hcut
                                      cases kq with
                                      | zero => exact absurd HA.out (by simp [colophonref29_Knots.j6])
                                      | succ kj30 =>
                                        have H := HA.out
                                        clear HA
                                        simp only [colophonref29_Knots.j6] at H
                                        by_cases c36 : 0 ≤ x7_2
                                        · rw [if_pos c36] at H
                                          have c36b0 : decide (0 ≤ x7_2) = true := decide_eq_true c36
                                          clear c36
                                          by_cases c37 : x7_2 < (t168.length : Int)
                                          · rw [if_pos c37] at H
                                            have c37b0 : decide (x7_2 < (t168.length : Int)) = true := decide_eq_true c37
                                            clear c37
                                            have H' := Aside0.mk H
                                            clear H
                                            have p181 : 0 ≤ (x7_2 : Int) := of_decide_eq_true (by first | (with_reducible assumption) | assumption)
                                            have q181 : x7_2 < (t168.length : Int) := of_decide_eq_true (by first | (with_reducible assumption) | assumption)
                                            obtain ⟨ad181, e181, hx181_0⟩ := Kd.at_int (Kd.R_reads' HO_3.out).2.2 x7_2 p181 q181
                                            obtain rfl : ad171 = ad181 := (by injection e181)
                                            replace p181 := eq_true p181
                                            replace q181 := eq_true q181
                                            go_wp2
                                            repeat (go_quiet (fail); try go_wp2)
                                            go_loopg [8] kj30 (fun kq v8 w' => ∃ (x8_8 : Int) (x173005_8 : Int), v8 = .int .i64 x8_8 ∧ Aside0 (colophonref29_Knots.l2 kq t168 x4_1 x5_1 x7_2 x8_8 (rd t168 x5_1) x173001_14 x173002_25 x173003_30 x173004_30 x173005_8 = some r) ∧ Aside0 (kq ≤ kj30) ∧ Aside0 (Kd.R (Kd.int .i64) 3 w' w.heap.size (fun _ => True) (.slice (some ad171) t168.length co6) t168) ∧ Aside0 (Kd.R k27 27 w' w.heap.size (fun k_ => k_ ≠ gb172) u4 x4_1) ∧ Aside0 (w'.heap[gb172]? = some (.cells #[.int .i64 (rd t168 x5_1), .int .i64 x173001_14, .int .i64 x173002_25, .int .i64 x173003_30, .int .i64 x173004_30, .int .i64 x173005_8] 27 (0, 0))) ∧ Aside0 (Below w.heap.size w w'))
                                            case atStart => exact ⟨(rd t168 x7_2), (x173005_2), (by first | rfl | (simp; done) | (simp [*]; done)), H', ⟨Nat.le_refl _⟩, ⟨by (with_reducible repeat (first | apply Kd.R_alloc | apply Kd.R_drewN | apply Kd.R_drew)); exact HO_3.out⟩, ⟨by (with_reducible repeat (first | apply Kd.R_alloc | apply Kd.R_drewN | apply Kd.R_drew)); exact HO_4.out⟩, ⟨by (with_reducible repeat (first | refine blk_drewN ?_ _ | refine blk_drew ?_ | refine blk_alloc ?_ _)); exact BK172.out⟩, ⟨by repeat (first | (with_reducible first | exact HB.out | apply below_alloc | apply pw_below_drewN | apply below_drew1 | refine below_set ?_ GE172.out) | exact HB.out)⟩⟩
                                            case round =>
                                              clear H'
                                              try clear c1
                                              try clear p1
                                              try clear q1
                                              try clear hx1
                                              try clear c2
                                              try clear p2
                                              try clear c3
                                              try clear c4
                                              try clear c4b0
                                              try clear c5
                                              try clear c5b0
                                              try clear c9
                                              try clear c9b0
                                              try clear c10
                                              try clear c11
                                              try clear c11b0
                                              try clear c12
                                              try clear c12b0
                                              try clear c13
                                              try clear c13b0
                                              try clear c14
                                              try clear c14b0
                                              try clear c14b1
                                              try clear c16
                                              try clear p17
                                              try clear q17
                                              try clear hx17
                                              try clear p18
                                              try clear q18
                                              try clear hx18
                                              try clear c19
                                              try clear c19b0
                                              try clear c20
                                              try clear c20b0
                                              try clear c21
                                              try clear c21b0
                                              try clear c22
                                              try clear c22b0
                                              try clear c23
                                              try clear c23b0
                                              try clear c23b1
                                              try clear c24
                                              try clear c24b0
                                              try clear c27
                                              try clear c29
                                              try clear c29b0
                                              try clear c30
                                              try clear c30b0
                                              try clear c32
                                              try clear c32b0
                                              try clear c32b1
                                              try clear c33
                                              try clear c33b0
                                              try clear c36
                                              try clear c36b0
                                              try clear c37
                                              try clear c37b0
                                              try clear hcz17_0
                                              try clear hcz17_1
                                              try clear hcz17_2
                                              try clear hcz17_3
                                              try clear hcz17_4
                                              try clear hcz17_5
                                              try clear hcz25_0
                                              try clear hcz25_1
                                              try clear hcz25_2
                                              try clear hcz25_3
                                              try clear hcz25_4
                                              try clear hcz25_5
                                              try clear hcz28_0
                                              try clear hcz28_1
                                              try clear hcz28_2
                                              try clear hcz28_3
                                              try clear hcz28_4
                                              try clear hcz28_5
                                              try clear hcz34_0
                                              try clear hcz34_1
                                              try clear hcz34_2
                                              try clear hcz34_3
                                              try clear hcz34_4
                                              try clear hcz34_5
                                              try clear hcz35_0
                                              try clear hcz35_1
                                              try clear hcz35_2
                                              try clear hcz35_3
                                              try clear hcz35_4
                                              try clear hcz35_5
                                              try clear hcz8_0
                                              try clear hcz8_1
                                              try clear hcz8_2
                                              try clear hcz8_3
                                              try clear hcz8_4
                                              try clear hcz8_5
                                              try clear hfz17_0
                                              try clear hfz17_1
                                              try clear hfz17_2
                                              try clear hfz17_3
                                              try clear hfz17_4
                                              try clear hfz17_5
                                              try clear hfz25_0
                                              try clear hfz25_1
                                              try clear hfz25_2
                                              try clear hfz25_3
                                              try clear hfz25_4
                                              try clear hfz25_5
                                              try clear hfz28_0
                                              try clear hfz28_1
                                              try clear hfz28_2
                                              try clear hfz28_3
                                              try clear hfz28_4
                                              try clear hfz28_5
                                              try clear hfz34_0
                                              try clear hfz34_1
                                              try clear hfz34_2
                                              try clear hfz34_3
                                              try clear hfz34_4
                                              try clear hfz34_5
                                              try clear hfz35_0
                                              try clear hfz35_1
                                              try clear hfz35_2
                                              try clear hfz35_3
                                              try clear hfz35_4
                                              try clear hfz35_5
                                              try clear hfz8_0
                                              try clear hfz8_1
                                              try clear hfz8_2
                                              try clear hfz8_3
                                              try clear hfz8_4
                                              try clear hfz8_5
                                              try clear hx171_0
                                              try clear hx176_0
                                              try clear hx177_0
                                              try clear hx178_0
                                              try clear hx179_0
                                              try clear hx180_0
                                              try clear hx181_0
                                              try clear p1
                                              try clear p17
                                              try clear p171
                                              try clear p176
                                              try clear p177
                                              try clear p178
                                              try clear p179
                                              try clear p18
                                              try clear p180
                                              try clear p181
                                              try clear p2
                                              try clear q1
                                              try clear q17
                                              try clear q171
                                              try clear q176
                                              try clear q177
                                              try clear q178
                                              try clear q179
                                              try clear q18
                                              try clear q180
                                              try clear q181
                                              obtain ⟨x8_8, x173005_8, rfl, HA, HK8, HO_3, HO_4, BK172, HB⟩ := hrel
                                              cases gk with
                                              | zero => exact absurd HA.out (by simp [colophonref29_Knots.l2])
                                              | succ k8 =>
                                                have H := HA.out
                                                clear HA
                                                simp only [colophonref29_Knots.l2] at H
                                                by_cases c38 : x8_8 ≥ 0
                                                · rw [if_pos c38] at H
                                                  have c38b0 : decide (0 ≤ x8_8) = true := decide_eq_true c38
                                                  clear c38
                                                  by_cases c39 : x8_8 = x5_1
                                                  · rw [if_pos c39] at H
                                                    have c39b0 : (x8_8 == x5_1) = true := beq_iff_eq.mpr c39
                                                    have c39b1 : (x8_8 != x5_1) = false := bne_eq_false_iff_eq.mpr c39
                                                    clear c39
                                                    by_cases c40 : 0 ≤ x8_8
                                                    · rw [if_pos c40] at H
                                                      have c40b0 : decide (0 ≤ x8_8) = true := decide_eq_true c40
                                                      clear c40
                                                      by_cases c41 : x8_8 < (t168.length : Int)
                                                      · rw [if_pos c41] at H
                                                        have c41b0 : decide (x8_8 < (t168.length : Int)) = true := decide_eq_true c41
                                                        clear c41
                                                        have H' := Aside0.mk H
                                                        clear H
                                                        have hcz42_0 : wr.cell? ⟨gb172, 0, none⟩ = some (.int .i64 (rd t168 x5_1)) := (blk_cell BK172.out 0).trans rfl
                                                        have hcz42_1 : wr.cell? ⟨gb172, 1, none⟩ = some (.int .i64 x173001_14) := (blk_cell BK172.out 1).trans rfl
                                                        have hcz42_2 : wr.cell? ⟨gb172, 2, none⟩ = some (.int .i64 x173002_25) := (blk_cell BK172.out 2).trans rfl
                                                        have hcz42_3 : wr.cell? ⟨gb172, 3, none⟩ = some (.int .i64 x173003_30) := (blk_cell BK172.out 3).trans rfl
                                                        have hcz42_4 : wr.cell? ⟨gb172, 4, none⟩ = some (.int .i64 x173004_30) := (blk_cell BK172.out 4).trans rfl
                                                        have hcz42_5 : wr.cell? ⟨gb172, 5, none⟩ = some (.int .i64 x173005_8) := (blk_cell BK172.out 5).trans rfl
                                                        have hfz42_0 := blk_frozen BK172.out 0
                                                        have hfz42_1 := blk_frozen BK172.out 1
                                                        have hfz42_2 := blk_frozen BK172.out 2
                                                        have hfz42_3 := blk_frozen BK172.out 3
                                                        have hfz42_4 := blk_frozen BK172.out 4
                                                        have hfz42_5 := blk_frozen BK172.out 5
                                                        have p182 : 0 ≤ (x8_8 : Int) := of_decide_eq_true (by first | (with_reducible assumption) | assumption)
                                                        have q182 : x8_8 < (t168.length : Int) := of_decide_eq_true (by first | (with_reducible assumption) | assumption)
                                                        obtain ⟨ad182, e182, hx182_0⟩ := Kd.at_int (Kd.R_reads' HO_3.out).2.2 x8_8 p182 q182
                                                        obtain rfl : ad171 = ad182 := (by injection e182)
                                                        have hn182_0 : ad171.block ≠ gb172 := Kd.own_blk (Kd.R_ne HO_3.out BK172.out (by decide))
                                                        replace hx182_0 := (cell_far (p := ⟨gb172, 5, none⟩) (by first | (rw [add_block]; exact hn182_0) | (show (Addr.add _ _).block ≠ _; rw [add_block]; exact hn182_0) | exact hn182_0) (.int .i64 (wrap64 (x173005_8 + 1)))).trans hx182_0
                                                        (try have hy182_0 := fun (n_ : Nat) => (show (((wr.drewN n_).setCell ⟨gb172, 5, none⟩ (.int .i64 (wrap64 (x173005_8 + 1))))).cell? _ = some _ from hx182_0))
                                                        clear hn182_0
                                                        replace p182 := eq_true p182
                                                        replace q182 := eq_true q182
                                                        go_wp2
                                                        repeat (go_quiet (fail); try go_wp2)
                                                        go_roundg k8
                                                        case measure => have := HK1.out; have := HK2.out; have := HJ9.out; have := HJ14.out; have := HJ17.out; have := HJ25.out; have := HJ30.out; have := HK8.out; omega
                                                        case rel => exact ⟨(rd t168 x8_8), (wrap64 (x173005_8 + 1)), (by first | rfl | (simp; done) | (simp [*]; done)), H', ⟨by have := HK1.out; have := HK2.out; have := HJ9.out; have := HJ14.out; have := HJ17.out; have := HJ25.out; have := HJ30.out; have := HK8.out; omega⟩, ⟨by (with_reducible repeat (first | apply Kd.R_alloc | apply Kd.R_drewN | apply Kd.R_drew)); exact Kd.R_mono (Kd.R_far (p := ⟨gb172, 5, none⟩) (Kd.R_types HO_3.out BK172.out (by decide)) (fun _ hk => hk.2) (.int .i64 (wrap64 (x173005_8 + 1)))) (fun _ hk => trivial)⟩, ⟨by (with_reducible repeat (first | apply Kd.R_alloc | apply Kd.R_drewN | apply Kd.R_drew)); exact Kd.R_mono (Kd.R_far (p := ⟨gb172, 5, none⟩) (Kd.R_mono HO_4.out (fun k_ hk => (⟨hk, hk⟩ : _ ∧ k_ ≠ gb172))) (fun _ hk => hk.2) (.int .i64 (wrap64 (x173005_8 + 1)))) (fun _ hk => hk.1)⟩, ⟨by (with_reducible repeat (first | refine blk_drewN ?_ _ | refine blk_drew ?_ | refine blk_alloc ?_ _)); refine blk_put (cs := #[.int .i64 (rd t168 x5_1), .int .i64 x173001_14, .int .i64 x173002_25, .int .i64 x173003_30, .int .i64 x173004_30, .int .i64 x173005_8]) ?_ 5 _ rfl; (with_reducible repeat (first | refine blk_drewN ?_ _ | refine blk_drew ?_ | refine blk_alloc ?_ _)); exact BK172.out⟩, ⟨by repeat (first | (with_reducible first | exact HB.out | apply below_alloc | apply pw_below_drewN | apply below_drew1 | refine below_set ?_ GE172.out) | exact HB.out)⟩⟩
                                                      · rw [if_neg c41] at H
                                                        exact absurd H (by simp)
                                                    · rw [if_neg c40] at H
                                                      exact absurd H (by simp)
                                                  · rw [if_neg c39] at H
                                                    have c39b0 : (x8_8 == x5_1) = false := beq_eq_false_iff_ne.mpr c39
                                                    have c39b1 : (x8_8 != x5_1) = true := bne_iff_ne.mpr c39
                                                    by_cases c43 : 0 ≤ x8_8
                                                    · rw [if_pos c43] at H
                                                      have c43b0 : decide (0 ≤ x8_8) = true := decide_eq_true c43
                                                      clear c43
                                                      by_cases c44 : x8_8 < (t168.length : Int)
                                                      · rw [if_pos c44] at H
                                                        have c44b0 : decide (x8_8 < (t168.length : Int)) = true := decide_eq_true c44
                                                        clear c44
                                                        have H' := Aside0.mk H
                                                        clear H
                                                        have p183 : 0 ≤ (x8_8 : Int) := of_decide_eq_true (by first | (with_reducible assumption) | assumption)
                                                        have q183 : x8_8 < (t168.length : Int) := of_decide_eq_true (by first | (with_reducible assumption) | assumption)
                                                        obtain ⟨ad183, e183, hx183_0⟩ := Kd.at_int (Kd.R_reads' HO_3.out).2.2 x8_8 p183 q183
                                                        obtain rfl : ad171 = ad183 := (by injection e183)
                                                        replace p183 := eq_true p183
                                                        replace q183 := eq_true q183
                                                        go_wp2
                                                        repeat (go_quiet (fail); try go_wp2)
                                                        go_roundg k8
                                                        case measure => have := HK1.out; have := HK2.out; have := HJ9.out; have := HJ14.out; have := HJ17.out; have := HJ25.out; have := HJ30.out; have := HK8.out; omega
                                                        case rel => exact ⟨(rd t168 x8_8), (x173005_8), (by first | rfl | (simp; done) | (simp [*]; done)), H', ⟨by have := HK1.out; have := HK2.out; have := HJ9.out; have := HJ14.out; have := HJ17.out; have := HJ25.out; have := HJ30.out; have := HK8.out; omega⟩, ⟨by (with_reducible repeat (first | apply Kd.R_alloc | apply Kd.R_drewN | apply Kd.R_drew)); exact HO_3.out⟩, ⟨by (with_reducible repeat (first | apply Kd.R_alloc | apply Kd.R_drewN | apply Kd.R_drew)); exact HO_4.out⟩, ⟨by (with_reducible repeat (first | refine blk_drewN ?_ _ | refine blk_drew ?_ | refine blk_alloc ?_ _)); exact BK172.out⟩, ⟨by repeat (first | (with_reducible first | exact HB.out | apply below_alloc | apply pw_below_drewN | apply below_drew1 | refine below_set ?_ GE172.out) | exact HB.out)⟩⟩
                                                      · rw [if_neg c44] at H
                                                        exact absurd H (by simp)
                                                    · rw [if_neg c43] at H
                                                      exact absurd H (by simp)
                                                · rw [if_neg c38] at H
                                                  have c38b0 : decide (0 ≤ x8_8) = false := decide_eq_false c38
                                                  clear c38
                                                  have H' := Aside0.mk H
                                                  clear H
                                                  go_wp2
                                                  repeat (go_quiet (fail); try go_wp2)
                                                  go_roundg k8
                                                  case measure => have := HK1.out; have := HK2.out; have := HJ9.out; have := HJ14.out; have := HJ17.out; have := HJ25.out; have := HJ30.out; have := HK8.out; omega
                                                  case rel => exact ⟨(wrap64 (x7_2 + 1)), (x173001_14), (x173002_25), (x173003_30), (x173004_30), (x173005_8), (by first | rfl | (simp; done) | (simp [*]; done)), H', ⟨by have := HK1.out; have := HK2.out; have := HJ9.out; have := HJ14.out; have := HJ17.out; have := HJ25.out; have := HJ30.out; have := HK8.out; omega⟩, ⟨by (with_reducible repeat (first | apply Kd.R_alloc | apply Kd.R_drewN | apply Kd.R_drew)); exact HO_3.out⟩, ⟨by (with_reducible repeat (first | apply Kd.R_alloc | apply Kd.R_drewN | apply Kd.R_drew)); exact HO_4.out⟩, ⟨by (with_reducible repeat (first | refine blk_drewN ?_ _ | refine blk_drew ?_ | refine blk_alloc ?_ _)); exact BK172.out⟩, ⟨by repeat (first | (with_reducible first | exact HB.out | apply below_alloc | apply pw_below_drewN | apply below_drew1 | refine below_set ?_ GE172.out) | exact HB.out)⟩⟩
                                          · rw [if_neg c37] at H
                                            exact absurd H (by simp)
                                        · rw [if_neg c36] at H
                                          exact absurd H (by simp)
                                  · rw [if_neg c30] at H
                                    exact absurd H (by simp)
                                · rw [if_neg c29] at H
                                  exact absurd H (by simp)
              · rw [if_neg c9] at H
                have c9b0 : decide (x7_2 < (t168.length : Int)) = false := decide_eq_false c9
                clear c9
                by_cases c45 : x4_1.length < 2932031007402
                · rw [if_pos c45] at H
                  have LMc45 := Aside0.mk c45
                  clear c45
                  obtain ⟨y173, hy173⟩ : ∃ y_ : List (S27), y_ = (x4_1 ++ [(⟨(rd t168 x5_1), x173001_2, x173002_2, x173003_2, x173004_2, x173005_2⟩ : S27)]) := ⟨_, rfl⟩
                  replace H : (colophonref29_Knots.l0 k2 t168 y173 (wrap64 (x5_1 + 1))) = some r := by first | (rw [hy173]; with_reducible exact H) | (have H2_ := (Option.bind_some _ _).symm.trans H; rw [hy173]; with_reducible exact H2_) | (have H2_ := (Option.bind_some _ _).symm.trans H; with_reducible exact H2_) | with_reducible exact H | (rw [hy173]; exact H) | exact H
                  have Ny173 := Aside0.mk hy173
                  clear hy173
                  have H' := Aside0.mk H
                  clear H
                  have hcz46_0 : wr.cell? ⟨gb172, 0, none⟩ = some (.int .i64 (rd t168 x5_1)) := (blk_cell BK172.out 0).trans rfl
                  have hcz46_1 : wr.cell? ⟨gb172, 1, none⟩ = some (.int .i64 x173001_2) := (blk_cell BK172.out 1).trans rfl
                  have hcz46_2 : wr.cell? ⟨gb172, 2, none⟩ = some (.int .i64 x173002_2) := (blk_cell BK172.out 2).trans rfl
                  have hcz46_3 : wr.cell? ⟨gb172, 3, none⟩ = some (.int .i64 x173003_2) := (blk_cell BK172.out 3).trans rfl
                  have hcz46_4 : wr.cell? ⟨gb172, 4, none⟩ = some (.int .i64 x173004_2) := (blk_cell BK172.out 4).trans rfl
                  have hcz46_5 : wr.cell? ⟨gb172, 5, none⟩ = some (.int .i64 x173005_2) := (blk_cell BK172.out 5).trans rfl
                  have hfz46_0 := blk_frozen BK172.out 0
                  have hfz46_1 := blk_frozen BK172.out 1
                  have hfz46_2 := blk_frozen BK172.out 2
                  have hfz46_3 := blk_frozen BK172.out 3
                  have hfz46_4 := blk_frozen BK172.out 4
                  have hfz46_5 := blk_frozen BK172.out 5
                  go_wp2_with (first | ((with_reducible refine gate_builtin (b := .append) (xs := #[.tmp 95, .tmp 97]) rfl ?_); at_builtin; refine Kd.R_append k27 (w0 := w) w.heap.size rfl (.tmp 95) (.tmp 97) 24 27 (.agg #[(.int .i64 0), (.int .i64 0), (.int .i64 0), (.int .i64 0), (.int .i64 0), (.int .i64 0)]) 48 rfl Try.underlying24 info27 rfl (by decide) (by omega) u4 x4_1 (⟨(rd t168 x5_1), x173001_2, x173002_2, x173003_2, x173004_2, x173005_2⟩ : S27) [.int .i64 (rd t168 x5_1), .int .i64 x173001_2, .int .i64 x173002_2, .int .i64 x173003_2, .int .i64 x173004_2, .int .i64 x173005_2] (fun k_ => k_ ≠ gb172) (fun _ => False) rfl rfl ?aP (fun _ hk => hk.elim) ?aF ?aO ?aB ?aS ?aL ?_; (case aP => exact k27_mkM _ _ _ (⟨(rd t168 x5_1), x173001_2, x173002_2, x173003_2, x173004_2, x173005_2⟩ : S27)); (case aB => exact (by repeat (first | (with_reducible first | exact HB.out | apply below_alloc | apply pw_below_drewN | apply below_drew1 | refine below_set ?_ GE172.out) | exact HB.out))); (case aF => exact (fun k_ hk => Kd.freshB (g := gb172) (o := .cells #[.int .i64 (rd t168 x5_1), .int .i64 x173001_2, .int .i64 x173002_2, .int .i64 x173003_2, .int .i64 x173004_2, .int .i64 x173005_2] 27 (0, 0)) (by (with_reducible repeat (first | refine blk_drewN ?_ _ | refine blk_drew ?_ | refine blk_alloc ?_ _)); exact BK172.out) k_ hk)); (case aO => exact (by (with_reducible repeat (first | apply Kd.R_alloc | apply Kd.R_drewN | apply Kd.R_drew)); exact HO_4.out)); (case aS => exact (below_size (by repeat (first | (with_reducible first | exact HB.out | apply below_alloc | apply pw_below_drewN | apply below_drew1 | refine below_set ?_ GE172.out) | exact HB.out)))); (case aL => have := LMc45.out; omega); intro v174 w47 ho hb hg hat; rw [← Ny173.out] at ho; have n0_ := Aside0.mk (Kd.R_over' (by (with_reducible repeat (first | apply Kd.R_alloc | apply Kd.R_drewN | apply Kd.R_drew)); exact HO_3.out) (Kd.R_typed (by (with_reducible repeat (first | apply Kd.R_alloc | apply Kd.R_drewN | apply Kd.R_drew)); exact HO_4.out)) (by decide) hg); have n1_ := Aside0.mk (blk_grown (g := gb172) (o := .cells #[.int .i64 (rd t168 x5_1), .int .i64 x173001_2, .int .i64 x173002_2, .int .i64 x173003_2, .int .i64 x173004_2, .int .i64 x173005_2] 27 (0, 0)) (by (with_reducible repeat (first | refine blk_drewN ?_ _ | refine blk_drew ?_ | refine blk_alloc ?_ _)); exact BK172.out) hg (Kd.R_away HO_4.out (fun _ hk => hk))); have n2_ := Aside0.mk (hb); have n3_ := Aside0.mk (ho); clear HO_3; clear BK172; clear HB; clear HO_4; have HO_3 := n0_; have BK172 := n1_; have HB := n2_; have HO175 := n3_; clear n0_ n1_ n2_ n3_; clear ho hb hg hat))
                  repeat (go_quiet (first | ((with_reducible refine gate_builtin (b := .append) (xs := #[.tmp 95, .tmp 97]) rfl ?_); at_builtin; refine Kd.R_append k27 (w0 := w) w.heap.size rfl (.tmp 95) (.tmp 97) 24 27 (.agg #[(.int .i64 0), (.int .i64 0), (.int .i64 0), (.int .i64 0), (.int .i64 0), (.int .i64 0)]) 48 rfl Try.underlying24 info27 rfl (by decide) (by omega) u4 x4_1 (⟨(rd t168 x5_1), x173001_2, x173002_2, x173003_2, x173004_2, x173005_2⟩ : S27) [.int .i64 (rd t168 x5_1), .int .i64 x173001_2, .int .i64 x173002_2, .int .i64 x173003_2, .int .i64 x173004_2, .int .i64 x173005_2] (fun k_ => k_ ≠ gb172) (fun _ => False) rfl rfl ?aP (fun _ hk => hk.elim) ?aF ?aO ?aB ?aS ?aL ?_; (case aP => exact k27_mkM _ _ _ (⟨(rd t168 x5_1), x173001_2, x173002_2, x173003_2, x173004_2, x173005_2⟩ : S27)); (case aB => exact (by repeat (first | (with_reducible first | exact HB.out | apply below_alloc | apply pw_below_drewN | apply below_drew1 | refine below_set ?_ GE172.out) | exact HB.out))); (case aF => exact (fun k_ hk => Kd.freshB (g := gb172) (o := .cells #[.int .i64 (rd t168 x5_1), .int .i64 x173001_2, .int .i64 x173002_2, .int .i64 x173003_2, .int .i64 x173004_2, .int .i64 x173005_2] 27 (0, 0)) (by (with_reducible repeat (first | refine blk_drewN ?_ _ | refine blk_drew ?_ | refine blk_alloc ?_ _)); exact BK172.out) k_ hk)); (case aO => exact (by (with_reducible repeat (first | apply Kd.R_alloc | apply Kd.R_drewN | apply Kd.R_drew)); exact HO_4.out)); (case aS => exact (below_size (by repeat (first | (with_reducible first | exact HB.out | apply below_alloc | apply pw_below_drewN | apply below_drew1 | refine below_set ?_ GE172.out) | exact HB.out)))); (case aL => have := LMc45.out; omega); intro v174 w47 ho hb hg hat; rw [← Ny173.out] at ho; have n0_ := Aside0.mk (Kd.R_over' (by (with_reducible repeat (first | apply Kd.R_alloc | apply Kd.R_drewN | apply Kd.R_drew)); exact HO_3.out) (Kd.R_typed (by (with_reducible repeat (first | apply Kd.R_alloc | apply Kd.R_drewN | apply Kd.R_drew)); exact HO_4.out)) (by decide) hg); have n1_ := Aside0.mk (blk_grown (g := gb172) (o := .cells #[.int .i64 (rd t168 x5_1), .int .i64 x173001_2, .int .i64 x173002_2, .int .i64 x173003_2, .int .i64 x173004_2, .int .i64 x173005_2] 27 (0, 0)) (by (with_reducible repeat (first | refine blk_drewN ?_ _ | refine blk_drew ?_ | refine blk_alloc ?_ _)); exact BK172.out) hg (Kd.R_away HO_4.out (fun _ hk => hk))); have n2_ := Aside0.mk (hb); have n3_ := Aside0.mk (ho); clear HO_3; clear BK172; clear HB; clear HO_4; have HO_3 := n0_; have BK172 := n1_; have HB := n2_; have HO175 := n3_; clear n0_ n1_ n2_ n3_; clear ho hb hg hat)); try go_wp2_with (first | ((with_reducible refine gate_builtin (b := .append) (xs := #[.tmp 95, .tmp 97]) rfl ?_); at_builtin; refine Kd.R_append k27 (w0 := w) w.heap.size rfl (.tmp 95) (.tmp 97) 24 27 (.agg #[(.int .i64 0), (.int .i64 0), (.int .i64 0), (.int .i64 0), (.int .i64 0), (.int .i64 0)]) 48 rfl Try.underlying24 info27 rfl (by decide) (by omega) u4 x4_1 (⟨(rd t168 x5_1), x173001_2, x173002_2, x173003_2, x173004_2, x173005_2⟩ : S27) [.int .i64 (rd t168 x5_1), .int .i64 x173001_2, .int .i64 x173002_2, .int .i64 x173003_2, .int .i64 x173004_2, .int .i64 x173005_2] (fun k_ => k_ ≠ gb172) (fun _ => False) rfl rfl ?aP (fun _ hk => hk.elim) ?aF ?aO ?aB ?aS ?aL ?_; (case aP => exact k27_mkM _ _ _ (⟨(rd t168 x5_1), x173001_2, x173002_2, x173003_2, x173004_2, x173005_2⟩ : S27)); (case aB => exact (by repeat (first | (with_reducible first | exact HB.out | apply below_alloc | apply pw_below_drewN | apply below_drew1 | refine below_set ?_ GE172.out) | exact HB.out))); (case aF => exact (fun k_ hk => Kd.freshB (g := gb172) (o := .cells #[.int .i64 (rd t168 x5_1), .int .i64 x173001_2, .int .i64 x173002_2, .int .i64 x173003_2, .int .i64 x173004_2, .int .i64 x173005_2] 27 (0, 0)) (by (with_reducible repeat (first | refine blk_drewN ?_ _ | refine blk_drew ?_ | refine blk_alloc ?_ _)); exact BK172.out) k_ hk)); (case aO => exact (by (with_reducible repeat (first | apply Kd.R_alloc | apply Kd.R_drewN | apply Kd.R_drew)); exact HO_4.out)); (case aS => exact (below_size (by repeat (first | (with_reducible first | exact HB.out | apply below_alloc | apply pw_below_drewN | apply below_drew1 | refine below_set ?_ GE172.out) | exact HB.out)))); (case aL => have := LMc45.out; omega); intro v174 w47 ho hb hg hat; rw [← Ny173.out] at ho; have n0_ := Aside0.mk (Kd.R_over' (by (with_reducible repeat (first | apply Kd.R_alloc | apply Kd.R_drewN | apply Kd.R_drew)); exact HO_3.out) (Kd.R_typed (by (with_reducible repeat (first | apply Kd.R_alloc | apply Kd.R_drewN | apply Kd.R_drew)); exact HO_4.out)) (by decide) hg); have n1_ := Aside0.mk (blk_grown (g := gb172) (o := .cells #[.int .i64 (rd t168 x5_1), .int .i64 x173001_2, .int .i64 x173002_2, .int .i64 x173003_2, .int .i64 x173004_2, .int .i64 x173005_2] 27 (0, 0)) (by (with_reducible repeat (first | refine blk_drewN ?_ _ | refine blk_drew ?_ | refine blk_alloc ?_ _)); exact BK172.out) hg (Kd.R_away HO_4.out (fun _ hk => hk))); have n2_ := Aside0.mk (hb); have n3_ := Aside0.mk (ho); clear HO_3; clear BK172; clear HB; clear HO_4; have HO_3 := n0_; have BK172 := n1_; have HB := n2_; have HO175 := n3_; clear n0_ n1_ n2_ n3_; clear ho hb hg hat)))
                  go_roundg k2
                  case measure => have := HK1.out; have := HK2.out; omega
                  case rel => exact ⟨(y173), (wrap64 (x5_1 + 1)), (by first | rfl | (simp; done) | (simp [*]; done)), H', ⟨by have := HK1.out; have := HK2.out; omega⟩, ⟨by (with_reducible repeat (first | apply Kd.R_alloc | apply Kd.R_drewN | apply Kd.R_drew)); exact HO_3.out⟩, ⟨by (with_reducible repeat (first | apply Kd.R_alloc | apply Kd.R_drewN | apply Kd.R_drew)); exact Kd.R_mono HO175.out (fun _ hk => trivial)⟩, ⟨by repeat (first | (with_reducible first | exact HB.out | apply below_alloc | apply pw_below_drewN | apply below_drew1 | refine below_set ?_ GE172.out) | exact HB.out)⟩⟩
                · rw [if_neg c45] at H
                  exact absurd H (by simp)
        · rw [if_neg c5] at H
          exact absurd H (by simp)
      · rw [if_neg c4] at H
        have c4b0 : decide (x5_1 < (t168.length : Int)) = false := decide_eq_false c4
        clear c4
        obtain rfl := Option.some.inj H
        obtain ⟨Ao48, co48, eo48⟩ := Kd.R_slice HO_3.out
        subst eo48
        go_wp2
        repeat (go_quiet (fail); try go_wp2)
        go_ret
        exact ⟨_, by first | rfl | (simp [errW_none, errW_some] <;> rfl) | (simp [*, errW_none, errW_some] <;> rfl), by (with_reducible repeat (first | apply Kd.R_alloc | apply Kd.R_drewN | apply Kd.R_drew)); exact HO_4.out, by repeat (first | (with_reducible first | exact HB.out | apply below_alloc | apply pw_below_drewN | apply below_drew1) | exact HB.out)⟩

end Go.Proofs.Ytdoponngnjmkkaa.PAnchorsKnots
