/- A part of this claim's proof. -/
import Derived.Test.YtenhfmlkdcfbbaaDoorPHyphenPointsx0
import Derived.Test.YtenhfmlkdcfbbaaDoorPHyphenPointsx7
namespace Go.Proofs.YtenhfmlkdcfbbaaDoor.PHyphenPoints
open Go.RowKit Go.Proofs.YtenhfmlkdcfbbaaDoorW.PrintWords Go.Proofs.YtenhfmlkdcfbbaaDoorW.PrintLast Go.Proofs.YtenhfmlkdcfbbaaDoorW.PrintMore
attribute [local go_sem] max2_int min2_int max_two min_two max_three min_three max_four min_four   
set_option linter.unusedVariables false
set_option linter.unusedSimpArgs false
mutual
def colophonref21_read.j0 : Nat → List Int → Bool → Bool → Bool → Option (List Int × Bool × Bool × List Int × Bool)
 | 0, _, _, _, _ => none
 | k + 1, x0, x16, x179001, x179002 => if x16 = true then (if 1 ≤ (x0.length : Int) then (colophonref21_read.j1 k (x0.drop 1) true x179002) else (none)) else (colophonref21_read.j1 k x0 x179001 x179002)
def colophonref21_read.j1 : Nat → List Int → Bool → Bool → Option (List Int × Bool × Bool × List Int × Bool)
 | 0, _, _, _ => none
 | k + 1, x0, x179001, x179002 => if (x0.length : Int) > 0 then (if 0 ≤ (wrap64 ((x0.length : Int) - 1)) then (if (wrap64 ((x0.length : Int) - 1)) < (x0.length : Int) then (colophonref21_read.j2 k x0 ((rd x0 (wrap64 ((x0.length : Int) - 1))) == 46) x179001 x179002) else (none)) else (none)) else (colophonref21_read.j2 k x0 false x179001 x179002)
def colophonref21_read.j2 : Nat → List Int → Bool → Bool → Bool → Option (List Int × Bool × Bool × List Int × Bool)
 | 0, _, _, _, _ => none
 | k + 1, x0, x31, x179001, x179002 => if x31 = true then (if 0 ≤ (wrap64 ((x0.length : Int) - 1)) then (if (wrap64 ((x0.length : Int) - 1)) ≤ (x0.length : Int) then (colophonref21_read.j3 k (x0.take ((wrap64 ((x0.length : Int) - 1)) : Int).toNat) x179001 true) else (none)) else (none)) else (colophonref21_read.j3 k x0 x179001 x179002)
def colophonref21_read.j3 : Nat → List Int → Bool → Bool → Option (List Int × Bool × Bool × List Int × Bool)
 | 0, _, _, _ => none
 | k + 1, x0, x179001, x179002 => colophonref21_read.l0 k x0 0 false 0 ([] : List Int) x179001 x179002 ([] : List Int)
def colophonref21_read.l0 : Nat → List Int → Int → Bool → Int → List Int → Bool → Bool → List Int → Option (List Int × Bool × Bool × List Int × Bool)
 | 0, _, _, _, _, _, _, _, _ => none
 | k + 1, x0, x5, x6, x7, x179000, x179001, x179002, x179003 => if x7 < (x0.length : Int) then (if 0 ≤ x7 then (if (rd x0 x7) ≥ 48 then (colophonref21_read.j5 k x0 x5 x6 x7 (decide ((rd x0 x7) ≤ 57)) x179000 x179001 x179002 x179003) else (colophonref21_read.j5 k x0 x5 x6 x7 false x179000 x179001 x179002 x179003)) else (none)) else (if x179003.length < 17592186044416 then (some (x179000, x179001, x179002, (x179003 ++ [x5]), decide ((x179000.length : Int) > 0))) else (none))
def colophonref21_read.j5 : Nat → List Int → Int → Bool → Int → Bool → List Int → Bool → Bool → List Int → Option (List Int × Bool × Bool × List Int × Bool)
 | 0, _, _, _, _, _, _, _, _, _ => none
 | k + 1, x0, x5, x6, x7, x55, x179000, x179001, x179002, x179003 => if x55 = true then (if x6 = true then (some (x179000, x179001, x179002, x179003, false)) else (if 0 ≤ x7 then (if x7 < (x0.length : Int) then (colophonref21_read.l0 k x0 (wrap64 ((rd x0 x7) - 48)) true (wrap64 (x7 + 1)) x179000 x179001 x179002 x179003) else (none)) else (none))) else (if 0 ≤ x7 then (if x7 < (x0.length : Int) then ((colophonref21_Letter.f k (rd x0 x7)).bind fun t198 => (if t198 = true then (if (x179000.length : Int) = 64 then (some (x179000, x179001, x179002, x179003, false)) else (if x179000.length < 17592186044416 then (if x179003.length < 17592186044416 then (colophonref21_read.l0 k x0 0 false (wrap64 (x7 + 1)) (x179000 ++ [rd x0 x7]) x179001 x179002 (x179003 ++ [x5])) else (none)) else (none))) else (some (x179000, x179001, x179002, x179003, false)))) else (none)) else (none))
end
def colophonref21_read.f (k : Nat) (l0 : List Int) : Option (List Int × Bool × Bool × List Int × Bool) := if (l0.length : Int) > 0 then (if 0 < (l0.length : Int) then (colophonref21_read.j0 k l0 ((rd l0 0) == 46) false false) else (none)) else (colophonref21_read.j0 k l0 false false false)
theorem colophonref21_read.mono_l : ∀ k, (∀ y0 y1 y2 y3, LeO (colophonref21_read.j0 k y0 y1 y2 y3) (colophonref21_read.j0 (k + 1) y0 y1 y2 y3)) ∧ (∀ y0 y1 y2, LeO (colophonref21_read.j1 k y0 y1 y2) (colophonref21_read.j1 (k + 1) y0 y1 y2)) ∧ (∀ y0 y1 y2 y3, LeO (colophonref21_read.j2 k y0 y1 y2 y3) (colophonref21_read.j2 (k + 1) y0 y1 y2 y3)) ∧ (∀ y0 y1 y2, LeO (colophonref21_read.j3 k y0 y1 y2) (colophonref21_read.j3 (k + 1) y0 y1 y2)) ∧ (∀ y0 y1 y2 y3 y4 y5 y6 y7, LeO (colophonref21_read.l0 k y0 y1 y2 y3 y4 y5 y6 y7) (colophonref21_read.l0 (k + 1) y0 y1 y2 y3 y4 y5 y6 y7)) ∧ (∀ y0 y1 y2 y3 y4 y5 y6 y7 y8, LeO (colophonref21_read.j5 k y0 y1 y2 y3 y4 y5 y6 y7 y8) (colophonref21_read.j5 (k + 1) y0 y1 y2 y3 y4 y5 y6 y7 y8))
 | 0 => ⟨fun _ _ _ _ r h => by simp [colophonref21_read.j0] at h, fun _ _ _ r h => by simp [colophonref21_read.j1] at h, fun _ _ _ _ r h => by simp [colophonref21_read.j2] at h, fun _ _ _ r h => by simp [colophonref21_read.j3] at h, fun _ _ _ _ _ _ _ _ r h => by simp [colophonref21_read.l0] at h, fun _ _ _ _ _ _ _ _ _ r h => by simp [colophonref21_read.j5] at h⟩
 | k + 1 => by
  obtain ⟨ih0, ih1, ih2, ih3, ih4, ih5⟩ := colophonref21_read.mono_l k
  refine ⟨?_, ?_, ?_, ?_, ?_, ?_⟩
  ·intro y0 y1 y2 y3
   unfold colophonref21_read.j0
   repeat' first
   | (with_reducible exact ih0 _ _ _ _)
   | (with_reducible exact ih1 _ _ _)
   | (with_reducible exact ih2 _ _ _ _)
   | (with_reducible exact ih3 _ _ _)
   | (with_reducible exact ih4 _ _ _ _ _ _ _ _)
   | (with_reducible exact ih5 _ _ _ _ _ _ _ _ _)
   | (with_reducible exact colophonref21_Letter.mono _ _)
   | (with_reducible exact LeO.refl _)
   | (with_reducible exact LeO.none _)
   | (with_reducible refine LeO.ite ?_ ?_)
   | (with_reducible refine LeO.bind ?_ (fun _ => ?_))
   | exact ih0 _ _ _ _
   | exact ih1 _ _ _
   | exact ih2 _ _ _ _
   | exact ih3 _ _ _
   | exact ih4 _ _ _ _ _ _ _ _
   | exact ih5 _ _ _ _ _ _ _ _ _
   | exact colophonref21_Letter.mono _ _
   | exact LeO.none _
   | refine LeO.ite ?_ ?_
   | refine LeO.bind ?_ (fun _ => ?_)
  ·intro y0 y1 y2
   unfold colophonref21_read.j1
   repeat' first
   | (with_reducible exact ih0 _ _ _ _)
   | (with_reducible exact ih1 _ _ _)
   | (with_reducible exact ih2 _ _ _ _)
   | (with_reducible exact ih3 _ _ _)
   | (with_reducible exact ih4 _ _ _ _ _ _ _ _)
   | (with_reducible exact ih5 _ _ _ _ _ _ _ _ _)
   | (with_reducible exact colophonref21_Letter.mono _ _)
   | (with_reducible exact LeO.refl _)
   | (with_reducible exact LeO.none _)
   | (with_reducible refine LeO.ite ?_ ?_)
   | (with_reducible refine LeO.bind ?_ (fun _ => ?_))
   | exact ih0 _ _ _ _
   | exact ih1 _ _ _
   | exact ih2 _ _ _ _
   | exact ih3 _ _ _
   | exact ih4 _ _ _ _ _ _ _ _
   | exact ih5 _ _ _ _ _ _ _ _ _
   | exact colophonref21_Letter.mono _ _
   | exact LeO.none _
   | refine LeO.ite ?_ ?_
   | refine LeO.bind ?_ (fun _ => ?_)
  ·intro y0 y1 y2 y3
   unfold colophonref21_read.j2
   repeat' first
   | (with_reducible exact ih0 _ _ _ _)
   | (with_reducible exact ih1 _ _ _)
   | (with_reducible exact ih2 _ _ _ _)
   | (with_reducible exact ih3 _ _ _)
   | (with_reducible exact ih4 _ _ _ _ _ _ _ _)
   | (with_reducible exact ih5 _ _ _ _ _ _ _ _ _)
   | (with_reducible exact colophonref21_Letter.mono _ _)
   | (with_reducible exact LeO.refl _)
   | (with_reducible exact LeO.none _)
   | (with_reducible refine LeO.ite ?_ ?_)
   | (with_reducible refine LeO.bind ?_ (fun _ => ?_))
   | exact ih0 _ _ _ _
   | exact ih1 _ _ _
   | exact ih2 _ _ _ _
   | exact ih3 _ _ _
   | exact ih4 _ _ _ _ _ _ _ _
   | exact ih5 _ _ _ _ _ _ _ _ _
   | exact colophonref21_Letter.mono _ _
   | exact LeO.none _
   | refine LeO.ite ?_ ?_
   | refine LeO.bind ?_ (fun _ => ?_)
  ·intro y0 y1 y2
   unfold colophonref21_read.j3
   repeat' first
   | (with_reducible exact ih0 _ _ _ _)
   | (with_reducible exact ih1 _ _ _)
   | (with_reducible exact ih2 _ _ _ _)
   | (with_reducible exact ih3 _ _ _)
   | (with_reducible exact ih4 _ _ _ _ _ _ _ _)
   | (with_reducible exact ih5 _ _ _ _ _ _ _ _ _)
   | (with_reducible exact colophonref21_Letter.mono _ _)
   | (with_reducible exact LeO.refl _)
   | (with_reducible exact LeO.none _)
   | (with_reducible refine LeO.ite ?_ ?_)
   | (with_reducible refine LeO.bind ?_ (fun _ => ?_))
   | exact ih0 _ _ _ _
   | exact ih1 _ _ _
   | exact ih2 _ _ _ _
   | exact ih3 _ _ _
   | exact ih4 _ _ _ _ _ _ _ _
   | exact ih5 _ _ _ _ _ _ _ _ _
   | exact colophonref21_Letter.mono _ _
   | exact LeO.none _
   | refine LeO.ite ?_ ?_
   | refine LeO.bind ?_ (fun _ => ?_)
  ·intro y0 y1 y2 y3 y4 y5 y6 y7
   unfold colophonref21_read.l0
   repeat' first
   | (with_reducible exact ih0 _ _ _ _)
   | (with_reducible exact ih1 _ _ _)
   | (with_reducible exact ih2 _ _ _ _)
   | (with_reducible exact ih3 _ _ _)
   | (with_reducible exact ih4 _ _ _ _ _ _ _ _)
   | (with_reducible exact ih5 _ _ _ _ _ _ _ _ _)
   | (with_reducible exact colophonref21_Letter.mono _ _)
   | (with_reducible exact LeO.refl _)
   | (with_reducible exact LeO.none _)
   | (with_reducible refine LeO.ite ?_ ?_)
   | (with_reducible refine LeO.bind ?_ (fun _ => ?_))
   | exact ih0 _ _ _ _
   | exact ih1 _ _ _
   | exact ih2 _ _ _ _
   | exact ih3 _ _ _
   | exact ih4 _ _ _ _ _ _ _ _
   | exact ih5 _ _ _ _ _ _ _ _ _
   | exact colophonref21_Letter.mono _ _
   | exact LeO.none _
   | refine LeO.ite ?_ ?_
   | refine LeO.bind ?_ (fun _ => ?_)
  ·intro y0 y1 y2 y3 y4 y5 y6 y7 y8
   unfold colophonref21_read.j5
   repeat' first
   | (with_reducible exact ih0 _ _ _ _)
   | (with_reducible exact ih1 _ _ _)
   | (with_reducible exact ih2 _ _ _ _)
   | (with_reducible exact ih3 _ _ _)
   | (with_reducible exact ih4 _ _ _ _ _ _ _ _)
   | (with_reducible exact ih5 _ _ _ _ _ _ _ _ _)
   | (with_reducible exact colophonref21_Letter.mono _ _)
   | (with_reducible exact LeO.refl _)
   | (with_reducible exact LeO.none _)
   | (with_reducible refine LeO.ite ?_ ?_)
   | (with_reducible refine LeO.bind ?_ (fun _ => ?_))
   | exact ih0 _ _ _ _
   | exact ih1 _ _ _
   | exact ih2 _ _ _ _
   | exact ih3 _ _ _
   | exact ih4 _ _ _ _ _ _ _ _
   | exact ih5 _ _ _ _ _ _ _ _ _
   | exact colophonref21_Letter.mono _ _
   | exact LeO.none _
   | refine LeO.ite ?_ ?_
   | refine LeO.bind ?_ (fun _ => ?_)
theorem colophonref21_read.mono : ∀ a0 k, LeO (colophonref21_read.f k a0) (colophonref21_read.f (k + 1) a0) := by
 intro a0 k
 obtain ⟨ih0, ih1, ih2, ih3, ih4, ih5⟩ := colophonref21_read.mono_l k
 unfold colophonref21_read.f
 repeat' first
   | (with_reducible exact ih0 _ _ _ _)
   | (with_reducible exact ih1 _ _ _)
   | (with_reducible exact ih2 _ _ _ _)
   | (with_reducible exact ih3 _ _ _)
   | (with_reducible exact ih4 _ _ _ _ _ _ _ _)
   | (with_reducible exact ih5 _ _ _ _ _ _ _ _ _)
   | (with_reducible exact colophonref21_Letter.mono _ _)
   | (with_reducible exact LeO.refl _)
   | (with_reducible exact LeO.none _)
   | (with_reducible refine LeO.ite ?_ ?_)
   | (with_reducible refine LeO.bind ?_ (fun _ => ?_))
   | exact ih0 _ _ _ _
   | exact ih1 _ _ _
   | exact ih2 _ _ _ _
   | exact ih3 _ _ _
   | exact ih4 _ _ _ _ _ _ _ _
   | exact ih5 _ _ _ _ _ _ _ _ _
   | exact colophonref21_Letter.mono _ _
   | exact LeO.none _
   | refine LeO.ite ?_ ?_
   | refine LeO.bind ?_ (fun _ => ?_)
def colophonref21_read.T18 : Bool × List (List Nat × List Nat) := (true, [([], []), ([0], [0]), ([], []), ([], []), ([2, 3], [2, 3]), ([4], [4]), ([5], [5]), ([1, 6], [1, 6]), ([0, 1, 2, 3, 4, 5, 6, 7], []), ([8, 7, 7, 0, 1, 2, 3, 4, 5, 6, 7], [7, 8])])
def colophonref21_read.B18 : List Nat := [0, 1, 0, 0, 12, 28, 60, 127, 255, 511]
end Go.Proofs.YtenhfmlkdcfbbaaDoor.PHyphenPoints
