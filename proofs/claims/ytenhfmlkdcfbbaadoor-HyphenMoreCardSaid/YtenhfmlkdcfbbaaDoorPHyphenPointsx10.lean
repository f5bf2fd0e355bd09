/- A part of this claim's proof. -/
import Derived.Test.YtenhfmlkdcfbbaaDoorPHyphenPointsx0
import Derived.Test.YtenhfmlkdcfbbaaDoorPHyphenPointsx6
import Derived.Test.YtenhfmlkdcfbbaaDoorPHyphenPointsx7
namespace Go.Proofs.YtenhfmlkdcfbbaaDoor.PHyphenPoints
open Go.RowKit Go.Proofs.YtenhfmlkdcfbbaaDoorW.PrintWords Go.Proofs.YtenhfmlkdcfbbaaDoorW.PrintLast Go.Proofs.YtenhfmlkdcfbbaaDoorW.PrintMore
attribute [local go_sem] max2_int min2_int max_two min_two max_three min_three max_four min_four   
set_option linter.unusedVariables false
set_option linter.unusedSimpArgs false
def colophonref21_fits.l0 : Nat → List Int → List Int → Int → Int → Option (Bool)
 | 0, _, _, _, _ => none
 | k + 1, x0, x1, x2, x7 => if x7 < (x0.length : Int) then (if 0 ≤ (wrap64 (x2 + x7)) then (if (wrap64 (x2 + x7)) < (x1.length : Int) then (if 0 ≤ x7 then (if (rd x1 (wrap64 (x2 + x7))) = (rd x0 x7) then (colophonref21_fits.l0 k x0 x1 x2 (wrap64 (x7 + 1))) else (some false)) else (none)) else (none)) else (none)) else (some true)
def colophonref21_fits.f (k : Nat) (l0 : List Int) (l1 : List Int) (a2 : Int) : Option (Bool) := if (wrap64 (a2 + (l0.length : Int))) > (l1.length : Int) then (some false) else (colophonref21_fits.l0 k l0 l1 a2 0)
theorem colophonref21_fits.mono_l : ∀ k, (∀ y0 y1 y2 y3, LeO (colophonref21_fits.l0 k y0 y1 y2 y3) (colophonref21_fits.l0 (k + 1) y0 y1 y2 y3))
 | 0 => fun _ _ _ _ r h => by simp [colophonref21_fits.l0] at h
 | k + 1 => by
  have ih0 := colophonref21_fits.mono_l k
  ·intro y0 y1 y2 y3
   unfold colophonref21_fits.l0
   repeat' first
   | (with_reducible exact ih0 _ _ _ _)
   | (with_reducible exact LeO.refl _)
   | (with_reducible exact LeO.none _)
   | (with_reducible refine LeO.ite ?_ ?_)
   | (with_reducible refine LeO.bind ?_ (fun _ => ?_))
   | exact ih0 _ _ _ _
   | exact LeO.none _
   | refine LeO.ite ?_ ?_
   | refine LeO.bind ?_ (fun _ => ?_)
theorem colophonref21_fits.mono : ∀ a0 a1 a2 k, LeO (colophonref21_fits.f k a0 a1 a2) (colophonref21_fits.f (k + 1) a0 a1 a2) := by
 intro a0 a1 a2 k
 have ih0 := colophonref21_fits.mono_l k
 unfold colophonref21_fits.f
 repeat' first
   | (with_reducible exact ih0 _ _ _ _)
   | (with_reducible exact LeO.refl _)
   | (with_reducible exact LeO.none _)
   | (with_reducible refine LeO.ite ?_ ?_)
   | (with_reducible refine LeO.bind ?_ (fun _ => ?_))
   | exact ih0 _ _ _ _
   | exact LeO.none _
   | refine LeO.ite ?_ ?_
   | refine LeO.bind ?_ (fun _ => ?_)
mutual
def colophonref21_may.j0 : Nat → List Int → Bool → Option (Bool)
 | 0, _, _ => none
 | k + 1, x0, x11 => if x11 = true then (some false) else (colophonref21_may.l0 k x0 0)
def colophonref21_may.l0 : Nat → List Int → Int → Option (Bool)
 | 0, _, _ => none
 | k + 1, x0, x3 => if x3 < (x0.length : Int) then (if 0 ≤ x3 then ((colophonref04_Class.f k (rd x0 x3)).bind fun t245 => (if t245 = 2 then (colophonref21_may.l0 k x0 (wrap64 (x3 + 1))) else (some false))) else (none)) else (some true)
end
def colophonref21_may.f (k : Nat) (l0 : List Int) : Option (Bool) := if (l0.length : Int) < 1 then (colophonref21_may.j0 k l0 true) else (colophonref21_may.j0 k l0 (decide ((l0.length : Int) > 64)))
theorem colophonref21_may.mono_l : ∀ k, (∀ y0 y1, LeO (colophonref21_may.j0 k y0 y1) (colophonref21_may.j0 (k + 1) y0 y1)) ∧ (∀ y0 y1, LeO (colophonref21_may.l0 k y0 y1) (colophonref21_may.l0 (k + 1) y0 y1))
 | 0 => ⟨fun _ _ r h => by simp [colophonref21_may.j0] at h, fun _ _ r h => by simp [colophonref21_may.l0] at h⟩
 | k + 1 => by
  obtain ⟨ih0, ih1⟩ := colophonref21_may.mono_l k
  refine ⟨?_, ?_⟩
  ·intro y0 y1
   unfold colophonref21_may.j0
   repeat' first
   | (with_reducible exact ih0 _ _)
   | (with_reducible exact ih1 _ _)
   | (with_reducible exact colophonref04_Class.mono _ _)
   | (with_reducible exact LeO.refl _)
   | (with_reducible exact LeO.none _)
   | (with_reducible refine LeO.ite ?_ ?_)
   | (with_reducible refine LeO.bind ?_ (fun _ => ?_))
   | exact ih0 _ _
   | exact ih1 _ _
   | exact colophonref04_Class.mono _ _
   | exact LeO.none _
   | refine LeO.ite ?_ ?_
   | refine LeO.bind ?_ (fun _ => ?_)
  ·intro y0 y1
   unfold colophonref21_may.l0
   repeat' first
   | (with_reducible exact ih0 _ _)
   | (with_reducible exact ih1 _ _)
   | (with_reducible exact colophonref04_Class.mono _ _)
   | (with_reducible exact LeO.refl _)
   | (with_reducible exact LeO.none _)
   | (with_reducible refine LeO.ite ?_ ?_)
   | (with_reducible refine LeO.bind ?_ (fun _ => ?_))
   | exact ih0 _ _
   | exact ih1 _ _
   | exact colophonref04_Class.mono _ _
   | exact LeO.none _
   | refine LeO.ite ?_ ?_
   | refine LeO.bind ?_ (fun _ => ?_)
theorem colophonref21_may.mono : ∀ a0 k, LeO (colophonref21_may.f k a0) (colophonref21_may.f (k + 1) a0) := by
 intro a0 k
 obtain ⟨ih0, ih1⟩ := colophonref21_may.mono_l k
 unfold colophonref21_may.f
 repeat' first
   | (with_reducible exact ih0 _ _)
   | (with_reducible exact ih1 _ _)
   | (with_reducible exact colophonref04_Class.mono _ _)
   | (with_reducible exact LeO.refl _)
   | (with_reducible exact LeO.none _)
   | (with_reducible refine LeO.ite ?_ ?_)
   | (with_reducible refine LeO.bind ?_ (fun _ => ?_))
   | exact ih0 _ _
   | exact ih1 _ _
   | exact colophonref04_Class.mono _ _
   | exact LeO.none _
   | refine LeO.ite ?_ ?_
   | refine LeO.bind ?_ (fun _ => ?_)
def colophonref04_Lowers.l0 : Nat → List Int → List Int → Int → Option (List Int)
 | 0, _, _, _ => none
 | k + 1, x0, x3, x4 => if x4 < (x0.length : Int) then (if 0 ≤ x4 then ((colophonref04_Lower.f (rd x0 x4)).bind fun t247 => (if x3.length < 17592186044416 then (colophonref04_Lowers.l0 k x0 (x3 ++ [t247]) (wrap64 (x4 + 1))) else (none))) else (none)) else (some x3)
def colophonref04_Lowers.f (k : Nat) (l0 : List Int) : Option (List Int) := colophonref04_Lowers.l0 k l0 ([] : List Int) 0
theorem colophonref04_Lowers.mono_l : ∀ k, (∀ y0 y1 y2, LeO (colophonref04_Lowers.l0 k y0 y1 y2) (colophonref04_Lowers.l0 (k + 1) y0 y1 y2))
 | 0 => fun _ _ _ r h => by simp [colophonref04_Lowers.l0] at h
 | k + 1 => by
  have ih0 := colophonref04_Lowers.mono_l k
  ·intro y0 y1 y2
   unfold colophonref04_Lowers.l0
   repeat' first
   | (with_reducible exact ih0 _ _ _)
   | (with_reducible exact LeO.refl _)
   | (with_reducible exact LeO.none _)
   | (with_reducible refine LeO.ite ?_ ?_)
   | (with_reducible refine LeO.bind ?_ (fun _ => ?_))
   | exact ih0 _ _ _
   | exact LeO.none _
   | refine LeO.ite ?_ ?_
   | refine LeO.bind ?_ (fun _ => ?_)
theorem colophonref04_Lowers.mono : ∀ a0 k, LeO (colophonref04_Lowers.f k a0) (colophonref04_Lowers.f (k + 1) a0) := by
 intro a0 k
 have ih0 := colophonref04_Lowers.mono_l k
 unfold colophonref04_Lowers.f
 repeat' first
   | (with_reducible exact ih0 _ _ _)
   | (with_reducible exact LeO.refl _)
   | (with_reducible exact LeO.none _)
   | (with_reducible refine LeO.ite ?_ ?_)
   | (with_reducible refine LeO.bind ?_ (fun _ => ?_))
   | exact ih0 _ _ _
   | exact LeO.none _
   | refine LeO.ite ?_ ?_
   | refine LeO.bind ?_ (fun _ => ?_)
end Go.Proofs.YtenhfmlkdcfbbaaDoor.PHyphenPoints
