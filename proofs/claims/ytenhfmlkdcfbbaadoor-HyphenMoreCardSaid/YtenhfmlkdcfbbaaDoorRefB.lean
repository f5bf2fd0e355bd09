/- law21: the reference's Nodes and Levels, walked on the set in memory. -/
import Derived.Test.YtenhfmlkdcfbbaaDoorRefA
namespace Go.Proofs.YtenhfmlkdcfbbaaDoor.PHyphenPoints
open Go.RowKit Go.Proofs.YtenhfmlkdcfbbaaDoorW.PrintWords Go.Proofs.YtenhfmlkdcfbbaaDoorW.PrintLast Go.Proofs.YtenhfmlkdcfbbaaDoorW.PrintMore
attribute [local go_sem] max2_int min2_int max_two min_two max_three min_three max_four min_four
set_option linter.unusedVariables false
set_option linter.unusedSimpArgs false
mutual
def colophonref21_Set_Nodes.l0 : Nat → List (S66) → Int → Int → Option (Int)
 | 0, _, _, _ => none
 | k + 1, x0, x3, x4 => if x4 < (x0.length : Int) then (if 0 ≤ x4 then ((colophonref21_pattern_spelled.f ((rd_T66 x0 x4).f0) ((rd_T66 x0 x4).f1) ((rd_T66 x0 x4).f2) ((rd_T66 x0 x4).f3)).bind fun t129 => (colophonref21_Set_Nodes.l1 k x0 x3 x4 t129 1)) else (none)) else (some x3)
def colophonref21_Set_Nodes.l1 : Nat → List (S66) → Int → Int → List Int → Int → Option (Int)
 | 0, _, _, _, _, _ => none
 | k + 1, x0, x3, x4, x5, x6 => if x6 ≤ (x5.length : Int) then (colophonref21_Set_Nodes.l2 k x0 x3 x4 x5 x6 true 0) else (colophonref21_Set_Nodes.l0 k x0 x3 (wrap64 (x4 + 1)))
def colophonref21_Set_Nodes.l2 : Nat → List (S66) → Int → Int → List Int → Int → Bool → Int → Option (Int)
 | 0, _, _, _, _, _, _, _ => none
 | k + 1, x0, x3, x4, x5, x6, x7, x8 => if x8 < x4 then (colophonref21_Set_Nodes.j3 k x0 x3 x4 x5 x6 x7 x8 x7) else (colophonref21_Set_Nodes.j3 k x0 x3 x4 x5 x6 x7 x8 false)
def colophonref21_Set_Nodes.j3 : Nat → List (S66) → Int → Int → List Int → Int → Bool → Int → Bool → Option (Int)
 | 0, _, _, _, _, _, _, _, _ => none
 | k + 1, x0, x3, x4, x5, x6, x7, x8, x39 => if x39 = true then (if 0 ≤ x6 then (if x6 ≤ (x5.length : Int) then (if 0 ≤ x8 then (if x8 < (x0.length : Int) then ((colophonref21_pattern_spelled.f ((rd_T66 x0 x8).f0) ((rd_T66 x0 x8).f1) ((rd_T66 x0 x8).f2) ((rd_T66 x0 x8).f3)).bind fun t137 => ((colophonref21_fits.f k (x5.take (x6 : Int).toNat) t137 0).bind fun t140 => (colophonref21_Set_Nodes.l2 k x0 x3 x4 x5 x6 (!t140) (wrap64 (x8 + 1))))) else (none)) else (none)) else (none)) else (none)) else (if x7 = true then (colophonref21_Set_Nodes.l1 k x0 (wrap64 (x3 + 1)) x4 x5 (wrap64 (x6 + 1))) else (colophonref21_Set_Nodes.l1 k x0 x3 x4 x5 (wrap64 (x6 + 1))))
end
def colophonref21_Set_Nodes.f (k : Nat) (l0 : List (S66)) : Option (Int) := if 1 = 0 then (some 0) else (colophonref21_Set_Nodes.l0 k l0 1 0)
noncomputable def colophonref21_Set_Nodes.T15 := rtab .any (opsOf Tryd.f14 15)
def colophonref21_Set_Nodes.B15 : List Nat := [0, 0, 3, 0, 8, 24, 56, 0, 248, 504, 1016, 2047, 4095, 8191]
mutual
def colophonref21_Set_Levels.j0 : Nat → List (S66) → List Int → Bool → Option (List Int)
 | 0, _, _, _ => none
 | k + 1, x0, x1, x17 => if x17 = true then (some ([] : List Int)) else ((colophonref04_Lowers.f k x1).bind fun t265 => (if 0 ≤ (wrap64 ((t265.length : Int) + 1)) then (if (wrap64 ((t265.length : Int) + 1) : Int).toNat ≤ 35184372088832 then (colophonref21_Set_Levels.l0 k x0 t265 (List.replicate (wrap64 ((t265.length : Int) + 1) : Int).toNat 0) 0) else (none)) else (none)))
def colophonref21_Set_Levels.l0 : Nat → List (S66) → List Int → List Int → Int → Option (List Int)
 | 0, _, _, _, _ => none
 | k + 1, x0, x5, x6, x7 => if x7 < (x0.length : Int) then (if 0 ≤ x7 then (colophonref21_Set_Levels.l1 k x0 x5 x6 x7 0 ((rd_T66 x0 x7).f0) ((rd_T66 x0 x7).f1) ((rd_T66 x0 x7).f2) ((rd_T66 x0 x7).f3)) else (none)) else (some x6)
def colophonref21_Set_Levels.l1 : Nat → List (S66) → List Int → List Int → Int → Int → List Int → Bool → Bool → List Int → Option (List Int)
 | 0, _, _, _, _, _, _, _, _, _ => none
 | k + 1, x0, x5, x6, x7, x9, x273000, x273001, x273002, x273003 => if (wrap64 (x9 + (x273000.length : Int))) ≤ (x5.length : Int) then ((colophonref21_fits.f k x273000 x5 x9).bind fun t273 => (if t273 = true then (if x273001 = true then (if x9 = 0 then (if x273002 = true then (colophonref21_Set_Levels.j3 k x0 x5 x6 x7 x9 ((wrap64 (x9 + (x273000.length : Int))) != (x5.length : Int)) x273000 x273001 x273002 x273003) else (colophonref21_Set_Levels.j3 k x0 x5 x6 x7 x9 false x273000 x273001 x273002 x273003)) else (colophonref21_Set_Levels.j3 k x0 x5 x6 x7 x9 true x273000 x273001 x273002 x273003)) else (if x273002 = true then (colophonref21_Set_Levels.j3 k x0 x5 x6 x7 x9 ((wrap64 (x9 + (x273000.length : Int))) != (x5.length : Int)) x273000 x273001 x273002 x273003) else (colophonref21_Set_Levels.j3 k x0 x5 x6 x7 x9 false x273000 x273001 x273002 x273003))) else (colophonref21_Set_Levels.j3 k x0 x5 x6 x7 x9 true x273000 x273001 x273002 x273003))) else (colophonref21_Set_Levels.l0 k x0 x5 x6 (wrap64 (x7 + 1)))
def colophonref21_Set_Levels.j3 : Nat → List (S66) → List Int → List Int → Int → Int → Bool → List Int → Bool → Bool → List Int → Option (List Int)
 | 0, _, _, _, _, _, _, _, _, _, _ => none
 | k + 1, x0, x5, x6, x7, x9, x77, x273000, x273001, x273002, x273003 => if x77 = true then (colophonref21_Set_Levels.l1 k x0 x5 x6 x7 (wrap64 (x9 + 1)) x273000 x273001 x273002 x273003) else (colophonref21_Set_Levels.l2 k x0 x5 x6 x7 x9 0 x273000 x273001 x273002 x273003)
def colophonref21_Set_Levels.l2 : Nat → List (S66) → List Int → List Int → Int → Int → Int → List Int → Bool → Bool → List Int → Option (List Int)
 | 0, _, _, _, _, _, _, _, _, _, _ => none
 | k + 1, x0, x5, x6, x7, x9, x10, x273000, x273001, x273002, x273003 => if x10 < (x273003.length : Int) then (if 0 ≤ (wrap64 (x9 + x10)) then (if (wrap64 (x9 + x10)) < (x6.length : Int) then (if 0 ≤ x10 then (colophonref21_Set_Levels.l2 k x0 x5 (x6.set ((wrap64 (x9 + x10)) : Int).toNat (mx (rd x6 (wrap64 (x9 + x10))) (rd x273003 x10))) x7 x9 (wrap64 (x10 + 1)) x273000 x273001 x273002 x273003) else (none)) else (none)) else (none)) else (colophonref21_Set_Levels.l1 k x0 x5 x6 x7 (wrap64 (x9 + 1)) x273000 x273001 x273002 x273003)
end
def colophonref21_Set_Levels.f (k : Nat) (l0 : List (S66)) (l1 : List Int) : Option (List Int) := if 1 = 0 then (colophonref21_Set_Levels.j0 k l0 l1 true) else ((colophonref21_may.f k l1).bind fun t264 => (colophonref21_Set_Levels.j0 k l0 l1 (!t264)))
theorem colophonref21_Set_Levels.mono_l : ∀ k, (∀ y0 y1 y2, LeO (colophonref21_Set_Levels.j0 k y0 y1 y2) (colophonref21_Set_Levels.j0 (k + 1) y0 y1 y2)) ∧ (∀ y0 y1 y2 y3, LeO (colophonref21_Set_Levels.l0 k y0 y1 y2 y3) (colophonref21_Set_Levels.l0 (k + 1) y0 y1 y2 y3)) ∧ (∀ y0 y1 y2 y3 y4 y5 y6 y7 y8, LeO (colophonref21_Set_Levels.l1 k y0 y1 y2 y3 y4 y5 y6 y7 y8) (colophonref21_Set_Levels.l1 (k + 1) y0 y1 y2 y3 y4 y5 y6 y7 y8)) ∧ (∀ y0 y1 y2 y3 y4 y5 y6 y7 y8 y9, LeO (colophonref21_Set_Levels.j3 k y0 y1 y2 y3 y4 y5 y6 y7 y8 y9) (colophonref21_Set_Levels.j3 (k + 1) y0 y1 y2 y3 y4 y5 y6 y7 y8 y9)) ∧ (∀ y0 y1 y2 y3 y4 y5 y6 y7 y8 y9, LeO (colophonref21_Set_Levels.l2 k y0 y1 y2 y3 y4 y5 y6 y7 y8 y9) (colophonref21_Set_Levels.l2 (k + 1) y0 y1 y2 y3 y4 y5 y6 y7 y8 y9))
 | 0 => ⟨fun _ _ _ r h => by simp [colophonref21_Set_Levels.j0] at h, fun _ _ _ _ r h => by simp [colophonref21_Set_Levels.l0] at h, fun _ _ _ _ _ _ _ _ _ r h => by simp [colophonref21_Set_Levels.l1] at h, fun _ _ _ _ _ _ _ _ _ _ r h => by simp [colophonref21_Set_Levels.j3] at h, fun _ _ _ _ _ _ _ _ _ _ r h => by simp [colophonref21_Set_Levels.l2] at h⟩
 | k + 1 => by
  obtain ⟨ih0, ih1, ih2, ih3, ih4⟩ := colophonref21_Set_Levels.mono_l k
  refine ⟨?_, ?_, ?_, ?_, ?_⟩
  ·intro y0 y1 y2
   unfold colophonref21_Set_Levels.j0
   repeat' first
   | (with_reducible exact ih0 _ _ _)
   | (with_reducible exact ih1 _ _ _ _)
   | (with_reducible exact ih2 _ _ _ _ _ _ _ _ _)
   | (with_reducible exact ih3 _ _ _ _ _ _ _ _ _ _)
   | (with_reducible exact ih4 _ _ _ _ _ _ _ _ _ _)
   | (with_reducible exact colophonref04_Lowers.mono _ _)
   | (with_reducible exact colophonref21_fits.mono _ _ _ _)
   | (with_reducible exact colophonref21_may.mono _ _)
   | (with_reducible exact LeO.refl _)
   | (with_reducible exact LeO.none _)
   | (with_reducible refine LeO.ite ?_ ?_)
   | (with_reducible refine LeO.bind ?_ (fun _ => ?_))
   | exact ih0 _ _ _
   | exact ih1 _ _ _ _
   | exact ih2 _ _ _ _ _ _ _ _ _
   | exact ih3 _ _ _ _ _ _ _ _ _ _
   | exact ih4 _ _ _ _ _ _ _ _ _ _
   | exact colophonref04_Lowers.mono _ _
   | exact colophonref21_fits.mono _ _ _ _
   | exact colophonref21_may.mono _ _
   | exact LeO.none _
   | refine LeO.ite ?_ ?_
   | refine LeO.bind ?_ (fun _ => ?_)
  ·intro y0 y1 y2 y3
   unfold colophonref21_Set_Levels.l0
   repeat' first
   | (with_reducible exact ih0 _ _ _)
   | (with_reducible exact ih1 _ _ _ _)
   | (with_reducible exact ih2 _ _ _ _ _ _ _ _ _)
   | (with_reducible exact ih3 _ _ _ _ _ _ _ _ _ _)
   | (with_reducible exact ih4 _ _ _ _ _ _ _ _ _ _)
   | (with_reducible exact colophonref04_Lowers.mono _ _)
   | (with_reducible exact colophonref21_fits.mono _ _ _ _)
   | (with_reducible exact colophonref21_may.mono _ _)
   | (with_reducible exact LeO.refl _)
   | (with_reducible exact LeO.none _)
   | (with_reducible refine LeO.ite ?_ ?_)
   | (with_reducible refine LeO.bind ?_ (fun _ => ?_))
   | exact ih0 _ _ _
   | exact ih1 _ _ _ _
   | exact ih2 _ _ _ _ _ _ _ _ _
   | exact ih3 _ _ _ _ _ _ _ _ _ _
   | exact ih4 _ _ _ _ _ _ _ _ _ _
   | exact colophonref04_Lowers.mono _ _
   | exact colophonref21_fits.mono _ _ _ _
   | exact colophonref21_may.mono _ _
   | exact LeO.none _
   | refine LeO.ite ?_ ?_
   | refine LeO.bind ?_ (fun _ => ?_)
  ·intro y0 y1 y2 y3 y4 y5 y6 y7 y8
   unfold colophonref21_Set_Levels.l1
   repeat' first
   | (with_reducible exact ih0 _ _ _)
   | (with_reducible exact ih1 _ _ _ _)
   | (with_reducible exact ih2 _ _ _ _ _ _ _ _ _)
   | (with_reducible exact ih3 _ _ _ _ _ _ _ _ _ _)
   | (with_reducible exact ih4 _ _ _ _ _ _ _ _ _ _)
   | (with_reducible exact colophonref04_Lowers.mono _ _)
   | (with_reducible exact colophonref21_fits.mono _ _ _ _)
   | (with_reducible exact colophonref21_may.mono _ _)
   | (with_reducible exact LeO.refl _)
   | (with_reducible exact LeO.none _)
   | (with_reducible refine LeO.ite ?_ ?_)
   | (with_reducible refine LeO.bind ?_ (fun _ => ?_))
   | exact ih0 _ _ _
   | exact ih1 _ _ _ _
   | exact ih2 _ _ _ _ _ _ _ _ _
   | exact ih3 _ _ _ _ _ _ _ _ _ _
   | exact ih4 _ _ _ _ _ _ _ _ _ _
   | exact colophonref04_Lowers.mono _ _
   | exact colophonref21_fits.mono _ _ _ _
   | exact colophonref21_may.mono _ _
   | exact LeO.none _
   | refine LeO.ite ?_ ?_
   | refine LeO.bind ?_ (fun _ => ?_)
  ·intro y0 y1 y2 y3 y4 y5 y6 y7 y8 y9
   unfold colophonref21_Set_Levels.j3
   repeat' first
   | (with_reducible exact ih0 _ _ _)
   | (with_reducible exact ih1 _ _ _ _)
   | (with_reducible exact ih2 _ _ _ _ _ _ _ _ _)
   | (with_reducible exact ih3 _ _ _ _ _ _ _ _ _ _)
   | (with_reducible exact ih4 _ _ _ _ _ _ _ _ _ _)
   | (with_reducible exact colophonref04_Lowers.mono _ _)
   | (with_reducible exact colophonref21_fits.mono _ _ _ _)
   | (with_reducible exact colophonref21_may.mono _ _)
   | (with_reducible exact LeO.refl _)
   | (with_reducible exact LeO.none _)
   | (with_reducible refine LeO.ite ?_ ?_)
   | (with_reducible refine LeO.bind ?_ (fun _ => ?_))
   | exact ih0 _ _ _
   | exact ih1 _ _ _ _
   | exact ih2 _ _ _ _ _ _ _ _ _
   | exact ih3 _ _ _ _ _ _ _ _ _ _
   | exact ih4 _ _ _ _ _ _ _ _ _ _
   | exact colophonref04_Lowers.mono _ _
   | exact colophonref21_fits.mono _ _ _ _
   | exact colophonref21_may.mono _ _
   | exact LeO.none _
   | refine LeO.ite ?_ ?_
   | refine LeO.bind ?_ (fun _ => ?_)
  ·intro y0 y1 y2 y3 y4 y5 y6 y7 y8 y9
   unfold colophonref21_Set_Levels.l2
   repeat' first
   | (with_reducible exact ih0 _ _ _)
   | (with_reducible exact ih1 _ _ _ _)
   | (with_reducible exact ih2 _ _ _ _ _ _ _ _ _)
   | (with_reducible exact ih3 _ _ _ _ _ _ _ _ _ _)
   | (with_reducible exact ih4 _ _ _ _ _ _ _ _ _ _)
   | (with_reducible exact colophonref04_Lowers.mono _ _)
   | (with_reducible exact colophonref21_fits.mono _ _ _ _)
   | (with_reducible exact colophonref21_may.mono _ _)
   | (with_reducible exact LeO.refl _)
   | (with_reducible exact LeO.none _)
   | (with_reducible refine LeO.ite ?_ ?_)
   | (with_reducible refine LeO.bind ?_ (fun _ => ?_))
   | exact ih0 _ _ _
   | exact ih1 _ _ _ _
   | exact ih2 _ _ _ _ _ _ _ _ _
   | exact ih3 _ _ _ _ _ _ _ _ _ _
   | exact ih4 _ _ _ _ _ _ _ _ _ _
   | exact colophonref04_Lowers.mono _ _
   | exact colophonref21_fits.mono _ _ _ _
   | exact colophonref21_may.mono _ _
   | exact LeO.none _
   | refine LeO.ite ?_ ?_
   | refine LeO.bind ?_ (fun _ => ?_)
theorem colophonref21_Set_Levels.mono : ∀ a0 a1 k, LeO (colophonref21_Set_Levels.f k a0 a1) (colophonref21_Set_Levels.f (k + 1) a0 a1) := by
 intro a0 a1 k
 obtain ⟨ih0, ih1, ih2, ih3, ih4⟩ := colophonref21_Set_Levels.mono_l k
 unfold colophonref21_Set_Levels.f
 repeat' first
   | (with_reducible exact ih0 _ _ _)
   | (with_reducible exact ih1 _ _ _ _)
   | (with_reducible exact ih2 _ _ _ _ _ _ _ _ _)
   | (with_reducible exact ih3 _ _ _ _ _ _ _ _ _ _)
   | (with_reducible exact ih4 _ _ _ _ _ _ _ _ _ _)
   | (with_reducible exact colophonref04_Lowers.mono _ _)
   | (with_reducible exact colophonref21_fits.mono _ _ _ _)
   | (with_reducible exact colophonref21_may.mono _ _)
   | (with_reducible exact LeO.refl _)
   | (with_reducible exact LeO.none _)
   | (with_reducible refine LeO.ite ?_ ?_)
   | (with_reducible refine LeO.bind ?_ (fun _ => ?_))
   | exact ih0 _ _ _
   | exact ih1 _ _ _ _
   | exact ih2 _ _ _ _ _ _ _ _ _
   | exact ih3 _ _ _ _ _ _ _ _ _ _
   | exact ih4 _ _ _ _ _ _ _ _ _ _
   | exact colophonref04_Lowers.mono _ _
   | exact colophonref21_fits.mono _ _ _ _
   | exact colophonref21_may.mono _ _
   | exact LeO.none _
   | refine LeO.ite ?_ ?_
   | refine LeO.bind ?_ (fun _ => ?_)
noncomputable def colophonref21_Set_Levels.T16 := rtab .any (opsOf Tryd.f18 16)
def colophonref21_Set_Levels.B16 : List Nat := [0, 0, 0, 6, 0, 0, 0, 96, 240, 496, 0, 1024, 0, 7168, 15360, 32752, 65535, 131071]
end Go.Proofs.YtenhfmlkdcfbbaaDoor.PHyphenPoints
