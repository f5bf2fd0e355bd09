-- Written by a copy of the print that this session has turned (wip/tools/patchprint.py): arrays as records.
import Derived.Test.YtohnllfbhlohfaaPRectPointsx0
import Derived.Test.YtohnllfbhlohfaaPRectPointsx2
import Derived.Test.YtohnllfbhlohfaaPRectPointsx3
import Derived.Test.YtohnllfbhlohfaaPRectPointsx4
import Derived.Test.YtohnllfbhlohfaaPRectPointsx5
import Derived.Test.YtohnllfbhlohfaaPRectPointsx6
namespace Go.Proofs.Ytohnllfbhlohfaa.PRectPoints
open Go.RowKit Go.Proofs.YtohnllfbhlohfaaW.PrintWords Go.Proofs.YtohnllfbhlohfaaW.PrintLast Go.Proofs.YtohnllfbhlohfaaW.PrintMore
attribute [local go_sem] max2_int min2_int max_two min_two max_three min_three max_four min_four   -- for this text's walks alone
set_option linter.unusedVariables false
set_option linter.unusedSimpArgs false

/-! ### colophonlaw03_RectPoints: function 5 -/
mutual
def colophonlaw03_RectPoints.j0 : Nat → Bool → Int → Int → Int → Int → Int → Int → Int → Int → Int → Int → Option (Bool)
  | 0, _, _, _, _, _, _, _, _, _, _, _ => none
  | k + 1, x25, x163000, x163001, x163002, x163003, x164000, x164001, x164002, x164003, x165000, x165001 => if x25 = true then ((rect_Meet.f k x163000 x163001 x163002 x163003 x164000 x164001 x164002 x164003).bind fun bt167 => ((rect_Join.f k x163000 x163001 x163002 x163003 x164000 x164001 x164002 x164003).bind fun bt173 => (if bt167.2.2.2.2 = true then (colophonlaw03_RectPoints.j1 k false) else (if bt173.2.2.2.2 = true then (colophonlaw03_RectPoints.j1 k false) else ((rect_Holds.f k x163000 x163001 x163002 x163003 x164000 x164001 x164002 x164003).bind fun t179 => (if t179 = true then (colophonlaw03_RectPoints.j1 k false) else ((colophonref03_May.f k x163000 x163001 x163002 x163003).bind fun t180 => (if t180 = true then ((colophonref03_May.f k x164000 x164001 x164002 x164003).bind fun t181 => (if t181 = true then (colophonlaw03_RectPoints.j1 k false) else ((colophonlaw03_wakes.f k).bind fun t182 => (colophonlaw03_RectPoints.j1 k t182)))) else ((colophonlaw03_wakes.f k).bind fun t183 => (colophonlaw03_RectPoints.j1 k t183)))))))))) else ((rect_Meet.f k x163000 x163001 x163002 x163003 x164000 x164001 x164002 x164003).bind fun bt184 => ((rect_Join.f k x163000 x163001 x163002 x163003 x164000 x164001 x164002 x164003).bind fun bt190 => ((colophonlaw03_in.f k x163000 x163001 x163002 x163003 x165000 x165001).bind fun t196 => (if t196 = true then ((colophonlaw03_in.f k x164000 x164001 x164002 x164003 x165000 x165001).bind fun t197 => (colophonlaw03_RectPoints.j2 k x165000 x165001 bt184.2.2.2.2 bt190.2.2.2.2 t197 x163000 x163001 x163002 x163003 x164000 x164001 x164002 x164003 bt184.1 bt184.2.1 bt184.2.2.1 bt184.2.2.2.1 bt190.1 bt190.2.1 bt190.2.2.1 bt190.2.2.2.1)) else (colophonlaw03_RectPoints.j2 k x165000 x165001 bt184.2.2.2.2 bt190.2.2.2.2 false x163000 x163001 x163002 x163003 x164000 x164001 x164002 x164003 bt184.1 bt184.2.1 bt184.2.2.1 bt184.2.2.2.1 bt190.1 bt190.2.1 bt190.2.2.1 bt190.2.2.2.1)))))
def colophonlaw03_RectPoints.j1 : Nat → Bool → Option (Bool)
  | 0, _ => none
  | k + 1, x6 => some x6
def colophonlaw03_RectPoints.j2 : Nat → Int → Int → Bool → Bool → Bool → Int → Int → Int → Int → Int → Int → Int → Int → Int → Int → Int → Int → Int → Int → Int → Int → Option (Bool)
  | 0, _, _, _, _, _, _, _, _, _, _, _, _, _, _, _, _, _, _, _, _, _ => none
  | k + 1, x11, x12, x14, x16, x17, x163000, x163001, x163002, x163003, x164000, x164001, x164002, x164003, x190000, x190001, x190002, x190003, x196000, x196001, x196002, x196003 => if x16 = true then (if x14 = true then ((colophonlaw03_in.f k x190000 x190001 x190002 x190003 x11 x12).bind fun t198 => (if (x17 != t198) = true then (colophonlaw03_RectPoints.j3 k x11 x12 true x163000 x163001 x163002 x163003 x164000 x164001 x164002 x164003) else ((colophonlaw03_in.f k x163000 x163001 x163002 x163003 x11 x12).bind fun t199 => (if t199 = true then ((colophonlaw03_in.f k x196000 x196001 x196002 x196003 x11 x12).bind fun t200 => (colophonlaw03_RectPoints.j3 k x11 x12 (!t200) x163000 x163001 x163002 x163003 x164000 x164001 x164002 x164003)) else ((colophonlaw03_in.f k x164000 x164001 x164002 x164003 x11 x12).bind fun t201 => (if t201 = true then ((colophonlaw03_in.f k x196000 x196001 x196002 x196003 x11 x12).bind fun t202 => (colophonlaw03_RectPoints.j3 k x11 x12 (!t202) x163000 x163001 x163002 x163003 x164000 x164001 x164002 x164003)) else (colophonlaw03_RectPoints.j3 k x11 x12 false x163000 x163001 x163002 x163003 x164000 x164001 x164002 x164003))))))) else (if (x17 != false) = true then (colophonlaw03_RectPoints.j3 k x11 x12 true x163000 x163001 x163002 x163003 x164000 x164001 x164002 x164003) else ((colophonlaw03_in.f k x163000 x163001 x163002 x163003 x11 x12).bind fun t203 => (if t203 = true then ((colophonlaw03_in.f k x196000 x196001 x196002 x196003 x11 x12).bind fun t204 => (colophonlaw03_RectPoints.j3 k x11 x12 (!t204) x163000 x163001 x163002 x163003 x164000 x164001 x164002 x164003)) else ((colophonlaw03_in.f k x164000 x164001 x164002 x164003 x11 x12).bind fun t205 => (if t205 = true then ((colophonlaw03_in.f k x196000 x196001 x196002 x196003 x11 x12).bind fun t206 => (colophonlaw03_RectPoints.j3 k x11 x12 (!t206) x163000 x163001 x163002 x163003 x164000 x164001 x164002 x164003)) else (colophonlaw03_RectPoints.j3 k x11 x12 false x163000 x163001 x163002 x163003 x164000 x164001 x164002 x164003))))))) else (colophonlaw03_RectPoints.j3 k x11 x12 true x163000 x163001 x163002 x163003 x164000 x164001 x164002 x164003)
def colophonlaw03_RectPoints.j3 : Nat → Int → Int → Bool → Int → Int → Int → Int → Int → Int → Int → Int → Option (Bool)
  | 0, _, _, _, _, _, _, _, _, _, _, _ => none
  | k + 1, x11, x12, x120, x163000, x163001, x163002, x163003, x164000, x164001, x164002, x164003 => if x120 = true then (some false) else ((rect_Holds.f k x163000 x163001 x163002 x163003 x164000 x164001 x164002 x164003).bind fun t207 => (if t207 = true then ((colophonlaw03_in.f k x164000 x164001 x164002 x164003 x11 x12).bind fun t208 => (if t208 = true then ((colophonlaw03_in.f k x163000 x163001 x163002 x163003 x11 x12).bind fun t209 => (if t209 = true then ((colophonlaw03_wakes.f k).bind fun t210 => (colophonlaw03_RectPoints.j4 k t210)) else (colophonlaw03_RectPoints.j4 k false))) else ((colophonlaw03_wakes.f k).bind fun t211 => (colophonlaw03_RectPoints.j4 k t211)))) else ((colophonlaw03_wakes.f k).bind fun t212 => (colophonlaw03_RectPoints.j4 k t212))))
def colophonlaw03_RectPoints.j4 : Nat → Bool → Option (Bool)
  | 0, _ => none
  | k + 1, x6 => some x6
end
def colophonlaw03_RectPoints.f (k : Nat) (a0_0 : Int) (a0_1 : Int) (a0_2 : Int) (a0_3 : Int) (a1_0 : Int) (a1_1 : Int) (a1_2 : Int) (a1_3 : Int) (a2_0 : Int) (a2_1 : Int) : Option (Bool) := (rect_May.f k a0_0 a0_1 a0_2 a0_3).bind fun t165 => (if t165 = true then ((rect_May.f k a1_0 a1_1 a1_2 a1_3).bind fun t166 => (colophonlaw03_RectPoints.j0 k (!t166) a0_0 a0_1 a0_2 a0_3 a1_0 a1_1 a1_2 a1_3 a2_0 a2_1)) else (colophonlaw03_RectPoints.j0 k true a0_0 a0_1 a0_2 a0_3 a1_0 a1_1 a1_2 a1_3 a2_0 a2_1))
theorem colophonlaw03_RectPoints.mono_l : ∀ k, (∀ y0 y1 y2 y3 y4 y5 y6 y7 y8 y9 y10, LeO (colophonlaw03_RectPoints.j0 k y0 y1 y2 y3 y4 y5 y6 y7 y8 y9 y10) (colophonlaw03_RectPoints.j0 (k + 1) y0 y1 y2 y3 y4 y5 y6 y7 y8 y9 y10)) ∧ (∀ y0, LeO (colophonlaw03_RectPoints.j1 k y0) (colophonlaw03_RectPoints.j1 (k + 1) y0)) ∧ (∀ y0 y1 y2 y3 y4 y5 y6 y7 y8 y9 y10 y11 y12 y13 y14 y15 y16 y17 y18 y19 y20, LeO (colophonlaw03_RectPoints.j2 k y0 y1 y2 y3 y4 y5 y6 y7 y8 y9 y10 y11 y12 y13 y14 y15 y16 y17 y18 y19 y20) (colophonlaw03_RectPoints.j2 (k + 1) y0 y1 y2 y3 y4 y5 y6 y7 y8 y9 y10 y11 y12 y13 y14 y15 y16 y17 y18 y19 y20)) ∧ (∀ y0 y1 y2 y3 y4 y5 y6 y7 y8 y9 y10, LeO (colophonlaw03_RectPoints.j3 k y0 y1 y2 y3 y4 y5 y6 y7 y8 y9 y10) (colophonlaw03_RectPoints.j3 (k + 1) y0 y1 y2 y3 y4 y5 y6 y7 y8 y9 y10)) ∧ (∀ y0, LeO (colophonlaw03_RectPoints.j4 k y0) (colophonlaw03_RectPoints.j4 (k + 1) y0))
  | 0 => ⟨fun _ _ _ _ _ _ _ _ _ _ _ r h => by simp [colophonlaw03_RectPoints.j0] at h, fun _ r h => by simp [colophonlaw03_RectPoints.j1] at h, fun _ _ _ _ _ _ _ _ _ _ _ _ _ _ _ _ _ _ _ _ _ r h => by simp [colophonlaw03_RectPoints.j2] at h, fun _ _ _ _ _ _ _ _ _ _ _ r h => by simp [colophonlaw03_RectPoints.j3] at h, fun _ r h => by simp [colophonlaw03_RectPoints.j4] at h⟩
  | k + 1 => by
    obtain ⟨ih0, ih1, ih2, ih3, ih4⟩ := colophonlaw03_RectPoints.mono_l k
    refine ⟨?_, ?_, ?_, ?_, ?_⟩
    · intro y0 y1 y2 y3 y4 y5 y6 y7 y8 y9 y10
      unfold colophonlaw03_RectPoints.j0
      repeat' first
      | (with_reducible exact ih0 _ _ _ _ _ _ _ _ _ _ _)
      | (with_reducible exact ih1 _)
      | (with_reducible exact ih2 _ _ _ _ _ _ _ _ _ _ _ _ _ _ _ _ _ _ _ _ _)
      | (with_reducible exact ih3 _ _ _ _ _ _ _ _ _ _ _)
      | (with_reducible exact ih4 _)
      | (with_reducible exact colophonlaw03_in.mono _ _ _ _ _ _ _)
      | (with_reducible exact colophonlaw03_wakes.mono _)
      | (with_reducible exact colophonref03_May.mono _ _ _ _ _)
      | (with_reducible exact rect_Holds.mono _ _ _ _ _ _ _ _ _)
      | (with_reducible exact rect_Join.mono _ _ _ _ _ _ _ _ _)
      | (with_reducible exact rect_May.mono _ _ _ _ _)
      | (with_reducible exact rect_Meet.mono _ _ _ _ _ _ _ _ _)
      | (with_reducible exact LeO.refl _)
      | (with_reducible exact LeO.none _)
      | (with_reducible refine LeO.ite ?_ ?_)
      | (with_reducible refine LeO.bind ?_ (fun _ => ?_))
      | exact ih0 _ _ _ _ _ _ _ _ _ _ _
      | exact ih1 _
      | exact ih2 _ _ _ _ _ _ _ _ _ _ _ _ _ _ _ _ _ _ _ _ _
      | exact ih3 _ _ _ _ _ _ _ _ _ _ _
      | exact ih4 _
      | exact colophonlaw03_in.mono _ _ _ _ _ _ _
      | exact colophonlaw03_wakes.mono _
      | exact colophonref03_May.mono _ _ _ _ _
      | exact rect_Holds.mono _ _ _ _ _ _ _ _ _
      | exact rect_Join.mono _ _ _ _ _ _ _ _ _
      | exact rect_May.mono _ _ _ _ _
      | exact rect_Meet.mono _ _ _ _ _ _ _ _ _
      | exact LeO.none _
      | refine LeO.ite ?_ ?_
      | refine LeO.bind ?_ (fun _ => ?_)
    · intro y0
      unfold colophonlaw03_RectPoints.j1
      repeat' first
      | (with_reducible exact ih0 _ _ _ _ _ _ _ _ _ _ _)
      | (with_reducible exact ih1 _)
      | (with_reducible exact ih2 _ _ _ _ _ _ _ _ _ _ _ _ _ _ _ _ _ _ _ _ _)
      | (with_reducible exact ih3 _ _ _ _ _ _ _ _ _ _ _)
      | (with_reducible exact ih4 _)
      | (with_reducible exact colophonlaw03_in.mono _ _ _ _ _ _ _)
      | (with_reducible exact colophonlaw03_wakes.mono _)
      | (with_reducible exact colophonref03_May.mono _ _ _ _ _)
      | (with_reducible exact rect_Holds.mono _ _ _ _ _ _ _ _ _)
      | (with_reducible exact rect_Join.mono _ _ _ _ _ _ _ _ _)
      | (with_reducible exact rect_May.mono _ _ _ _ _)
      | (with_reducible exact rect_Meet.mono _ _ _ _ _ _ _ _ _)
      | (with_reducible exact LeO.refl _)
      | (with_reducible exact LeO.none _)
      | (with_reducible refine LeO.ite ?_ ?_)
      | (with_reducible refine LeO.bind ?_ (fun _ => ?_))
      | exact ih0 _ _ _ _ _ _ _ _ _ _ _
      | exact ih1 _
      | exact ih2 _ _ _ _ _ _ _ _ _ _ _ _ _ _ _ _ _ _ _ _ _
      | exact ih3 _ _ _ _ _ _ _ _ _ _ _
      | exact ih4 _
      | exact colophonlaw03_in.mono _ _ _ _ _ _ _
      | exact colophonlaw03_wakes.mono _
      | exact colophonref03_May.mono _ _ _ _ _
      | exact rect_Holds.mono _ _ _ _ _ _ _ _ _
      | exact rect_Join.mono _ _ _ _ _ _ _ _ _
      | exact rect_May.mono _ _ _ _ _
      | exact rect_Meet.mono _ _ _ _ _ _ _ _ _
      | exact LeO.none _
      | refine LeO.ite ?_ ?_
      | refine LeO.bind ?_ (fun _ => ?_)
    · intro y0 y1 y2 y3 y4 y5 y6 y7 y8 y9 y10 y11 y12 y13 y14 y15 y16 y17 y18 y19 y20
      unfold colophonlaw03_RectPoints.j2
      repeat' first
      | (with_reducible exact ih0 _ _ _ _ _ _ _ _ _ _ _)
      | (with_reducible exact ih1 _)
      | (with_reducible exact ih2 _ _ _ _ _ _ _ _ _ _ _ _ _ _ _ _ _ _ _ _ _)
      | (with_reducible exact ih3 _ _ _ _ _ _ _ _ _ _ _)
      | (with_reducible exact ih4 _)
      | (with_reducible exact colophonlaw03_in.mono _ _ _ _ _ _ _)
      | (with_reducible exact colophonlaw03_wakes.mono _)
      | (with_reducible exact colophonref03_May.mono _ _ _ _ _)
      | (with_reducible exact rect_Holds.mono _ _ _ _ _ _ _ _ _)
      | (with_reducible exact rect_Join.mono _ _ _ _ _ _ _ _ _)
      | (with_reducible exact rect_May.mono _ _ _ _ _)
      | (with_reducible exact rect_Meet.mono _ _ _ _ _ _ _ _ _)
      | (with_reducible exact LeO.refl _)
      | (with_reducible exact LeO.none _)
      | (with_reducible refine LeO.ite ?_ ?_)
      | (with_reducible refine LeO.bind ?_ (fun _ => ?_))
      | exact ih0 _ _ _ _ _ _ _ _ _ _ _
      | exact ih1 _
      | exact ih2 _ _ _ _ _ _ _ _ _ _ _ _ _ _ _ _ _ _ _ _ _
      | exact ih3 _ _ _ _ _ _ _ _ _ _ _
      | exact ih4 _
      | exact colophonlaw03_in.mono _ _ _ _ _ _ _
      | exact colophonlaw03_wakes.mono _
      | exact colophonref03_May.mono _ _ _ _ _
      | exact rect_Holds.mono _ _ _ _ _ _ _ _ _
      | exact rect_Join.mono _ _ _ _ _ _ _ _ _
      | exact rect_May.mono _ _ _ _ _
      | exact rect_Meet.mono _ _ _ _ _ _ _ _ _
      | exact LeO.none _
      | refine LeO.ite ?_ ?_
      | refine LeO.bind ?_ (fun _ => ?_)
    · intro y0 y1 y2 y3 y4 y5 y6 y7 y8 y9 y10
      unfold colophonlaw03_RectPoints.j3
      repeat' first
      | (with_reducible exact ih0 _ _ _ _ _ _ _ _ _ _ _)
      | (with_reducible exact ih1 _)
      | (with_reducible exact ih2 _ _ _ _ _ _ _ _ _ _ _ _ _ _ _ _ _ _ _ _ _)
      | (with_reducible exact ih3 _ _ _ _ _ _ _ _ _ _ _)
      | (with_reducible exact ih4 _)
      | (with_reducible exact colophonlaw03_in.mono _ _ _ _ _ _ _)
      | (with_reducible exact colophonlaw03_wakes.mono _)
      | (with_reducible exact colophonref03_May.mono _ _ _ _ _)
      | (with_reducible exact rect_Holds.mono _ _ _ _ _ _ _ _ _)
      | (with_reducible exact rect_Join.mono _ _ _ _ _ _ _ _ _)
      | (with_reducible exact rect_May.mono _ _ _ _ _)
      | (with_reducible exact rect_Meet.mono _ _ _ _ _ _ _ _ _)
      | (with_reducible exact LeO.refl _)
      | (with_reducible exact LeO.none _)
      | (with_reducible refine LeO.ite ?_ ?_)
      | (with_reducible refine LeO.bind ?_ (fun _ => ?_))
      | exact ih0 _ _ _ _ _ _ _ _ _ _ _
      | exact ih1 _
      | exact ih2 _ _ _ _ _ _ _ _ _ _ _ _ _ _ _ _ _ _ _ _ _
      | exact ih3 _ _ _ _ _ _ _ _ _ _ _
      | exact ih4 _
      | exact colophonlaw03_in.mono _ _ _ _ _ _ _
      | exact colophonlaw03_wakes.mono _
      | exact colophonref03_May.mono _ _ _ _ _
      | exact rect_Holds.mono _ _ _ _ _ _ _ _ _
      | exact rect_Join.mono _ _ _ _ _ _ _ _ _
      | exact rect_May.mono _ _ _ _ _
      | exact rect_Meet.mono _ _ _ _ _ _ _ _ _
      | exact LeO.none _
      | refine LeO.ite ?_ ?_
      | refine LeO.bind ?_ (fun _ => ?_)
    · intro y0
      unfold colophonlaw03_RectPoints.j4
      repeat' first
      | (with_reducible exact ih0 _ _ _ _ _ _ _ _ _ _ _)
      | (with_reducible exact ih1 _)
      | (with_reducible exact ih2 _ _ _ _ _ _ _ _ _ _ _ _ _ _ _ _ _ _ _ _ _)
      | (with_reducible exact ih3 _ _ _ _ _ _ _ _ _ _ _)
      | (with_reducible exact ih4 _)
      | (with_reducible exact colophonlaw03_in.mono _ _ _ _ _ _ _)
      | (with_reducible exact colophonlaw03_wakes.mono _)
      | (with_reducible exact colophonref03_May.mono _ _ _ _ _)
      | (with_reducible exact rect_Holds.mono _ _ _ _ _ _ _ _ _)
      | (with_reducible exact rect_Join.mono _ _ _ _ _ _ _ _ _)
      | (with_reducible exact rect_May.mono _ _ _ _ _)
      | (with_reducible exact rect_Meet.mono _ _ _ _ _ _ _ _ _)
      | (with_reducible exact LeO.refl _)
      | (with_reducible exact LeO.none _)
      | (with_reducible refine LeO.ite ?_ ?_)
      | (with_reducible refine LeO.bind ?_ (fun _ => ?_))
      | exact ih0 _ _ _ _ _ _ _ _ _ _ _
      | exact ih1 _
      | exact ih2 _ _ _ _ _ _ _ _ _ _ _ _ _ _ _ _ _ _ _ _ _
      | exact ih3 _ _ _ _ _ _ _ _ _ _ _
      | exact ih4 _
      | exact colophonlaw03_in.mono _ _ _ _ _ _ _
      | exact colophonlaw03_wakes.mono _
      | exact colophonref03_May.mono _ _ _ _ _
      | exact rect_Holds.mono _ _ _ _ _ _ _ _ _
      | exact rect_Join.mono _ _ _ _ _ _ _ _ _
      | exact rect_May.mono _ _ _ _ _
      | exact rect_Meet.mono _ _ _ _ _ _ _ _ _
      | exact LeO.none _
      | refine LeO.ite ?_ ?_
      | refine LeO.bind ?_ (fun _ => ?_)
theorem colophonlaw03_RectPoints.mono : ∀ a0 a1 a2 a3 a4 a5 a6 a7 a8 a9 k, LeO (colophonlaw03_RectPoints.f k a0 a1 a2 a3 a4 a5 a6 a7 a8 a9) (colophonlaw03_RectPoints.f (k + 1) a0 a1 a2 a3 a4 a5 a6 a7 a8 a9) := by
  intro a0 a1 a2 a3 a4 a5 a6 a7 a8 a9 k
  obtain ⟨ih0, ih1, ih2, ih3, ih4⟩ := colophonlaw03_RectPoints.mono_l k
  unfold colophonlaw03_RectPoints.f
  repeat' first
      | (with_reducible exact ih0 _ _ _ _ _ _ _ _ _ _ _)
      | (with_reducible exact ih1 _)
      | (with_reducible exact ih2 _ _ _ _ _ _ _ _ _ _ _ _ _ _ _ _ _ _ _ _ _)
      | (with_reducible exact ih3 _ _ _ _ _ _ _ _ _ _ _)
      | (with_reducible exact ih4 _)
      | (with_reducible exact colophonlaw03_in.mono _ _ _ _ _ _ _)
      | (with_reducible exact colophonlaw03_wakes.mono _)
      | (with_reducible exact colophonref03_May.mono _ _ _ _ _)
      | (with_reducible exact rect_Holds.mono _ _ _ _ _ _ _ _ _)
      | (with_reducible exact rect_Join.mono _ _ _ _ _ _ _ _ _)
      | (with_reducible exact rect_May.mono _ _ _ _ _)
      | (with_reducible exact rect_Meet.mono _ _ _ _ _ _ _ _ _)
      | (with_reducible exact LeO.refl _)
      | (with_reducible exact LeO.none _)
      | (with_reducible refine LeO.ite ?_ ?_)
      | (with_reducible refine LeO.bind ?_ (fun _ => ?_))
      | exact ih0 _ _ _ _ _ _ _ _ _ _ _
      | exact ih1 _
      | exact ih2 _ _ _ _ _ _ _ _ _ _ _ _ _ _ _ _ _ _ _ _ _
      | exact ih3 _ _ _ _ _ _ _ _ _ _ _
      | exact ih4 _
      | exact colophonlaw03_in.mono _ _ _ _ _ _ _
      | exact colophonlaw03_wakes.mono _
      | exact colophonref03_May.mono _ _ _ _ _
      | exact rect_Holds.mono _ _ _ _ _ _ _ _ _
      | exact rect_Join.mono _ _ _ _ _ _ _ _ _
      | exact rect_May.mono _ _ _ _ _
      | exact rect_Meet.mono _ _ _ _ _ _ _ _ _
      | exact LeO.none _
      | refine LeO.ite ?_ ?_
      | refine LeO.bind ?_ (fun _ => ?_)
end Go.Proofs.Ytohnllfbhlohfaa.PRectPoints
