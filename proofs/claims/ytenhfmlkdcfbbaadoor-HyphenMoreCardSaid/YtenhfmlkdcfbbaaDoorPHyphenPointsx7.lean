/- A part of this claim's proof. -/
import Derived.Test.YtenhfmlkdcfbbaaDoorPHyphenPointsx0
import Derived.Test.YtenhfmlkdcfbbaaDoorPHyphenPointsx6
namespace Go.Proofs.YtenhfmlkdcfbbaaDoor.PHyphenPoints
open Go.RowKit Go.Proofs.YtenhfmlkdcfbbaaDoorW.PrintWords Go.Proofs.YtenhfmlkdcfbbaaDoorW.PrintLast Go.Proofs.YtenhfmlkdcfbbaaDoorW.PrintMore
attribute [local go_sem] max2_int min2_int max_two min_two max_three min_three max_four min_four   
set_option linter.unusedVariables false
set_option linter.unusedSimpArgs false
mutual
def colophonref04_Words.l0 : Nat → List Int → List (S69) → Int → Int → Option ((List (S69)))
 | 0, _, _, _, _ => none
 | k + 1, x0, x3, x4, x5 => if x5 ≤ (x0.length : Int) then (if x5 = (x0.length : Int) then (colophonref04_Words.j1 k x0 x3 x4 x5 true) else (if 0 ≤ x5 then (if x5 < (x0.length : Int) then ((colophonref04_Class.f k (rd x0 x5)).bind fun t171 => (colophonref04_Words.j1 k x0 x3 x4 x5 (t171 == 1))) else (none)) else (none))) else (some x3)
def colophonref04_Words.j1 : Nat → List Int → List (S69) → Int → Int → Bool → Option ((List (S69)))
 | 0, _, _, _, _, _ => none
 | k + 1, x0, x3, x4, x5, x6 => if x6 = true then (colophonref04_Words.j2 k x0 x3 x4 x5 x6 (decide (x4 ≥ 0))) else (colophonref04_Words.j2 k x0 x3 x4 x5 x6 false)
def colophonref04_Words.j2 : Nat → List Int → List (S69) → Int → Int → Bool → Bool → Option ((List (S69)))
 | 0, _, _, _, _, _, _ => none
 | k + 1, x0, x3, x4, x5, x6, x29 => if x29 = true then (if x3.length < 8796093022208 then ((some (x3 ++ [(⟨x4, x5⟩ : S69)] : List (S69))).bind fun y172 => (if x6 = true then (colophonref04_Words.l0 k x0 y172 (-1) (wrap64 (x5 + 1))) else (if (-1) < 0 then (colophonref04_Words.l0 k x0 y172 x5 (wrap64 (x5 + 1))) else (colophonref04_Words.l0 k x0 y172 (-1) (wrap64 (x5 + 1)))))) else (none)) else (if x6 = true then (colophonref04_Words.l0 k x0 x3 x4 (wrap64 (x5 + 1))) else (if x4 < 0 then (colophonref04_Words.l0 k x0 x3 x5 (wrap64 (x5 + 1))) else (colophonref04_Words.l0 k x0 x3 x4 (wrap64 (x5 + 1)))))
end
def colophonref04_Words.f (k : Nat) (l0 : List Int) : Option ((List (S69))) := colophonref04_Words.l0 k l0 ([] : List (S69)) (-1) 0
theorem colophonref04_Words.mono_l : ∀ k, (∀ y0 y1 y2 y3, LeO (colophonref04_Words.l0 k y0 y1 y2 y3) (colophonref04_Words.l0 (k + 1) y0 y1 y2 y3)) ∧ (∀ y0 y1 y2 y3 y4, LeO (colophonref04_Words.j1 k y0 y1 y2 y3 y4) (colophonref04_Words.j1 (k + 1) y0 y1 y2 y3 y4)) ∧ (∀ y0 y1 y2 y3 y4 y5, LeO (colophonref04_Words.j2 k y0 y1 y2 y3 y4 y5) (colophonref04_Words.j2 (k + 1) y0 y1 y2 y3 y4 y5))
 | 0 => ⟨fun _ _ _ _ r h => by simp [colophonref04_Words.l0] at h, fun _ _ _ _ _ r h => by simp [colophonref04_Words.j1] at h, fun _ _ _ _ _ _ r h => by simp [colophonref04_Words.j2] at h⟩
 | k + 1 => by
  obtain ⟨ih0, ih1, ih2⟩ := colophonref04_Words.mono_l k
  refine ⟨?_, ?_, ?_⟩
  ·intro y0 y1 y2 y3
   unfold colophonref04_Words.l0
   repeat' first
   | (with_reducible exact ih0 _ _ _ _)
   | (with_reducible exact ih1 _ _ _ _ _)
   | (with_reducible exact ih2 _ _ _ _ _ _)
   | (with_reducible exact colophonref04_Class.mono _ _)
   | (with_reducible exact LeO.refl _)
   | (with_reducible exact LeO.none _)
   | (with_reducible refine LeO.ite ?_ ?_)
   | (with_reducible refine LeO.bind ?_ (fun _ => ?_))
   | exact ih0 _ _ _ _
   | exact ih1 _ _ _ _ _
   | exact ih2 _ _ _ _ _ _
   | exact colophonref04_Class.mono _ _
   | exact LeO.none _
   | refine LeO.ite ?_ ?_
   | refine LeO.bind ?_ (fun _ => ?_)
  ·intro y0 y1 y2 y3 y4
   unfold colophonref04_Words.j1
   repeat' first
   | (with_reducible exact ih0 _ _ _ _)
   | (with_reducible exact ih1 _ _ _ _ _)
   | (with_reducible exact ih2 _ _ _ _ _ _)
   | (with_reducible exact colophonref04_Class.mono _ _)
   | (with_reducible exact LeO.refl _)
   | (with_reducible exact LeO.none _)
   | (with_reducible refine LeO.ite ?_ ?_)
   | (with_reducible refine LeO.bind ?_ (fun _ => ?_))
   | exact ih0 _ _ _ _
   | exact ih1 _ _ _ _ _
   | exact ih2 _ _ _ _ _ _
   | exact colophonref04_Class.mono _ _
   | exact LeO.none _
   | refine LeO.ite ?_ ?_
   | refine LeO.bind ?_ (fun _ => ?_)
  ·intro y0 y1 y2 y3 y4 y5
   unfold colophonref04_Words.j2
   repeat' first
   | (with_reducible exact ih0 _ _ _ _)
   | (with_reducible exact ih1 _ _ _ _ _)
   | (with_reducible exact ih2 _ _ _ _ _ _)
   | (with_reducible exact colophonref04_Class.mono _ _)
   | (with_reducible exact LeO.refl _)
   | (with_reducible exact LeO.none _)
   | (with_reducible refine LeO.ite ?_ ?_)
   | (with_reducible refine LeO.bind ?_ (fun _ => ?_))
   | exact ih0 _ _ _ _
   | exact ih1 _ _ _ _ _
   | exact ih2 _ _ _ _ _ _
   | exact colophonref04_Class.mono _ _
   | exact LeO.none _
   | refine LeO.ite ?_ ?_
   | refine LeO.bind ?_ (fun _ => ?_)
theorem colophonref04_Words.mono : ∀ a0 k, LeO (colophonref04_Words.f k a0) (colophonref04_Words.f (k + 1) a0) := by
 intro a0 k
 obtain ⟨ih0, ih1, ih2⟩ := colophonref04_Words.mono_l k
 unfold colophonref04_Words.f
 repeat' first
   | (with_reducible exact ih0 _ _ _ _)
   | (with_reducible exact ih1 _ _ _ _ _)
   | (with_reducible exact ih2 _ _ _ _ _ _)
   | (with_reducible exact colophonref04_Class.mono _ _)
   | (with_reducible exact LeO.refl _)
   | (with_reducible exact LeO.none _)
   | (with_reducible refine LeO.ite ?_ ?_)
   | (with_reducible refine LeO.bind ?_ (fun _ => ?_))
   | exact ih0 _ _ _ _
   | exact ih1 _ _ _ _ _
   | exact ih2 _ _ _ _ _ _
   | exact colophonref04_Class.mono _ _
   | exact LeO.none _
   | refine LeO.ite ?_ ?_
   | refine LeO.bind ?_ (fun _ => ?_)
def colophonref04_Lower.f (a0 : Int) : Option (Int) := if a0 ≥ 65 then (if a0 ≤ 90 then (some (wrap64 (a0 + 32))) else (if a0 ≥ 192 then (if a0 ≤ 222 then (if a0 = 215 then (some a0) else (some (wrap64 (a0 + 32)))) else (some a0)) else (some a0))) else (if a0 ≥ 192 then (if a0 ≤ 222 then (if a0 = 215 then (some a0) else (some (wrap64 (a0 + 32)))) else (some a0)) else (some a0))
set_option maxHeartbeats 8000000 in
set_option maxRecDepth 100000 in
theorem colophonref04_Lower.calls (a0 : Int) (r : Int) (w : World) (h : colophonref04_Lower.f a0 = some r) :
  Calls Tryd.prog 22 #[.int .i64 a0] w fun e w' => e = .returned (.int .i64 r) ∧ Drawn0 w w' := by
 have H : (if a0 ≥ 65 then (if a0 ≤ 90 then (some (wrap64 (a0 + 32))) else (if a0 ≥ 192 then (if a0 ≤ 222 then (if a0 = 215 then (some a0) else (some (wrap64 (a0 + 32)))) else (some a0)) else (some a0))) else (if a0 ≥ 192 then (if a0 ≤ 222 then (if a0 = 215 then (some a0) else (some (wrap64 (a0 + 32)))) else (some a0)) else (some a0))) = some r := h
 clear h
 by_cases c2 : a0 ≥ 65
 ·rw [if_pos c2] at H
  have c2b0 : decide (65 ≤ a0) = true := decide_eq_true c2
  clear c2
  by_cases c3 : a0 ≤ 90
  ·rw [if_pos c3] at H
   have c3b0 : decide (a0 ≤ 90) = true := decide_eq_true c3
   clear c3
   obtain rfl := Option.some.inj H
   go_enter Tryd.func22, Tryd.ntmps22
   go_wp2
   go_ret
   exact ⟨by first | rfl | (simp; done) | (simp [*]; done), by repeat (first | exact Drawn0.refl _ | apply Drawn0.step)⟩
  ·rw [if_neg c3] at H
   have c3b0 : decide (a0 ≤ 90) = false := decide_eq_false c3
   clear c3
   by_cases c4 : a0 ≥ 192
   ·rw [if_pos c4] at H
    have c4b0 : decide (192 ≤ a0) = true := decide_eq_true c4
    clear c4
    by_cases c5 : a0 ≤ 222
    ·rw [if_pos c5] at H
     have c5b0 : decide (a0 ≤ 222) = true := decide_eq_true c5
     clear c5
     by_cases c6 : a0 = 215
     ·rw [if_pos c6] at H
      have c6b0 : (a0 == 215) = true := beq_iff_eq.mpr c6
      have c6b1 : (a0 != 215) = false := bne_eq_false_iff_eq.mpr c6
      clear c6
      obtain rfl := Option.some.inj H
      go_enter Tryd.func22, Tryd.ntmps22
      go_wp2
      go_ret
      exact ⟨by first | rfl | (simp; done) | (simp [*]; done), by repeat (first | exact Drawn0.refl _ | apply Drawn0.step)⟩
     ·rw [if_neg c6] at H
      have c6b0 : (a0 == 215) = false := beq_eq_false_iff_ne.mpr c6
      have c6b1 : (a0 != 215) = true := bne_iff_ne.mpr c6
      obtain rfl := Option.some.inj H
      go_enter Tryd.func22, Tryd.ntmps22
      go_wp2
      go_ret
      exact ⟨by first | rfl | (simp; done) | (simp [*]; done), by repeat (first | exact Drawn0.refl _ | apply Drawn0.step)⟩
    ·rw [if_neg c5] at H
     have c5b0 : decide (a0 ≤ 222) = false := decide_eq_false c5
     clear c5
     obtain rfl := Option.some.inj H
     go_enter Tryd.func22, Tryd.ntmps22
     go_wp2
     go_ret
     exact ⟨by first | rfl | (simp; done) | (simp [*]; done), by repeat (first | exact Drawn0.refl _ | apply Drawn0.step)⟩
   ·rw [if_neg c4] at H
    have c4b0 : decide (192 ≤ a0) = false := decide_eq_false c4
    clear c4
    obtain rfl := Option.some.inj H
    go_enter Tryd.func22, Tryd.ntmps22
    go_wp2
    go_ret
    exact ⟨by first | rfl | (simp; done) | (simp [*]; done), by repeat (first | exact Drawn0.refl _ | apply Drawn0.step)⟩
 ·rw [if_neg c2] at H
  have c2b0 : decide (65 ≤ a0) = false := decide_eq_false c2
  clear c2
  by_cases c7 : a0 ≥ 192
  ·rw [if_pos c7] at H
   have c7b0 : decide (192 ≤ a0) = true := decide_eq_true c7
   clear c7
   by_cases c8 : a0 ≤ 222
   ·rw [if_pos c8] at H
    have c8b0 : decide (a0 ≤ 222) = true := decide_eq_true c8
    clear c8
    by_cases c9 : a0 = 215
    ·rw [if_pos c9] at H
     have c9b0 : (a0 == 215) = true := beq_iff_eq.mpr c9
     have c9b1 : (a0 != 215) = false := bne_eq_false_iff_eq.mpr c9
     clear c9
     obtain rfl := Option.some.inj H
     go_enter Tryd.func22, Tryd.ntmps22
     go_wp2
     go_ret
     exact ⟨by first | rfl | (simp; done) | (simp [*]; done), by repeat (first | exact Drawn0.refl _ | apply Drawn0.step)⟩
    ·rw [if_neg c9] at H
     have c9b0 : (a0 == 215) = false := beq_eq_false_iff_ne.mpr c9
     have c9b1 : (a0 != 215) = true := bne_iff_ne.mpr c9
     obtain rfl := Option.some.inj H
     go_enter Tryd.func22, Tryd.ntmps22
     go_wp2
     go_ret
     exact ⟨by first | rfl | (simp; done) | (simp [*]; done), by repeat (first | exact Drawn0.refl _ | apply Drawn0.step)⟩
   ·rw [if_neg c8] at H
    have c8b0 : decide (a0 ≤ 222) = false := decide_eq_false c8
    clear c8
    obtain rfl := Option.some.inj H
    go_enter Tryd.func22, Tryd.ntmps22
    go_wp2
    go_ret
    exact ⟨by first | rfl | (simp; done) | (simp [*]; done), by repeat (first | exact Drawn0.refl _ | apply Drawn0.step)⟩
  ·rw [if_neg c7] at H
   have c7b0 : decide (192 ≤ a0) = false := decide_eq_false c7
   clear c7
   obtain rfl := Option.some.inj H
   go_enter Tryd.func22, Tryd.ntmps22
   go_wp2
   go_ret
   exact ⟨by first | rfl | (simp; done) | (simp [*]; done), by repeat (first | exact Drawn0.refl _ | apply Drawn0.step)⟩
def colophonref21_Letter.f (k : Nat) (a0 : Int) : Option (Bool) := (colophonref04_Class.f k a0).bind fun t175 => (if t175 = 2 then ((colophonref04_Lower.f a0).bind fun t176 => (some (t176 == a0))) else (some false))
theorem colophonref21_Letter.mono : ∀ a0 k, LeO (colophonref21_Letter.f k a0) (colophonref21_Letter.f (k + 1) a0) := by
 intro a0 k
 unfold colophonref21_Letter.f
 repeat' first
   | (with_reducible exact colophonref04_Class.mono _ _)
   | (with_reducible exact LeO.refl _)
   | (with_reducible exact LeO.none _)
   | (with_reducible refine LeO.ite ?_ ?_)
   | (with_reducible refine LeO.bind ?_ (fun _ => ?_))
   | exact colophonref04_Class.mono _ _
   | exact LeO.none _
   | refine LeO.ite ?_ ?_
   | refine LeO.bind ?_ (fun _ => ?_)
end Go.Proofs.YtenhfmlkdcfbbaaDoor.PHyphenPoints
