/- A part of this claim's proof. -/
import Derived.Test.YtenhfmlkdcfbbaaDoorPHyphenPointsx0
import Derived.Test.YtenhfmlkdcfbbaaDoorPHyphenPointsx3
namespace Go.Proofs.YtenhfmlkdcfbbaaDoor.PHyphenPoints
open Go.RowKit Go.Proofs.YtenhfmlkdcfbbaaDoorW.PrintWords Go.Proofs.YtenhfmlkdcfbbaaDoorW.PrintLast Go.Proofs.YtenhfmlkdcfbbaaDoorW.PrintMore
attribute [local go_sem] max2_int min2_int max_two min_two max_three min_three max_four min_four   
set_option linter.unusedVariables false
set_option linter.unusedSimpArgs false
mutual
def colophonref04_Class.j0 : Nat → Int → Bool → Option (Int)
 | 0, _, _ => none
 | k + 1, x0, x7 => if x7 = true then (some 1) else (if x0 ≥ 65 then (if x0 ≤ 90 then (colophonref04_Class.j1 k x0 true) else (if x0 ≥ 97 then (if x0 ≤ 122 then (colophonref04_Class.j1 k x0 true) else (if x0 ≥ 192 then (if x0 ≤ 255 then (if x0 = 215 then (colophonref04_Class.j1 k x0 false) else (colophonref04_Class.j1 k x0 (x0 != 247))) else (colophonref04_Class.j1 k x0 false)) else (colophonref04_Class.j1 k x0 false))) else (if x0 ≥ 192 then (if x0 ≤ 255 then (if x0 = 215 then (colophonref04_Class.j1 k x0 false) else (colophonref04_Class.j1 k x0 (x0 != 247))) else (colophonref04_Class.j1 k x0 false)) else (colophonref04_Class.j1 k x0 false)))) else (if x0 ≥ 97 then (if x0 ≤ 122 then (colophonref04_Class.j1 k x0 true) else (if x0 ≥ 192 then (if x0 ≤ 255 then (if x0 = 215 then (colophonref04_Class.j1 k x0 false) else (colophonref04_Class.j1 k x0 (x0 != 247))) else (colophonref04_Class.j1 k x0 false)) else (colophonref04_Class.j1 k x0 false))) else (if x0 ≥ 192 then (if x0 ≤ 255 then (if x0 = 215 then (colophonref04_Class.j1 k x0 false) else (colophonref04_Class.j1 k x0 (x0 != 247))) else (colophonref04_Class.j1 k x0 false)) else (colophonref04_Class.j1 k x0 false))))
def colophonref04_Class.j1 : Nat → Int → Bool → Option (Int)
 | 0, _, _ => none
 | k + 1, x0, x22 => if x22 = true then (some 2) else (if x0 ≥ 48 then (colophonref04_Class.j2 k x0 (decide (x0 ≤ 57))) else (colophonref04_Class.j2 k x0 false))
def colophonref04_Class.j2 : Nat → Int → Bool → Option (Int)
 | 0, _, _ => none
 | k + 1, x0, x53 => if x53 = true then (some 3) else (if x0 < 32 then (some 4) else (if x0 ≥ 127 then (if x0 ≤ 159 then (some 4) else (some 5)) else (some 5)))
end
def colophonref04_Class.f (k : Nat) (a0 : Int) : Option (Int) := (colophonref04_Is.f a0).bind fun t169 => (if t169 = true then (if a0 = 9 then (colophonref04_Class.j0 k a0 true) else (if a0 = 10 then (colophonref04_Class.j0 k a0 true) else (if a0 = 13 then (colophonref04_Class.j0 k a0 true) else (colophonref04_Class.j0 k a0 (a0 == 32))))) else (some 0))
theorem colophonref04_Class.mono_l : ∀ k, (∀ y0 y1, LeO (colophonref04_Class.j0 k y0 y1) (colophonref04_Class.j0 (k + 1) y0 y1)) ∧ (∀ y0 y1, LeO (colophonref04_Class.j1 k y0 y1) (colophonref04_Class.j1 (k + 1) y0 y1)) ∧ (∀ y0 y1, LeO (colophonref04_Class.j2 k y0 y1) (colophonref04_Class.j2 (k + 1) y0 y1))
 | 0 => ⟨fun _ _ r h => by simp [colophonref04_Class.j0] at h, fun _ _ r h => by simp [colophonref04_Class.j1] at h, fun _ _ r h => by simp [colophonref04_Class.j2] at h⟩
 | k + 1 => by
  obtain ⟨ih0, ih1, ih2⟩ := colophonref04_Class.mono_l k
  refine ⟨?_, ?_, ?_⟩
  ·intro y0 y1
   unfold colophonref04_Class.j0
   repeat' first
   |(with_reducible exact ih0 _ _)
   |(with_reducible exact ih1 _ _)
   |(with_reducible exact ih2 _ _)
   |(with_reducible exact LeO.refl _)
   |(with_reducible exact LeO.none _)
   |(with_reducible refine LeO.ite ?_ ?_)
   |(with_reducible refine LeO.bind ?_ (fun _ => ?_))
   | exact ih0 _ _
   | exact ih1 _ _
   | exact ih2 _ _
   | exact LeO.none _
   | refine LeO.ite ?_ ?_
   | refine LeO.bind ?_ (fun _ => ?_)
  ·intro y0 y1
   unfold colophonref04_Class.j1
   repeat' first
   |(with_reducible exact ih0 _ _)
   |(with_reducible exact ih1 _ _)
   |(with_reducible exact ih2 _ _)
   |(with_reducible exact LeO.refl _)
   |(with_reducible exact LeO.none _)
   |(with_reducible refine LeO.ite ?_ ?_)
   |(with_reducible refine LeO.bind ?_ (fun _ => ?_))
   | exact ih0 _ _
   | exact ih1 _ _
   | exact ih2 _ _
   | exact LeO.none _
   | refine LeO.ite ?_ ?_
   | refine LeO.bind ?_ (fun _ => ?_)
  ·intro y0 y1
   unfold colophonref04_Class.j2
   repeat' first
   |(with_reducible exact ih0 _ _)
   |(with_reducible exact ih1 _ _)
   |(with_reducible exact ih2 _ _)
   |(with_reducible exact LeO.refl _)
   |(with_reducible exact LeO.none _)
   |(with_reducible refine LeO.ite ?_ ?_)
   |(with_reducible refine LeO.bind ?_ (fun _ => ?_))
   | exact ih0 _ _
   | exact ih1 _ _
   | exact ih2 _ _
   | exact LeO.none _
   | refine LeO.ite ?_ ?_
   | refine LeO.bind ?_ (fun _ => ?_)
theorem colophonref04_Class.mono : ∀ a0 k, LeO (colophonref04_Class.f k a0) (colophonref04_Class.f (k + 1) a0) := by
 intro a0 k
 obtain ⟨ih0, ih1, ih2⟩ := colophonref04_Class.mono_l k
 unfold colophonref04_Class.f
 repeat' first
   |(with_reducible exact ih0 _ _)
   |(with_reducible exact ih1 _ _)
   |(with_reducible exact ih2 _ _)
   |(with_reducible exact LeO.refl _)
   |(with_reducible exact LeO.none _)
   |(with_reducible refine LeO.ite ?_ ?_)
   |(with_reducible refine LeO.bind ?_ (fun _ => ?_))
   | exact ih0 _ _
   | exact ih1 _ _
   | exact ih2 _ _
   | exact LeO.none _
   | refine LeO.ite ?_ ?_
   | refine LeO.bind ?_ (fun _ => ?_)
set_option maxHeartbeats 8000000 in
set_option maxRecDepth 100000 in
theorem colophonref04_Class.calls (k : Nat) (a0 : Int) (r : Int) (w : World) (h : colophonref04_Class.f k a0 = some r) :
  Calls Tryd.prog 21 #[.int .i64 a0] w fun e w' => e = .returned (.int .i64 r) ∧ Drawn0 w w' := by
 have H : ((colophonref04_Is.f a0).bind fun t169 => (if t169 = true then (if a0 = 9 then (colophonref04_Class.j0 k a0 true) else (if a0 = 10 then (colophonref04_Class.j0 k a0 true) else (if a0 = 13 then (colophonref04_Class.j0 k a0 true) else (colophonref04_Class.j0 k a0 (a0 == 32))))) else (some 0))) = some r := h
 clear h
 replace H := Option.bind_eq_some_iff.mp H
 obtain ⟨t169, A20, H⟩ := H
 replace H : (if t169 = true then (if a0 = 9 then (colophonref04_Class.j0 k a0 true) else (if a0 = 10 then (colophonref04_Class.j0 k a0 true) else (if a0 = 13 then (colophonref04_Class.j0 k a0 true) else (colophonref04_Class.j0 k a0 (a0 == 32))))) else (some 0)) = some r := H
 have A2 := Aside0.mk A20
 clear A20
 by_cases c3 : t169 = true
 ·subst c3
  have H1 : (if a0 = 9 then (colophonref04_Class.j0 k a0 true) else (if a0 = 10 then (colophonref04_Class.j0 k a0 true) else (if a0 = 13 then (colophonref04_Class.j0 k a0 true) else (colophonref04_Class.j0 k a0 (a0 == 32))))) = some r := by rw [if_pos rfl] at H; exact H
  clear H
  have H := H1
  clear H1
  have HC4 := Aside0.mk H
  clear H
  go_enter Tryd.func21, Tryd.ntmps21
  go_upto_region 3 with (first | ((with_reducible refine gate_callee (f := 40) rfl ?_); refine goesL_ (some 5) rfl rfl Tryd.func40 (by kernel_rfl) rfl #[.int .i64 a0] rfl (by (try simp only [List.map_toArray, List.map_cons, List.map_nil]); first | done | rfl | (simp only [List.length_drop, List.length_take]; rfl)) ?_; (with_reducible refine (colophonref04_Is.calls a0 true _ A2.out).mono ?_); rintro e w' ⟨rfl, ⟨nd, rfl⟩⟩; refine ⟨_, rfl, ?_⟩))
  (try simp only [Act.put, List.setIfInBounds_toArray, List.set_cons_zero, List.set_cons_succ])
  go_cut [7] (fun v7 wc => ∃ (kq : Nat) (x7_3 : Bool), v7 = .bool x7_3 ∧ Aside0 (colophonref04_Class.j0 kq a0 x7_3 = some r) ∧ Aside0 (kq ≤ k) ∧ Drawn0 w wc)
  case first =>
   have H := HC4.out
   clear HC4
   by_cases c5 : a0 = 9
   ·rw [if_pos c5] at H
    have c5b0 : (a0 == 9) = true := beq_iff_eq.mpr c5
    have c5b1 : (a0 != 9) = false := bne_eq_false_iff_eq.mpr c5
    clear c5
    (first | rw [c5b0] | (simp only [i64_w, i32_w]; rw [c5b0]) | skip)
    have H' := Aside0.mk H
    clear H
    go_wp2
    go_meet
    case rel => exact ⟨_, (true), (by first | rfl | (simp; done) | (simp [*]; done)), H', ⟨by first | omega | exact Nat.le_refl _⟩, by repeat (first | exact Drawn0.refl _ | apply Drawn0.step)⟩
   ·rw [if_neg c5] at H
    have c5b0 : (a0 == 9) = false := beq_eq_false_iff_ne.mpr c5
    have c5b1 : (a0 != 9) = true := bne_iff_ne.mpr c5
    (first | rw [c5b0] | (simp only [i64_w, i32_w]; rw [c5b0]) | skip)
    by_cases c6 : a0 = 10
    ·rw [if_pos c6] at H
     have c6b0 : (a0 == 10) = true := beq_iff_eq.mpr c6
     have c6b1 : (a0 != 10) = false := bne_eq_false_iff_eq.mpr c6
     clear c6
     have H' := Aside0.mk H
     clear H
     go_wp2
     go_meet
     case rel => exact ⟨_, (true), (by first | rfl | (simp; done) | (simp [*]; done)), H', ⟨by first | omega | exact Nat.le_refl _⟩, by repeat (first | exact Drawn0.refl _ | apply Drawn0.step)⟩
    ·rw [if_neg c6] at H
     have c6b0 : (a0 == 10) = false := beq_eq_false_iff_ne.mpr c6
     have c6b1 : (a0 != 10) = true := bne_iff_ne.mpr c6
     by_cases c7 : a0 = 13
     ·rw [if_pos c7] at H
      have c7b0 : (a0 == 13) = true := beq_iff_eq.mpr c7
      have c7b1 : (a0 != 13) = false := bne_eq_false_iff_eq.mpr c7
      clear c7
      have H' := Aside0.mk H
      clear H
      go_wp2
      go_meet
      case rel => exact ⟨_, (true), (by first | rfl | (simp; done) | (simp [*]; done)), H', ⟨by first | omega | exact Nat.le_refl _⟩, by repeat (first | exact Drawn0.refl _ | apply Drawn0.step)⟩
     ·rw [if_neg c7] at H
      have c7b0 : (a0 == 13) = false := beq_eq_false_iff_ne.mpr c7
      have c7b1 : (a0 != 13) = true := bne_iff_ne.mpr c7
      have H' := Aside0.mk H
      clear H
      go_wp2
      go_meet
      case rel => exact ⟨_, ((a0 == 32)), (by first | rfl | (simp; done) | (simp [*]; done)), H', ⟨by first | omega | exact Nat.le_refl _⟩, by repeat (first | exact Drawn0.refl _ | apply Drawn0.step)⟩
  case rest =>
   clear HC4
   obtain ⟨kq, x7_3, rfl, HA, HJ3, ⟨mc3, rfl⟩⟩ := hcut
   cases kq with
   | zero => exact absurd HA.out (by simp [colophonref04_Class.j0])
   | succ kj3 =>
    have H := HA.out
    clear HA
    simp only [colophonref04_Class.j0] at H
    by_cases c8 : x7_3 = true
    ·subst c8
     have H1 : (some 1) = some r := by rw [if_pos rfl] at H; exact H
     clear H
     have H := H1
     clear H1
     obtain rfl := Option.some.inj H
     go_wp2
     go_ret
     exact ⟨by first | rfl | (simp; done) | (simp [*]; done), by repeat (first | exact Drawn0.refl _ | apply Drawn0.step)⟩
    ·replace c8 := Bool.eq_false_iff.mpr c8
     subst c8
     have H1 : (if a0 ≥ 65 then (if a0 ≤ 90 then (colophonref04_Class.j1 kj3 a0 true) else (if a0 ≥ 97 then (if a0 ≤ 122 then (colophonref04_Class.j1 kj3 a0 true) else (if a0 ≥ 192 then (if a0 ≤ 255 then (if a0 = 215 then (colophonref04_Class.j1 kj3 a0 false) else (colophonref04_Class.j1 kj3 a0 (a0 != 247))) else (colophonref04_Class.j1 kj3 a0 false)) else (colophonref04_Class.j1 kj3 a0 false))) else (if a0 ≥ 192 then (if a0 ≤ 255 then (if a0 = 215 then (colophonref04_Class.j1 kj3 a0 false) else (colophonref04_Class.j1 kj3 a0 (a0 != 247))) else (colophonref04_Class.j1 kj3 a0 false)) else (colophonref04_Class.j1 kj3 a0 false)))) else (if a0 ≥ 97 then (if a0 ≤ 122 then (colophonref04_Class.j1 kj3 a0 true) else (if a0 ≥ 192 then (if a0 ≤ 255 then (if a0 = 215 then (colophonref04_Class.j1 kj3 a0 false) else (colophonref04_Class.j1 kj3 a0 (a0 != 247))) else (colophonref04_Class.j1 kj3 a0 false)) else (colophonref04_Class.j1 kj3 a0 false))) else (if a0 ≥ 192 then (if a0 ≤ 255 then (if a0 = 215 then (colophonref04_Class.j1 kj3 a0 false) else (colophonref04_Class.j1 kj3 a0 (a0 != 247))) else (colophonref04_Class.j1 kj3 a0 false)) else (colophonref04_Class.j1 kj3 a0 false)))) = some r := by rw [if_neg (show ¬ (false = true) by decide)] at H; exact H
     clear H
     have H := H1
     clear H1
     have HC9 := Aside0.mk H
     clear H
     go_upto_region 5 with (fail)
     go_cut [22] (fun v22 wc => ∃ (kq : Nat) (x22_8 : Bool), v22 = .bool x22_8 ∧ Aside0 (colophonref04_Class.j1 kq a0 x22_8 = some r) ∧ Aside0 (kq ≤ kj3) ∧ Drawn0 w wc)
     case first =>
      have H := HC9.out
      clear HC9
      by_cases c10 : a0 ≥ 65
      ·rw [if_pos c10] at H
       have c10b0 : decide (65 ≤ a0) = true := decide_eq_true c10
       clear c10
       (first | rw [c10b0] | (simp only [i64_w, i32_w]; rw [c10b0]) | skip)
       by_cases c11 : a0 ≤ 90
       ·rw [if_pos c11] at H
        have c11b0 : decide (a0 ≤ 90) = true := decide_eq_true c11
        clear c11
        have H' := Aside0.mk H
        clear H
        go_wp2
        go_meet
        case rel => exact ⟨_, (true), (by first | rfl | (simp; done) | (simp [*]; done)), H', ⟨by have := HJ3.out; first | omega | exact Nat.le_refl _⟩, by repeat (first | exact Drawn0.refl _ | apply Drawn0.step)⟩
       ·rw [if_neg c11] at H
        have c11b0 : decide (a0 ≤ 90) = false := decide_eq_false c11
        clear c11
        by_cases c12 : a0 ≥ 97
        ·rw [if_pos c12] at H
         have c12b0 : decide (97 ≤ a0) = true := decide_eq_true c12
         clear c12
         by_cases c13 : a0 ≤ 122
         ·rw [if_pos c13] at H
          have c13b0 : decide (a0 ≤ 122) = true := decide_eq_true c13
          clear c13
          have H' := Aside0.mk H
          clear H
          go_wp2
          go_meet
          case rel => exact ⟨_, (true), (by first | rfl | (simp; done) | (simp [*]; done)), H', ⟨by have := HJ3.out; first | omega | exact Nat.le_refl _⟩, by repeat (first | exact Drawn0.refl _ | apply Drawn0.step)⟩
         ·rw [if_neg c13] at H
          have c13b0 : decide (a0 ≤ 122) = false := decide_eq_false c13
          clear c13
          by_cases c14 : a0 ≥ 192
          ·rw [if_pos c14] at H
           have c14b0 : decide (192 ≤ a0) = true := decide_eq_true c14
           clear c14
           by_cases c15 : a0 ≤ 255
           ·rw [if_pos c15] at H
            have c15b0 : decide (a0 ≤ 255) = true := decide_eq_true c15
            clear c15
            by_cases c16 : a0 = 215
            ·rw [if_pos c16] at H
             have c16b0 : (a0 == 215) = true := beq_iff_eq.mpr c16
             have c16b1 : (a0 != 215) = false := bne_eq_false_iff_eq.mpr c16
             clear c16
             have H' := Aside0.mk H
             clear H
             go_wp2
             go_meet
             case rel => exact ⟨_, (false), (by first | rfl | (simp; done) | (simp [*]; done)), H', ⟨by have := HJ3.out; first | omega | exact Nat.le_refl _⟩, by repeat (first | exact Drawn0.refl _ | apply Drawn0.step)⟩
            ·rw [if_neg c16] at H
             have c16b0 : (a0 == 215) = false := beq_eq_false_iff_ne.mpr c16
             have c16b1 : (a0 != 215) = true := bne_iff_ne.mpr c16
             have H' := Aside0.mk H
             clear H
             go_wp2
             go_meet
             case rel => exact ⟨_, ((a0 != 247)), (by first | rfl | (simp; done) | (simp [*]; done)), H', ⟨by have := HJ3.out; first | omega | exact Nat.le_refl _⟩, by repeat (first | exact Drawn0.refl _ | apply Drawn0.step)⟩
           ·rw [if_neg c15] at H
            have c15b0 : decide (a0 ≤ 255) = false := decide_eq_false c15
            clear c15
            have H' := Aside0.mk H
            clear H
            go_wp2
            go_meet
            case rel => exact ⟨_, (false), (by first | rfl | (simp; done) | (simp [*]; done)), H', ⟨by have := HJ3.out; first | omega | exact Nat.le_refl _⟩, by repeat (first | exact Drawn0.refl _ | apply Drawn0.step)⟩
          ·rw [if_neg c14] at H
           have c14b0 : decide (192 ≤ a0) = false := decide_eq_false c14
           clear c14
           have H' := Aside0.mk H
           clear H
           go_wp2
           go_meet
           case rel => exact ⟨_, (false), (by first | rfl | (simp; done) | (simp [*]; done)), H', ⟨by have := HJ3.out; first | omega | exact Nat.le_refl _⟩, by repeat (first | exact Drawn0.refl _ | apply Drawn0.step)⟩
        ·rw [if_neg c12] at H
         have c12b0 : decide (97 ≤ a0) = false := decide_eq_false c12
         clear c12
         by_cases c17 : a0 ≥ 192
         ·rw [if_pos c17] at H
          have c17b0 : decide (192 ≤ a0) = true := decide_eq_true c17
          clear c17
          by_cases c18 : a0 ≤ 255
          ·rw [if_pos c18] at H
           have c18b0 : decide (a0 ≤ 255) = true := decide_eq_true c18
           clear c18
           by_cases c19 : a0 = 215
           ·rw [if_pos c19] at H
            have c19b0 : (a0 == 215) = true := beq_iff_eq.mpr c19
            have c19b1 : (a0 != 215) = false := bne_eq_false_iff_eq.mpr c19
            clear c19
            have H' := Aside0.mk H
            clear H
            go_wp2
            go_meet
            case rel => exact ⟨_, (false), (by first | rfl | (simp; done) | (simp [*]; done)), H', ⟨by have := HJ3.out; first | omega | exact Nat.le_refl _⟩, by repeat (first | exact Drawn0.refl _ | apply Drawn0.step)⟩
           ·rw [if_neg c19] at H
            have c19b0 : (a0 == 215) = false := beq_eq_false_iff_ne.mpr c19
            have c19b1 : (a0 != 215) = true := bne_iff_ne.mpr c19
            have H' := Aside0.mk H
            clear H
            go_wp2
            go_meet
            case rel => exact ⟨_, ((a0 != 247)), (by first | rfl | (simp; done) | (simp [*]; done)), H', ⟨by have := HJ3.out; first | omega | exact Nat.le_refl _⟩, by repeat (first | exact Drawn0.refl _ | apply Drawn0.step)⟩
          ·rw [if_neg c18] at H
           have c18b0 : decide (a0 ≤ 255) = false := decide_eq_false c18
           clear c18
           have H' := Aside0.mk H
           clear H
           go_wp2
           go_meet
           case rel => exact ⟨_, (false), (by first | rfl | (simp; done) | (simp [*]; done)), H', ⟨by have := HJ3.out; first | omega | exact Nat.le_refl _⟩, by repeat (first | exact Drawn0.refl _ | apply Drawn0.step)⟩
         ·rw [if_neg c17] at H
          have c17b0 : decide (192 ≤ a0) = false := decide_eq_false c17
          clear c17
          have H' := Aside0.mk H
          clear H
          go_wp2
          go_meet
          case rel => exact ⟨_, (false), (by first | rfl | (simp; done) | (simp [*]; done)), H', ⟨by have := HJ3.out; first | omega | exact Nat.le_refl _⟩, by repeat (first | exact Drawn0.refl _ | apply Drawn0.step)⟩
      ·rw [if_neg c10] at H
       have c10b0 : decide (65 ≤ a0) = false := decide_eq_false c10
       clear c10
       (first | rw [c10b0] | (simp only [i64_w, i32_w]; rw [c10b0]) | skip)
       by_cases c20 : a0 ≥ 97
       ·rw [if_pos c20] at H
        have c20b0 : decide (97 ≤ a0) = true := decide_eq_true c20
        clear c20
        by_cases c21 : a0 ≤ 122
        ·rw [if_pos c21] at H
         have c21b0 : decide (a0 ≤ 122) = true := decide_eq_true c21
         clear c21
         have H' := Aside0.mk H
         clear H
         go_wp2
         go_meet
         case rel => exact ⟨_, (true), (by first | rfl | (simp; done) | (simp [*]; done)), H', ⟨by have := HJ3.out; first | omega | exact Nat.le_refl _⟩, by repeat (first | exact Drawn0.refl _ | apply Drawn0.step)⟩
        ·rw [if_neg c21] at H
         have c21b0 : decide (a0 ≤ 122) = false := decide_eq_false c21
         clear c21
         by_cases c22 : a0 ≥ 192
         ·rw [if_pos c22] at H
          have c22b0 : decide (192 ≤ a0) = true := decide_eq_true c22
          clear c22
          by_cases c23 : a0 ≤ 255
          ·rw [if_pos c23] at H
           have c23b0 : decide (a0 ≤ 255) = true := decide_eq_true c23
           clear c23
           by_cases c24 : a0 = 215
           ·rw [if_pos c24] at H
            have c24b0 : (a0 == 215) = true := beq_iff_eq.mpr c24
            have c24b1 : (a0 != 215) = false := bne_eq_false_iff_eq.mpr c24
            clear c24
            have H' := Aside0.mk H
            clear H
            go_wp2
            go_meet
            case rel => exact ⟨_, (false), (by first | rfl | (simp; done) | (simp [*]; done)), H', ⟨by have := HJ3.out; first | omega | exact Nat.le_refl _⟩, by repeat (first | exact Drawn0.refl _ | apply Drawn0.step)⟩
           ·rw [if_neg c24] at H
            have c24b0 : (a0 == 215) = false := beq_eq_false_iff_ne.mpr c24
            have c24b1 : (a0 != 215) = true := bne_iff_ne.mpr c24
            have H' := Aside0.mk H
            clear H
            go_wp2
            go_meet
            case rel => exact ⟨_, ((a0 != 247)), (by first | rfl | (simp; done) | (simp [*]; done)), H', ⟨by have := HJ3.out; first | omega | exact Nat.le_refl _⟩, by repeat (first | exact Drawn0.refl _ | apply Drawn0.step)⟩
          ·rw [if_neg c23] at H
           have c23b0 : decide (a0 ≤ 255) = false := decide_eq_false c23
           clear c23
           have H' := Aside0.mk H
           clear H
           go_wp2
           go_meet
           case rel => exact ⟨_, (false), (by first | rfl | (simp; done) | (simp [*]; done)), H', ⟨by have := HJ3.out; first | omega | exact Nat.le_refl _⟩, by repeat (first | exact Drawn0.refl _ | apply Drawn0.step)⟩
         ·rw [if_neg c22] at H
          have c22b0 : decide (192 ≤ a0) = false := decide_eq_false c22
          clear c22
          have H' := Aside0.mk H
          clear H
          go_wp2
          go_meet
          case rel => exact ⟨_, (false), (by first | rfl | (simp; done) | (simp [*]; done)), H', ⟨by have := HJ3.out; first | omega | exact Nat.le_refl _⟩, by repeat (first | exact Drawn0.refl _ | apply Drawn0.step)⟩
       ·rw [if_neg c20] at H
        have c20b0 : decide (97 ≤ a0) = false := decide_eq_false c20
        clear c20
        by_cases c25 : a0 ≥ 192
        ·rw [if_pos c25] at H
         have c25b0 : decide (192 ≤ a0) = true := decide_eq_true c25
         clear c25
         by_cases c26 : a0 ≤ 255
         ·rw [if_pos c26] at H
          have c26b0 : decide (a0 ≤ 255) = true := decide_eq_true c26
          clear c26
          by_cases c27 : a0 = 215
          ·rw [if_pos c27] at H
           have c27b0 : (a0 == 215) = true := beq_iff_eq.mpr c27
           have c27b1 : (a0 != 215) = false := bne_eq_false_iff_eq.mpr c27
           clear c27
           have H' := Aside0.mk H
           clear H
           go_wp2
           go_meet
           case rel => exact ⟨_, (false), (by first | rfl | (simp; done) | (simp [*]; done)), H', ⟨by have := HJ3.out; first | omega | exact Nat.le_refl _⟩, by repeat (first | exact Drawn0.refl _ | apply Drawn0.step)⟩
          ·rw [if_neg c27] at H
           have c27b0 : (a0 == 215) = false := beq_eq_false_iff_ne.mpr c27
           have c27b1 : (a0 != 215) = true := bne_iff_ne.mpr c27
           have H' := Aside0.mk H
           clear H
           go_wp2
           go_meet
           case rel => exact ⟨_, ((a0 != 247)), (by first | rfl | (simp; done) | (simp [*]; done)), H', ⟨by have := HJ3.out; first | omega | exact Nat.le_refl _⟩, by repeat (first | exact Drawn0.refl _ | apply Drawn0.step)⟩
         ·rw [if_neg c26] at H
          have c26b0 : decide (a0 ≤ 255) = false := decide_eq_false c26
          clear c26
          have H' := Aside0.mk H
          clear H
          go_wp2
          go_meet
          case rel => exact ⟨_, (false), (by first | rfl | (simp; done) | (simp [*]; done)), H', ⟨by have := HJ3.out; first | omega | exact Nat.le_refl _⟩, by repeat (first | exact Drawn0.refl _ | apply Drawn0.step)⟩
        ·rw [if_neg c25] at H
         have c25b0 : decide (192 ≤ a0) = false := decide_eq_false c25
         clear c25
         have H' := Aside0.mk H
         clear H
         go_wp2
         go_meet
         case rel => exact ⟨_, (false), (by first | rfl | (simp; done) | (simp [*]; done)), H', ⟨by have := HJ3.out; first | omega | exact Nat.le_refl _⟩, by repeat (first | exact Drawn0.refl _ | apply Drawn0.step)⟩
     case rest =>
      clear HC9
      obtain ⟨kq, x22_8, rfl, HA, HJ8, ⟨mc8, rfl⟩⟩ := hcut
      cases kq with
      | zero => exact absurd HA.out (by simp [colophonref04_Class.j1])
      | succ kj8 =>
       have H := HA.out
       clear HA
       simp only [colophonref04_Class.j1] at H
       by_cases c28 : x22_8 = true
       ·subst c28
        have H1 : (some 2) = some r := by rw [if_pos rfl] at H; exact H
        clear H
        have H := H1
        clear H1
        obtain rfl := Option.some.inj H
        go_wp2
        go_ret
        exact ⟨by first | rfl | (simp; done) | (simp [*]; done), by repeat (first | exact Drawn0.refl _ | apply Drawn0.step)⟩
       ·replace c28 := Bool.eq_false_iff.mpr c28
        subst c28
        have H1 : (if a0 ≥ 48 then (colophonref04_Class.j2 kj8 a0 (decide (a0 ≤ 57))) else (colophonref04_Class.j2 kj8 a0 false)) = some r := by rw [if_neg (show ¬ (false = true) by decide)] at H; exact H
        clear H
        have H := H1
        clear H1
        have HC29 := Aside0.mk H
        clear H
        go_upto_region 7 with (fail)
        go_cut [53] (fun v53 wc => ∃ (kq : Nat) (x53_28 : Bool), v53 = .bool x53_28 ∧ Aside0 (colophonref04_Class.j2 kq a0 x53_28 = some r) ∧ Aside0 (kq ≤ kj8) ∧ Drawn0 w wc)
        case first =>
         have H := HC29.out
         clear HC29
         by_cases c30 : a0 ≥ 48
         ·rw [if_pos c30] at H
          have c30b0 : decide (48 ≤ a0) = true := decide_eq_true c30
          clear c30
          (first | rw [c30b0] | (simp only [i64_w, i32_w]; rw [c30b0]) | skip)
          have H' := Aside0.mk H
          clear H
          go_wp2
          go_meet
          case rel => exact ⟨_, (decide (a0 ≤ 57)), (by first | rfl | (simp; done) | (simp [*]; done)), H', ⟨by have := HJ3.out; have := HJ8.out; first | omega | exact Nat.le_refl _⟩, by repeat (first | exact Drawn0.refl _ | apply Drawn0.step)⟩
         ·rw [if_neg c30] at H
          have c30b0 : decide (48 ≤ a0) = false := decide_eq_false c30
          clear c30
          (first | rw [c30b0] | (simp only [i64_w, i32_w]; rw [c30b0]) | skip)
          have H' := Aside0.mk H
          clear H
          go_wp2
          go_meet
          case rel => exact ⟨_, (false), (by first | rfl | (simp; done) | (simp [*]; done)), H', ⟨by have := HJ3.out; have := HJ8.out; first | omega | exact Nat.le_refl _⟩, by repeat (first | exact Drawn0.refl _ | apply Drawn0.step)⟩
        case rest =>
         clear HC29
         obtain ⟨kq, x53_28, rfl, HA, HJ28, ⟨mc28, rfl⟩⟩ := hcut
         cases kq with
         | zero => exact absurd HA.out (by simp [colophonref04_Class.j2])
         | succ kj28 =>
          have H := HA.out
          clear HA
          simp only [colophonref04_Class.j2] at H
          by_cases c31 : x53_28 = true
          ·subst c31
           have H1 : (some 3) = some r := by rw [if_pos rfl] at H; exact H
           clear H
           have H := H1
           clear H1
           obtain rfl := Option.some.inj H
           go_wp2
           go_ret
           exact ⟨by first | rfl | (simp; done) | (simp [*]; done), by repeat (first | exact Drawn0.refl _ | apply Drawn0.step)⟩
          ·replace c31 := Bool.eq_false_iff.mpr c31
           subst c31
           have H1 : (if a0 < 32 then (some 4) else (if a0 ≥ 127 then (if a0 ≤ 159 then (some 4) else (some 5)) else (some 5))) = some r := by rw [if_neg (show ¬ (false = true) by decide)] at H; exact H
           clear H
           have H := H1
           clear H1
           by_cases c32 : a0 < 32
           ·rw [if_pos c32] at H
            have c32b0 : decide (a0 < 32) = true := decide_eq_true c32
            clear c32
            obtain rfl := Option.some.inj H
            go_wp2
            go_ret
            exact ⟨by first | rfl | (simp; done) | (simp [*]; done), by repeat (first | exact Drawn0.refl _ | apply Drawn0.step)⟩
           ·rw [if_neg c32] at H
            have c32b0 : decide (a0 < 32) = false := decide_eq_false c32
            clear c32
            by_cases c33 : a0 ≥ 127
            ·rw [if_pos c33] at H
             have c33b0 : decide (127 ≤ a0) = true := decide_eq_true c33
             clear c33
             by_cases c34 : a0 ≤ 159
             ·rw [if_pos c34] at H
              have c34b0 : decide (a0 ≤ 159) = true := decide_eq_true c34
              clear c34
              obtain rfl := Option.some.inj H
              go_wp2
              go_ret
              exact ⟨by first | rfl | (simp; done) | (simp [*]; done), by repeat (first | exact Drawn0.refl _ | apply Drawn0.step)⟩
             ·rw [if_neg c34] at H
              have c34b0 : decide (a0 ≤ 159) = false := decide_eq_false c34
              clear c34
              obtain rfl := Option.some.inj H
              go_wp2
              go_ret
              exact ⟨by first | rfl | (simp; done) | (simp [*]; done), by repeat (first | exact Drawn0.refl _ | apply Drawn0.step)⟩
            ·rw [if_neg c33] at H
             have c33b0 : decide (127 ≤ a0) = false := decide_eq_false c33
             clear c33
             obtain rfl := Option.some.inj H
             go_wp2
             go_ret
             exact ⟨by first | rfl | (simp; done) | (simp [*]; done), by repeat (first | exact Drawn0.refl _ | apply Drawn0.step)⟩
 ·replace c3 := Bool.eq_false_iff.mpr c3
  subst c3
  have H1 : (some 0) = some r := by rw [if_neg (show ¬ (false = true) by decide)] at H; exact H
  clear H
  have H := H1
  clear H1
  obtain rfl := Option.some.inj H
  go_enter Tryd.func21, Tryd.ntmps21
  go_wp2_with (first | ((with_reducible refine gate_callee (f := 40) rfl ?_); refine goesL_ (some 5) rfl rfl Tryd.func40 (by kernel_rfl) rfl #[.int .i64 a0] rfl (by (try simp only [List.map_toArray, List.map_cons, List.map_nil]); first | done | rfl | (simp only [List.length_drop, List.length_take]; rfl)) ?_; (with_reducible refine (colophonref04_Is.calls a0 false _ A2.out).mono ?_); rintro e w' ⟨rfl, ⟨nd, rfl⟩⟩; refine ⟨_, rfl, ?_⟩))
  go_ret
  exact ⟨by first | rfl | (simp; done) | (simp [*]; done), by repeat (first | exact Drawn0.refl _ | apply Drawn0.step)⟩
end Go.Proofs.YtenhfmlkdcfbbaaDoor.PHyphenPoints
