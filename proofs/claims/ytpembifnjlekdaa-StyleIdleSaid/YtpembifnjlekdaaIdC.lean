-- Written by a copy of the print that this session has turned (wip/tools/patchprint.py): arrays as records.
import Derived.Test.YtpembifnjlekdaaPStyleIdlex0
import Derived.Test.YtpembifnjlekdaaPStyleIdlex2
import Derived.Test.YtpembifnjlekdaaPStyleIdlex4
import Derived.Test.YtpembifnjlekdaaPStyleIdlex5
import Derived.Test.YtpembifnjlekdaaPStyleIdlex7
namespace Go.Proofs.Ytpembifnjlekdaa.PStyleIdle
open Go.RowKit Go.Proofs.YtpembifnjlekdaaW.PrintWords Go.Proofs.YtpembifnjlekdaaW.PrintLast Go.Proofs.YtpembifnjlekdaaW.PrintMore
attribute [local go_sem] max2_int min2_int max_two min_two max_three min_three max_four min_four   -- for this text's walks alone
set_option linter.unusedVariables false
set_option linter.unusedSimpArgs false

/-! ### colophonlaw20_StyleIdle: function 5 -/
mutual
def colophonlaw20_StyleIdle.j0 : Nat → List (S41) → List (S56) → Int → Bool → Option (Bool)
  | 0, _, _, _, _ => none
  | k + 1, x0, x1, x2, x17 => if x17 = true then ((colophonlaw20_wakes.f k).bind fun t238 => (some t238)) else ((colophonkeep_Mod.f x2 (x0.length : Int)).bind fun t239 => (colophonlaw20_StyleIdle.l0 k x0 x1 t239 0))
def colophonlaw20_StyleIdle.l0 : Nat → List (S41) → List (S56) → Int → Int → Option (Bool)
  | 0, _, _, _, _ => none
  | k + 1, x0, x1, x7, x8 => if 0 ≤ x7 then (if x7 < (x0.length : Int) then (if x8 < (((rd_T41 x0 x7).f0).length : Int) then (if 0 ≤ x8 then ((colophonref19_Match.f k ((rd_T45 ((rd_T41 x0 x7).f0) x8).f0) x1).bind fun t243 => (if t243 = true then ((colophonlaw20_wakes.f k).bind fun t244 => (some t244)) else (colophonlaw20_StyleIdle.l0 k x0 x1 x7 (wrap64 (x8 + 1))))) else (none)) else (if x7 ≤ (x0.length : Int) then ((colophonref19_Copy.f k (x0.take (x7 : Int).toNat)).bind fun t249 => (if 0 ≤ (wrap64 (x7 + 1)) then (if (wrap64 (x7 + 1)) ≤ (x0.length : Int) then ((colophonref19_Copy.f k (x0.drop ((wrap64 (x7 + 1)) : Int).toNat)).bind fun t256 => (if t249.length + t256.length < 2932031007402 then ((colophonref19_Copy.f k x0).bind fun t262 => ((colophonlaw20_twin.f k x1).bind fun t265 => ((style_First.f).bind fun bt268 => ((style_Of.f k t262 t265 bt268.1 bt268.2.1 bt268.2.2.1 bt268.2.2.2.1 bt268.2.2.2.2.1 bt268.2.2.2.2.2.1 bt268.2.2.2.2.2.2.1 bt268.2.2.2.2.2.2.2.1 bt268.2.2.2.2.2.2.2.2).bind fun bt277 => ((colophonlaw20_twin.f k x1).bind fun t286 => ((style_First.f).bind fun bt289 => ((style_Of.f k (t249 ++ t256) t286 bt289.1 bt289.2.1 bt289.2.2.1 bt289.2.2.2.1 bt289.2.2.2.2.1 bt289.2.2.2.2.2.1 bt289.2.2.2.2.2.2.1 bt289.2.2.2.2.2.2.2.1 bt289.2.2.2.2.2.2.2.2).bind fun bt298 => (if bt277.1 = bt298.1 then (if bt277.2.1 = bt298.2.1 then (if bt277.2.2.1 = bt298.2.2.1 then (if bt277.2.2.2.1 = bt298.2.2.2.1 then (if bt277.2.2.2.2.1 = bt298.2.2.2.2.1 then (if bt277.2.2.2.2.2.1 = bt298.2.2.2.2.2.1 then (if bt277.2.2.2.2.2.2.1 = bt298.2.2.2.2.2.2.1 then (if bt277.2.2.2.2.2.2.2.1 = bt298.2.2.2.2.2.2.2.1 then (if bt277.2.2.2.2.2.2.2.2 = bt298.2.2.2.2.2.2.2.2 then ((colophonlaw20_wakes.f k).bind fun t307 => (some t307)) else (none)) else (none)) else (none)) else (none)) else (none)) else (none)) else (none)) else (none)) else (none))))))))) else (none))) else (none)) else (none))) else (none))) else (none)) else (none)
end
def colophonlaw20_StyleIdle.f (k : Nat) (l0 : List (S41)) (l1 : List (S56)) (a2 : Int) : Option (Bool) := (colophonlaw20_large.f k l0 l1).bind fun t237 => (if t237 = true then (colophonlaw20_StyleIdle.j0 k l0 l1 a2 true) else (colophonlaw20_StyleIdle.j0 k l0 l1 a2 ((l0.length : Int) == 0)))
theorem colophonlaw20_StyleIdle.mono_l : ∀ k, (∀ y0 y1 y2 y3, LeO (colophonlaw20_StyleIdle.j0 k y0 y1 y2 y3) (colophonlaw20_StyleIdle.j0 (k + 1) y0 y1 y2 y3)) ∧ (∀ y0 y1 y2 y3, LeO (colophonlaw20_StyleIdle.l0 k y0 y1 y2 y3) (colophonlaw20_StyleIdle.l0 (k + 1) y0 y1 y2 y3))
  | 0 => ⟨fun _ _ _ _ r h => by simp [colophonlaw20_StyleIdle.j0] at h, fun _ _ _ _ r h => by simp [colophonlaw20_StyleIdle.l0] at h⟩
  | k + 1 => by
    obtain ⟨ih0, ih1⟩ := colophonlaw20_StyleIdle.mono_l k
    refine ⟨?_, ?_⟩
    · intro y0 y1 y2 y3
      unfold colophonlaw20_StyleIdle.j0
      repeat' first
      | (with_reducible exact ih0 _ _ _ _)
      | (with_reducible exact ih1 _ _ _ _)
      | (with_reducible exact colophonlaw20_large.mono _ _ _)
      | (with_reducible exact colophonlaw20_twin.mono _ _)
      | (with_reducible exact colophonlaw20_wakes.mono _)
      | (with_reducible exact colophonref19_Copy.mono _ _)
      | (with_reducible exact colophonref19_Match.mono _ _ _)
      | (with_reducible exact style_Of.mono _ _ _ _ _ _ _ _ _ _ _ _)
      | (with_reducible exact LeO.refl _)
      | (with_reducible exact LeO.none _)
      | (with_reducible refine LeO.ite ?_ ?_)
      | (with_reducible refine LeO.bind ?_ (fun _ => ?_))
      | exact ih0 _ _ _ _
      | exact ih1 _ _ _ _
      | exact colophonlaw20_large.mono _ _ _
      | exact colophonlaw20_twin.mono _ _
      | exact colophonlaw20_wakes.mono _
      | exact colophonref19_Copy.mono _ _
      | exact colophonref19_Match.mono _ _ _
      | exact style_Of.mono _ _ _ _ _ _ _ _ _ _ _ _
      | exact LeO.none _
      | refine LeO.ite ?_ ?_
      | refine LeO.bind ?_ (fun _ => ?_)
    · intro y0 y1 y2 y3
      unfold colophonlaw20_StyleIdle.l0
      repeat' first
      | (with_reducible exact ih0 _ _ _ _)
      | (with_reducible exact ih1 _ _ _ _)
      | (with_reducible exact colophonlaw20_large.mono _ _ _)
      | (with_reducible exact colophonlaw20_twin.mono _ _)
      | (with_reducible exact colophonlaw20_wakes.mono _)
      | (with_reducible exact colophonref19_Copy.mono _ _)
      | (with_reducible exact colophonref19_Match.mono _ _ _)
      | (with_reducible exact style_Of.mono _ _ _ _ _ _ _ _ _ _ _ _)
      | (with_reducible exact LeO.refl _)
      | (with_reducible exact LeO.none _)
      | (with_reducible refine LeO.ite ?_ ?_)
      | (with_reducible refine LeO.bind ?_ (fun _ => ?_))
      | exact ih0 _ _ _ _
      | exact ih1 _ _ _ _
      | exact colophonlaw20_large.mono _ _ _
      | exact colophonlaw20_twin.mono _ _
      | exact colophonlaw20_wakes.mono _
      | exact colophonref19_Copy.mono _ _
      | exact colophonref19_Match.mono _ _ _
      | exact style_Of.mono _ _ _ _ _ _ _ _ _ _ _ _
      | exact LeO.none _
      | refine LeO.ite ?_ ?_
      | refine LeO.bind ?_ (fun _ => ?_)
theorem colophonlaw20_StyleIdle.mono : ∀ a0 a1 a2 k, LeO (colophonlaw20_StyleIdle.f k a0 a1 a2) (colophonlaw20_StyleIdle.f (k + 1) a0 a1 a2) := by
  intro a0 a1 a2 k
  obtain ⟨ih0, ih1⟩ := colophonlaw20_StyleIdle.mono_l k
  unfold colophonlaw20_StyleIdle.f
  repeat' first
      | (with_reducible exact ih0 _ _ _ _)
      | (with_reducible exact ih1 _ _ _ _)
      | (with_reducible exact colophonlaw20_large.mono _ _ _)
      | (with_reducible exact colophonlaw20_twin.mono _ _)
      | (with_reducible exact colophonlaw20_wakes.mono _)
      | (with_reducible exact colophonref19_Copy.mono _ _)
      | (with_reducible exact colophonref19_Match.mono _ _ _)
      | (with_reducible exact style_Of.mono _ _ _ _ _ _ _ _ _ _ _ _)
      | (with_reducible exact LeO.refl _)
      | (with_reducible exact LeO.none _)
      | (with_reducible refine LeO.ite ?_ ?_)
      | (with_reducible refine LeO.bind ?_ (fun _ => ?_))
      | exact ih0 _ _ _ _
      | exact ih1 _ _ _ _
      | exact colophonlaw20_large.mono _ _ _
      | exact colophonlaw20_twin.mono _ _
      | exact colophonlaw20_wakes.mono _
      | exact colophonref19_Copy.mono _ _
      | exact colophonref19_Match.mono _ _ _
      | exact style_Of.mono _ _ _ _ _ _ _ _ _ _ _ _
      | exact LeO.none _
      | refine LeO.ite ?_ ?_
      | refine LeO.bind ?_ (fun _ => ?_)
def colophonlaw20_StyleIdle.T9 : Bool × List (List Nat × List Nat) := (true, [([], []), ([], []), ([0, 1], [0, 1]), ([2], [2]), ([], []), ([], []), ([5], [5]), ([4, 6], [4, 6]), ([7, 3], [7]), ([3, 8, 8], [3, 8]), ([9, 9, 0, 1, 2, 3, 4, 5, 6, 7, 8, 9], [9])])
def colophonlaw20_StyleIdle.B9 : List Nat := [0, 0, 3, 7, 0, 0, 32, 112, 255, 511, 1023]
theorem colophonlaw20_StyleIdle.tab9 : rtab .any (opsOf Try.f5 9) = colophonlaw20_StyleIdle.T9 := by kernel_rfl
theorem colophonlaw20_StyleIdle.bits9 : waitsOk colophonlaw20_StyleIdle.T9.2 colophonlaw20_StyleIdle.B9 = true := by kernel_rfl
set_option maxHeartbeats 8000000 in
set_option maxRecDepth 100000 in
theorem colophonlaw20_StyleIdle.calls (k : Nat) (A0 : Option Addr) (c0 : Nat) (l0 : List (S41)) (A1 : Option Addr) (c1 : Nat) (l1 : List (S56)) (a2 : Int) (r : Bool) (w : World) (hr0 : Kd.C k41 w A0 l0.length l0) (hc0 : l0.length ≤ c0) (hr1 : Kd.C k56 w A1 l1.length l1) (hc1 : l1.length ≤ c1) (h : colophonlaw20_StyleIdle.f k l0 l1 a2 = some r) :
    Calls Try.prog 5 #[.slice A0 l0.length c0, .slice A1 l1.length c1, .int .i64 a2] w fun e w' => e = .returned (.bool r) ∧ Below w.heap.size w w' := by
  have hu45 := Try.underlying45
  have HR0 := Aside0.mk hr0
  have HC0 := Aside0.mk hc0
  clear hr0 hc0
  have HR1 := Aside0.mk hr1
  have HC1 := Aside0.mk hc1
  clear hr1 hc1
  have HB := Aside0.mk (Below.refl w.heap.size w)
  have H : ((colophonlaw20_large.f k l0 l1).bind fun t237 => (if t237 = true then (colophonlaw20_StyleIdle.j0 k l0 l1 a2 true) else (colophonlaw20_StyleIdle.j0 k l0 l1 a2 ((l0.length : Int) == 0)))) = some r := h
  clear h
  have HC4 := Aside0.mk H
  clear H
  go_enter Try.func5, Try.ntmps5
  go_upto_region 1 with (fail)
  go_cut [17] (fun v17 wc => ∃ (kq : Nat) (x17_3 : Bool), v17 = .bool x17_3 ∧ Aside0 (colophonlaw20_StyleIdle.j0 kq l0 l1 a2 x17_3 = some r) ∧ Aside0 (kq ≤ k) ∧ Aside0 (Below w.heap.size w wc))
  case first =>
    have H := HC4.out
    clear HC4
    replace H := Option.bind_eq_some_iff.mp H
    obtain ⟨t237, A50, H⟩ := H
    replace H : (if t237 = true then (colophonlaw20_StyleIdle.j0 k l0 l1 a2 true) else (colophonlaw20_StyleIdle.j0 k l0 l1 a2 ((l0.length : Int) == 0))) = some r := H
    have A5 := Aside0.mk A50
    clear A50
    by_cases c6 : t237 = true
    · subst c6
      have H1 : (colophonlaw20_StyleIdle.j0 k l0 l1 a2 true) = some r := by rw [if_pos rfl] at H; exact H
      clear H
      have H := H1
      clear H1
      have H' := Aside0.mk H
      clear H
      go_wp2_with (first | ((with_reducible refine gate_callee (f := 9) rfl ?_); refine goesL_ (some 12) rfl rfl Try.func9 (by kernel_rfl) rfl #[.slice A0 l0.length c0, .slice A1 l1.length c1] rfl (by (try simp only [List.map_toArray, List.map_cons, List.map_nil]); first | done | rfl | (simp only [List.length_drop, List.length_take]; rfl)) ?_; (with_reducible refine (colophonlaw20_large.calls k _ _ l0 _ _ l1 true _ ?side1 ?side2 ?side3 ?side4 A5.out).mono ?_); (case side1 => repeat (first | exact (Kd.C_below HR0.out HB.out) | (with_reducible refine Kd.C_alloc ?_ _) | (with_reducible refine Kd.C_drewN ?_ _) | (with_reducible refine Kd.C_drew ?_))); (case side2 => exact HC0.out); (case side3 => repeat (first | exact (Kd.C_below HR1.out HB.out) | (with_reducible refine Kd.C_alloc ?_ _) | (with_reducible refine Kd.C_drewN ?_ _) | (with_reducible refine Kd.C_drew ?_))); (case side4 => exact HC1.out); rintro e w7 ⟨rfl, hb⟩; refine ⟨_, rfl, ?_⟩; have n0_ := Aside0.mk (below_step (by repeat (first | (with_reducible first | exact HB.out | apply below_alloc | apply pw_below_drewN | apply below_drew1) | exact HB.out)) hb); clear HB; have HB := n0_; clear n0_; (try clear hb); (try clear hb2); (try clear hk); (try clear hi)))
      go_meet
      case rel => exact ⟨_, (true), (by first | rfl | (simp; done) | (simp [*]; done)), H', ⟨by first | omega | exact Nat.le_refl _⟩, ⟨by repeat (first | (with_reducible first | exact HB.out | apply below_alloc | apply pw_below_drewN | apply below_drew1) | exact HB.out)⟩⟩
    · replace c6 := Bool.eq_false_iff.mpr c6
      subst c6
      have H1 : (colophonlaw20_StyleIdle.j0 k l0 l1 a2 ((l0.length : Int) == 0)) = some r := by rw [if_neg (show ¬ (false = true) by decide)] at H; exact H
      clear H
      have H := H1
      clear H1
      have H' := Aside0.mk H
      clear H
      go_wp2_with (first | ((with_reducible refine gate_callee (f := 9) rfl ?_); refine goesL_ (some 12) rfl rfl Try.func9 (by kernel_rfl) rfl #[.slice A0 l0.length c0, .slice A1 l1.length c1] rfl (by (try simp only [List.map_toArray, List.map_cons, List.map_nil]); first | done | rfl | (simp only [List.length_drop, List.length_take]; rfl)) ?_; (with_reducible refine (colophonlaw20_large.calls k _ _ l0 _ _ l1 false _ ?side1 ?side2 ?side3 ?side4 A5.out).mono ?_); (case side1 => repeat (first | exact (Kd.C_below HR0.out HB.out) | (with_reducible refine Kd.C_alloc ?_ _) | (with_reducible refine Kd.C_drewN ?_ _) | (with_reducible refine Kd.C_drew ?_))); (case side2 => exact HC0.out); (case side3 => repeat (first | exact (Kd.C_below HR1.out HB.out) | (with_reducible refine Kd.C_alloc ?_ _) | (with_reducible refine Kd.C_drewN ?_ _) | (with_reducible refine Kd.C_drew ?_))); (case side4 => exact HC1.out); rintro e w8 ⟨rfl, hb⟩; refine ⟨_, rfl, ?_⟩; have n0_ := Aside0.mk (below_step (by repeat (first | (with_reducible first | exact HB.out | apply below_alloc | apply pw_below_drewN | apply below_drew1) | exact HB.out)) hb); clear HB; have HB := n0_; clear n0_; (try clear hb); (try clear hb2); (try clear hk); (try clear hi)))
      go_meet
      case rel => exact ⟨_, (((l0.length : Int) == 0)), (by first | rfl | (simp; done) | (simp [*]; done)), H', ⟨by first | omega | exact Nat.le_refl _⟩, ⟨by repeat (first | (with_reducible first | exact HB.out | apply below_alloc | apply pw_below_drewN | apply below_drew1) | exact HB.out)⟩⟩
  case rest =>
    clear HC4
    try clear c1
    try clear p2
    try clear c5
    try clear c6
    obtain ⟨kq, x17_3, rfl, HA, HJ3, HB⟩ := hcut
    cases kq with
    | zero => exact absurd HA.out (by simp [colophonlaw20_StyleIdle.j0])
    | succ kj3 =>
      have H := HA.out
      clear HA
      simp only [colophonlaw20_StyleIdle.j0] at H
      by_cases c9 : x17_3 = true
      · subst c9
        have H1 : ((colophonlaw20_wakes.f kj3).bind fun t238 => (some t238)) = some r := by rw [if_pos rfl] at H; exact H
        clear H
        have H := H1
        clear H1
        replace H := Option.bind_eq_some_iff.mp H
        obtain ⟨t238, A100, H⟩ := H
        replace H : (some t238) = some r := H
        have A10 := Aside0.mk A100
        clear A100
        obtain rfl := Option.some.inj H
        go_wp2_with (first | ((with_reducible refine gate_callee (f := 10) rfl ?_); refine goesL_ (some 18) rfl rfl Try.func10 (by kernel_rfl) rfl #[] rfl (by (try simp only [List.map_toArray, List.map_cons, List.map_nil]); first | done | rfl | (simp only [List.length_drop, List.length_take]; rfl)) ?_; (with_reducible refine (colophonlaw20_wakes.calls kj3  t238 _ A10.out).mono ?_); rintro e w11 ⟨rfl, hb⟩; refine ⟨_, rfl, ?_⟩; have n0_ := Aside0.mk (below_step (by repeat (first | (with_reducible first | exact HB.out | apply below_alloc | apply pw_below_drewN | apply below_drew1) | exact HB.out)) hb); clear HB; have HB := n0_; clear n0_; (try clear hb); (try clear hb2); (try clear hk); (try clear hi)))
        go_ret
        exact ⟨by first | rfl | (simp [errW_none, errW_some] <;> rfl) | (simp [*, errW_none, errW_some] <;> rfl), by repeat (first | (with_reducible first | exact HB.out | apply below_alloc | apply pw_below_drewN | apply below_drew1) | exact HB.out)⟩
      · replace c9 := Bool.eq_false_iff.mpr c9
        subst c9
        have H1 : ((colophonkeep_Mod.f a2 (l0.length : Int)).bind fun t239 => (colophonlaw20_StyleIdle.l0 kj3 l0 l1 t239 0)) = some r := by rw [if_neg (show ¬ (false = true) by decide)] at H; exact H
        clear H
        have H := H1
        clear H1
        replace H := Option.bind_eq_some_iff.mp H
        obtain ⟨t239, A120, H⟩ := H
        replace H : (colophonlaw20_StyleIdle.l0 kj3 l0 l1 t239 0) = some r := H
        have A12 := Aside0.mk A120
        clear A120
        have H' := Aside0.mk H
        clear H
        go_wp2_with (first | ((with_reducible refine gate_callee (f := 20) rfl ?_); refine goesL_ (some 22) rfl rfl Try.func20 (by kernel_rfl) rfl #[.int .i64 a2, .int .i64 (l0.length : Int)] rfl (by (try simp only [List.map_toArray, List.map_cons, List.map_nil]); first | done | rfl | (simp only [List.length_drop, List.length_take]; rfl)) ?_; (with_reducible refine (colophonkeep_Mod.calls a2 (l0.length : Int) t239 _ A12.out).mono ?_); rintro e w' ⟨rfl, ⟨nd, rfl⟩⟩; refine ⟨_, rfl, ?_⟩))
        go_loopg [8] kj3 (fun kq v8 w' => ∃ (x8_2 : Int), v8 = .int .i64 x8_2 ∧ Aside0 (colophonlaw20_StyleIdle.l0 kq l0 l1 t239 x8_2 = some r) ∧ Aside0 (kq ≤ kj3) ∧ Aside0 (Below w.heap.size w w'))
        case atStart => exact ⟨(0), (by first | rfl | (simp; done) | (simp [*]; done)), H', ⟨Nat.le_refl _⟩, ⟨by repeat (first | (with_reducible first | exact HB.out | apply below_alloc | apply pw_below_drewN | apply below_drew1) | exact HB.out)⟩⟩
        case round =>
          clear H'
          try clear c1
          try clear c2
          try clear p2
          try clear c5
          try clear c6
          try clear c9
          try clear c10
          try clear p2
          obtain ⟨x8_2, rfl, HA, HK2, HB⟩ := hrel
          cases gk with
          | zero => exact absurd HA.out (by simp [colophonlaw20_StyleIdle.l0])
          | succ k2 =>
            have H := HA.out
            clear HA
            simp only [colophonlaw20_StyleIdle.l0] at H
            by_cases c13 : 0 ≤ t239
            · rw [if_pos c13] at H
              have c13b0 : decide (0 ≤ t239) = true := decide_eq_true c13
              clear c13
              by_cases c14 : t239 < (l0.length : Int)
              · rw [if_pos c14] at H
                have c14b0 : decide (t239 < (l0.length : Int)) = true := decide_eq_true c14
                clear c14
                by_cases c15 : x8_2 < (((rd_T41 l0 t239).f0).length : Int)
                · rw [if_pos c15] at H
                  have c15b0 : decide (x8_2 < (((rd_T41 l0 t239).f0).length : Int)) = true := decide_eq_true c15
                  clear c15
                  by_cases c16 : 0 ≤ x8_2
                  · rw [if_pos c16] at H
                    have c16b0 : decide (0 ≤ x8_2) = true := decide_eq_true c16
                    clear c16
                    replace H := Option.bind_eq_some_iff.mp H
                    obtain ⟨t243, A170, H⟩ := H
                    replace H : (if t243 = true then ((colophonlaw20_wakes.f k2).bind fun t244 => (some t244)) else (colophonlaw20_StyleIdle.l0 k2 l0 l1 t239 (wrap64 (x8_2 + 1)))) = some r := H
                    have A17 := Aside0.mk A170
                    clear A170
                    by_cases c18 : t243 = true
                    · subst c18
                      have H1 : ((colophonlaw20_wakes.f k2).bind fun t244 => (some t244)) = some r := by rw [if_pos rfl] at H; exact H
                      clear H
                      have H := H1
                      clear H1
                      replace H := Option.bind_eq_some_iff.mp H
                      obtain ⟨t244, A190, H⟩ := H
                      replace H : (some t244) = some r := H
                      have A19 := Aside0.mk A190
                      clear A190
                      obtain rfl := Option.some.inj H
                      have p240 : 0 ≤ (t239 : Int) := of_decide_eq_true (by first | (with_reducible assumption) | assumption)
                      have q240 : t239 < (l0.length : Int) := of_decide_eq_true (by first | (with_reducible assumption) | assumption)
                      obtain ⟨ad240, A240_0, c240_0, A240_1, c240_1, e240, hx240_0, hx240_1, hl240_0, hi240_0, hl240_1, hi240_1⟩ := at_T41 HR0.out t239 p240 q240
                      cases e240
                      replace hx240_0 := (HB.out.cell (World.block_lt_of_cell? w _ hx240_0)).trans hx240_0
                      replace hx240_1 := (HB.out.cell (World.block_lt_of_cell? w _ hx240_1)).trans hx240_1
                      have HR240_0 := Aside0.mk hi240_0
                      have HC240_0 := Aside0.mk hl240_0
                      clear hi240_0 hl240_0
                      have HR240_1 := Aside0.mk hi240_1
                      have HC240_1 := Aside0.mk hl240_1
                      clear hi240_1 hl240_1
                      replace p240 := eq_true p240
                      replace q240 := eq_true q240
                      have p241 : 0 ≤ (t239 : Int) := of_decide_eq_true (by first | (with_reducible assumption) | assumption)
                      have q241 : t239 < (l0.length : Int) := of_decide_eq_true (by first | (with_reducible assumption) | assumption)
                      obtain ⟨ad241, A241_0, c241_0, A241_1, c241_1, e241, hx241_0, hx241_1, hl241_0, hi241_0, hl241_1, hi241_1⟩ := at_T41 HR0.out t239 p241 q241
                      obtain rfl : ad240 = ad241 := (by injection e241)
                      replace hx241_0 := (HB.out.cell (World.block_lt_of_cell? w _ hx241_0)).trans hx241_0
                      replace hx241_1 := (HB.out.cell (World.block_lt_of_cell? w _ hx241_1)).trans hx241_1
                      have HR241_0 := Aside0.mk hi241_0
                      have HC241_0 := Aside0.mk hl241_0
                      clear hi241_0 hl241_0
                      have HR241_1 := Aside0.mk hi241_1
                      have HC241_1 := Aside0.mk hl241_1
                      clear hi241_1 hl241_1
                      replace p241 := eq_true p241
                      replace q241 := eq_true q241
                      have ea_ := Option.some.inj (hx240_0.symm.trans hx241_0)
                      injection ea_ with ea_ en_ ec_
                      subst ea_
                      subst ec_
                      clear en_
                      have ea_ := Option.some.inj (hx240_1.symm.trans hx241_1)
                      injection ea_ with ea_ en_ ec_
                      subst ea_
                      subst ec_
                      clear en_
                      have p242 : 0 ≤ (x8_2 : Int) := of_decide_eq_true (by first | (with_reducible assumption) | assumption)
                      have q242 : x8_2 < (((rd_T41 l0 t239).f0).length : Int) := of_decide_eq_true (by first | (with_reducible assumption) | assumption)
                      obtain ⟨ad242, A242_0, c242_0, e242, hx242_0, hl242_0, hi242_0⟩ := at_T45 HR241_0.out x8_2 p242 q242
                      cases e242
                      replace hx242_0 := (HB.out.cell (World.block_lt_of_cell? w _ hx242_0)).trans hx242_0
                      have HR242_0 := Aside0.mk hi242_0
                      have HC242_0 := Aside0.mk hl242_0
                      clear hi242_0 hl242_0
                      replace p242 := eq_true p242
                      replace q242 := eq_true q242
                      go_wp2_with (first | ((with_reducible refine gate_callee (f := 21) rfl ?_); refine goesL_ (some 42) rfl rfl Try.func21 (by kernel_rfl) rfl #[.agg #[.slice A242_0 ((rd_T45 ((rd_T41 l0 t239).f0) x8_2).f0).length c242_0], .slice A1 l1.length c1] rfl (by (try simp only [List.map_toArray, List.map_cons, List.map_nil]); first | done | rfl | (simp only [List.length_drop, List.length_take]; rfl)) ?_; (with_reducible refine (colophonref19_Match.calls k2 _ _ ((rd_T45 ((rd_T41 l0 t239).f0) x8_2).f0) _ _ l1 true _ ?side1 ?side2 ?side3 ?side4 A17.out).mono ?_); (case side1 => repeat (first | exact (Kd.C_below HR242_0.out HB.out) | (with_reducible refine Kd.C_alloc ?_ _) | (with_reducible refine Kd.C_drewN ?_ _) | (with_reducible refine Kd.C_drew ?_))); (case side2 => exact HC242_0.out); (case side3 => repeat (first | exact (Kd.C_below HR1.out HB.out) | (with_reducible refine Kd.C_alloc ?_ _) | (with_reducible refine Kd.C_drewN ?_ _) | (with_reducible refine Kd.C_drew ?_))); (case side4 => exact HC1.out); rintro e w20 ⟨rfl, hb⟩; refine ⟨_, rfl, ?_⟩; have n0_ := Aside0.mk (below_step (by repeat (first | (with_reducible first | exact HB.out | apply below_alloc | apply pw_below_drewN | apply below_drew1) | exact HB.out)) hb); clear HB; have HB := n0_; clear n0_; (try clear hb); (try clear hb2); (try clear hk); (try clear hi)) | ((with_reducible refine gate_callee (f := 10) rfl ?_); refine goesL_ (some 43) rfl rfl Try.func10 (by kernel_rfl) rfl #[] rfl (by (try simp only [List.map_toArray, List.map_cons, List.map_nil]); first | done | rfl | (simp only [List.length_drop, List.length_take]; rfl)) ?_; (with_reducible refine (colophonlaw20_wakes.calls k2  t244 _ A19.out).mono ?_); rintro e w21 ⟨rfl, hb⟩; refine ⟨_, rfl, ?_⟩; have n0_ := Aside0.mk (below_step (by repeat (first | (with_reducible first | exact HB.out | apply below_alloc | apply pw_below_drewN | apply below_drew1) | exact HB.out)) hb); clear HB; have HB := n0_; clear n0_; (try clear hb); (try clear hb2); (try clear hk); (try clear hi)))
                      go_ret
                      exact ⟨by first | rfl | (simp [errW_none, errW_some] <;> rfl) | (simp [*, errW_none, errW_some] <;> rfl), by repeat (first | (with_reducible first | exact HB.out | apply below_alloc | apply pw_below_drewN | apply below_drew1) | exact HB.out)⟩
                    · replace c18 := Bool.eq_false_iff.mpr c18
                      subst c18
                      have H1 : (colophonlaw20_StyleIdle.l0 k2 l0 l1 t239 (wrap64 (x8_2 + 1))) = some r := by rw [if_neg (show ¬ (false = true) by decide)] at H; exact H
                      clear H
                      have H := H1
                      clear H1
                      have H' := Aside0.mk H
                      clear H
                      have p240 : 0 ≤ (t239 : Int) := of_decide_eq_true (by first | (with_reducible assumption) | assumption)
                      have q240 : t239 < (l0.length : Int) := of_decide_eq_true (by first | (with_reducible assumption) | assumption)
                      obtain ⟨ad240, A240_0, c240_0, A240_1, c240_1, e240, hx240_0, hx240_1, hl240_0, hi240_0, hl240_1, hi240_1⟩ := at_T41 HR0.out t239 p240 q240
                      cases e240
                      replace hx240_0 := (HB.out.cell (World.block_lt_of_cell? w _ hx240_0)).trans hx240_0
                      replace hx240_1 := (HB.out.cell (World.block_lt_of_cell? w _ hx240_1)).trans hx240_1
                      have HR240_0 := Aside0.mk hi240_0
                      have HC240_0 := Aside0.mk hl240_0
                      clear hi240_0 hl240_0
                      have HR240_1 := Aside0.mk hi240_1
                      have HC240_1 := Aside0.mk hl240_1
                      clear hi240_1 hl240_1
                      replace p240 := eq_true p240
                      replace q240 := eq_true q240
                      have p241 : 0 ≤ (t239 : Int) := of_decide_eq_true (by first | (with_reducible assumption) | assumption)
                      have q241 : t239 < (l0.length : Int) := of_decide_eq_true (by first | (with_reducible assumption) | assumption)
                      obtain ⟨ad241, A241_0, c241_0, A241_1, c241_1, e241, hx241_0, hx241_1, hl241_0, hi241_0, hl241_1, hi241_1⟩ := at_T41 HR0.out t239 p241 q241
                      obtain rfl : ad240 = ad241 := (by injection e241)
                      replace hx241_0 := (HB.out.cell (World.block_lt_of_cell? w _ hx241_0)).trans hx241_0
                      replace hx241_1 := (HB.out.cell (World.block_lt_of_cell? w _ hx241_1)).trans hx241_1
                      have HR241_0 := Aside0.mk hi241_0
                      have HC241_0 := Aside0.mk hl241_0
                      clear hi241_0 hl241_0
                      have HR241_1 := Aside0.mk hi241_1
                      have HC241_1 := Aside0.mk hl241_1
                      clear hi241_1 hl241_1
                      replace p241 := eq_true p241
                      replace q241 := eq_true q241
                      have ea_ := Option.some.inj (hx240_0.symm.trans hx241_0)
                      injection ea_ with ea_ en_ ec_
                      subst ea_
                      subst ec_
                      clear en_
                      have ea_ := Option.some.inj (hx240_1.symm.trans hx241_1)
                      injection ea_ with ea_ en_ ec_
                      subst ea_
                      subst ec_
                      clear en_
                      have p242 : 0 ≤ (x8_2 : Int) := of_decide_eq_true (by first | (with_reducible assumption) | assumption)
                      have q242 : x8_2 < (((rd_T41 l0 t239).f0).length : Int) := of_decide_eq_true (by first | (with_reducible assumption) | assumption)
                      obtain ⟨ad242, A242_0, c242_0, e242, hx242_0, hl242_0, hi242_0⟩ := at_T45 HR241_0.out x8_2 p242 q242
                      cases e242
                      replace hx242_0 := (HB.out.cell (World.block_lt_of_cell? w _ hx242_0)).trans hx242_0
                      have HR242_0 := Aside0.mk hi242_0
                      have HC242_0 := Aside0.mk hl242_0
                      clear hi242_0 hl242_0
                      replace p242 := eq_true p242
                      replace q242 := eq_true q242
                      go_wp2_with (first | ((with_reducible refine gate_callee (f := 21) rfl ?_); refine goesL_ (some 42) rfl rfl Try.func21 (by kernel_rfl) rfl #[.agg #[.slice A242_0 ((rd_T45 ((rd_T41 l0 t239).f0) x8_2).f0).length c242_0], .slice A1 l1.length c1] rfl (by (try simp only [List.map_toArray, List.map_cons, List.map_nil]); first | done | rfl | (simp only [List.length_drop, List.length_take]; rfl)) ?_; (with_reducible refine (colophonref19_Match.calls k2 _ _ ((rd_T45 ((rd_T41 l0 t239).f0) x8_2).f0) _ _ l1 false _ ?side1 ?side2 ?side3 ?side4 A17.out).mono ?_); (case side1 => repeat (first | exact (Kd.C_below HR242_0.out HB.out) | (with_reducible refine Kd.C_alloc ?_ _) | (with_reducible refine Kd.C_drewN ?_ _) | (with_reducible refine Kd.C_drew ?_))); (case side2 => exact HC242_0.out); (case side3 => repeat (first | exact (Kd.C_below HR1.out HB.out) | (with_reducible refine Kd.C_alloc ?_ _) | (with_reducible refine Kd.C_drewN ?_ _) | (with_reducible refine Kd.C_drew ?_))); (case side4 => exact HC1.out); rintro e w22 ⟨rfl, hb⟩; refine ⟨_, rfl, ?_⟩; have n0_ := Aside0.mk (below_step (by repeat (first | (with_reducible first | exact HB.out | apply below_alloc | apply pw_below_drewN | apply below_drew1) | exact HB.out)) hb); clear HB; have HB := n0_; clear n0_; (try clear hb); (try clear hb2); (try clear hk); (try clear hi)))
                      go_roundg k2
                      case measure => have := HJ3.out; have := HK2.out; omega
                      case rel => exact ⟨(wrap64 (x8_2 + 1)), (by first | rfl | (simp; done) | (simp [*]; done)), H', ⟨by have := HJ3.out; have := HK2.out; omega⟩, ⟨by repeat (first | (with_reducible first | exact HB.out | apply below_alloc | apply pw_below_drewN | apply below_drew1) | exact HB.out)⟩⟩
                  · rw [if_neg c16] at H
                    exact absurd H (by simp)
                · rw [if_neg c15] at H
                  have c15b0 : decide (x8_2 < (((rd_T41 l0 t239).f0).length : Int)) = false := decide_eq_false c15
                  clear c15
                  have c23b0 := eq_true (of_decide_eq_true (by first | (with_reducible assumption) | assumption) : 0 ≤ t239)
                  by_cases c24 : t239 ≤ (l0.length : Int)
                  · rw [if_pos c24] at H
                    have c24b0 := eq_true c24
                    have c24b1 : decide (t239 ≤ (l0.length : Int)) = true := decide_eq_true c24
                    clear c24
                    obtain ⟨y245, hy245⟩ : ∃ y_ : List (S41), y_ = (l0.take (t239 : Int).toNat) := ⟨_, rfl⟩
                    replace H : ((colophonref19_Copy.f k2 y245).bind fun t249 => (if 0 ≤ (wrap64 (t239 + 1)) then (if (wrap64 (t239 + 1)) ≤ (l0.length : Int) then ((colophonref19_Copy.f k2 (l0.drop ((wrap64 (t239 + 1)) : Int).toNat)).bind fun t256 => (if t249.length + t256.length < 2932031007402 then ((colophonref19_Copy.f k2 l0).bind fun t262 => ((colophonlaw20_twin.f k2 l1).bind fun t265 => ((style_First.f).bind fun bt268 => ((style_Of.f k2 t262 t265 bt268.1 bt268.2.1 bt268.2.2.1 bt268.2.2.2.1 bt268.2.2.2.2.1 bt268.2.2.2.2.2.1 bt268.2.2.2.2.2.2.1 bt268.2.2.2.2.2.2.2.1 bt268.2.2.2.2.2.2.2.2).bind fun bt277 => ((colophonlaw20_twin.f k2 l1).bind fun t286 => ((style_First.f).bind fun bt289 => ((style_Of.f k2 (t249 ++ t256) t286 bt289.1 bt289.2.1 bt289.2.2.1 bt289.2.2.2.1 bt289.2.2.2.2.1 bt289.2.2.2.2.2.1 bt289.2.2.2.2.2.2.1 bt289.2.2.2.2.2.2.2.1 bt289.2.2.2.2.2.2.2.2).bind fun bt298 => (if bt277.1 = bt298.1 then (if bt277.2.1 = bt298.2.1 then (if bt277.2.2.1 = bt298.2.2.1 then (if bt277.2.2.2.1 = bt298.2.2.2.1 then (if bt277.2.2.2.2.1 = bt298.2.2.2.2.1 then (if bt277.2.2.2.2.2.1 = bt298.2.2.2.2.2.1 then (if bt277.2.2.2.2.2.2.1 = bt298.2.2.2.2.2.2.1 then (if bt277.2.2.2.2.2.2.2.1 = bt298.2.2.2.2.2.2.2.1 then (if bt277.2.2.2.2.2.2.2.2 = bt298.2.2.2.2.2.2.2.2 then ((colophonlaw20_wakes.f k2).bind fun t307 => (some t307)) else (none)) else (none)) else (none)) else (none)) else (none)) else (none)) else (none)) else (none)) else (none))))))))) else (none))) else (none)) else (none))) = some r := by first | (rw [hy245]; with_reducible exact H) | (have H2_ := (Option.bind_some _ _).symm.trans H; rw [hy245]; with_reducible exact H2_) | (have H2_ := (Option.bind_some _ _).symm.trans H; with_reducible exact H2_) | with_reducible exact H | (rw [hy245]; exact H) | exact H
                    have Ny245 := Aside0.mk hy245
                    clear hy245
                    replace H := Option.bind_eq_some_iff.mp H
                    obtain ⟨t249, A250, H⟩ := H
                    replace H : (if 0 ≤ (wrap64 (t239 + 1)) then (if (wrap64 (t239 + 1)) ≤ (l0.length : Int) then ((colophonref19_Copy.f k2 (l0.drop ((wrap64 (t239 + 1)) : Int).toNat)).bind fun t256 => (if t249.length + t256.length < 2932031007402 then ((colophonref19_Copy.f k2 l0).bind fun t262 => ((colophonlaw20_twin.f k2 l1).bind fun t265 => ((style_First.f).bind fun bt268 => ((style_Of.f k2 t262 t265 bt268.1 bt268.2.1 bt268.2.2.1 bt268.2.2.2.1 bt268.2.2.2.2.1 bt268.2.2.2.2.2.1 bt268.2.2.2.2.2.2.1 bt268.2.2.2.2.2.2.2.1 bt268.2.2.2.2.2.2.2.2).bind fun bt277 => ((colophonlaw20_twin.f k2 l1).bind fun t286 => ((style_First.f).bind fun bt289 => ((style_Of.f k2 (t249 ++ t256) t286 bt289.1 bt289.2.1 bt289.2.2.1 bt289.2.2.2.1 bt289.2.2.2.2.1 bt289.2.2.2.2.2.1 bt289.2.2.2.2.2.2.1 bt289.2.2.2.2.2.2.2.1 bt289.2.2.2.2.2.2.2.2).bind fun bt298 => (if bt277.1 = bt298.1 then (if bt277.2.1 = bt298.2.1 then (if bt277.2.2.1 = bt298.2.2.1 then (if bt277.2.2.2.1 = bt298.2.2.2.1 then (if bt277.2.2.2.2.1 = bt298.2.2.2.2.1 then (if bt277.2.2.2.2.2.1 = bt298.2.2.2.2.2.1 then (if bt277.2.2.2.2.2.2.1 = bt298.2.2.2.2.2.2.1 then (if bt277.2.2.2.2.2.2.2.1 = bt298.2.2.2.2.2.2.2.1 then (if bt277.2.2.2.2.2.2.2.2 = bt298.2.2.2.2.2.2.2.2 then ((colophonlaw20_wakes.f k2).bind fun t307 => (some t307)) else (none)) else (none)) else (none)) else (none)) else (none)) else (none)) else (none)) else (none)) else (none))))))))) else (none))) else (none)) else (none)) = some r := H
                    have A25 := Aside0.mk A250
                    clear A250
                    obtain ⟨ji26, hji26⟩ : ∃ j_ : Int, (wrap64 (t239 + 1)) = j_ := ⟨_, rfl⟩
                    replace H : (if 0 ≤ (ji26) then (if (ji26) ≤ (l0.length : Int) then ((colophonref19_Copy.f k2 (l0.drop ((ji26) : Int).toNat)).bind fun t256 => (if t249.length + t256.length < 2932031007402 then ((colophonref19_Copy.f k2 l0).bind fun t262 => ((colophonlaw20_twin.f k2 l1).bind fun t265 => ((style_First.f).bind fun bt268 => ((style_Of.f k2 t262 t265 bt268.1 bt268.2.1 bt268.2.2.1 bt268.2.2.2.1 bt268.2.2.2.2.1 bt268.2.2.2.2.2.1 bt268.2.2.2.2.2.2.1 bt268.2.2.2.2.2.2.2.1 bt268.2.2.2.2.2.2.2.2).bind fun bt277 => ((colophonlaw20_twin.f k2 l1).bind fun t286 => ((style_First.f).bind fun bt289 => ((style_Of.f k2 (t249 ++ t256) t286 bt289.1 bt289.2.1 bt289.2.2.1 bt289.2.2.2.1 bt289.2.2.2.2.1 bt289.2.2.2.2.2.1 bt289.2.2.2.2.2.2.1 bt289.2.2.2.2.2.2.2.1 bt289.2.2.2.2.2.2.2.2).bind fun bt298 => (if bt277.1 = bt298.1 then (if bt277.2.1 = bt298.2.1 then (if bt277.2.2.1 = bt298.2.2.1 then (if bt277.2.2.2.1 = bt298.2.2.2.1 then (if bt277.2.2.2.2.1 = bt298.2.2.2.2.1 then (if bt277.2.2.2.2.2.1 = bt298.2.2.2.2.2.1 then (if bt277.2.2.2.2.2.2.1 = bt298.2.2.2.2.2.2.1 then (if bt277.2.2.2.2.2.2.2.1 = bt298.2.2.2.2.2.2.2.1 then (if bt277.2.2.2.2.2.2.2.2 = bt298.2.2.2.2.2.2.2.2 then ((colophonlaw20_wakes.f k2).bind fun t307 => (some t307)) else (none)) else (none)) else (none)) else (none)) else (none)) else (none)) else (none)) else (none)) else (none))))))))) else (none))) else (none)) else (none)) = some r := by first | (rw [hji26] at H; exact H) | (simp only [hji26] at H ⊢; exact H)
                    (try rw [hji26] at A25)
                    have hji26w : (IntKind.i64.wrap (t239 + 1)) = ji26 := (i64_w _).trans hji26
                    by_cases c27 : 0 ≤ (ji26)
                    · rw [if_pos c27] at H
                      have c27b0 := eq_true c27
                      have c27b1 : decide (0 ≤ (ji26)) = true := decide_eq_true c27
                      clear c27
                      by_cases c28 : (ji26) ≤ (l0.length : Int)
                      · rw [if_pos c28] at H
                        have c28b0 := eq_true c28
                        have c28b1 : decide ((ji26) ≤ (l0.length : Int)) = true := decide_eq_true c28
                        clear c28
                        obtain ⟨y252, hy252⟩ : ∃ y_ : List (S41), y_ = (l0.drop ((ji26) : Int).toNat) := ⟨_, rfl⟩
                        replace H : ((colophonref19_Copy.f k2 y252).bind fun t256 => (if t249.length + t256.length < 2932031007402 then ((colophonref19_Copy.f k2 l0).bind fun t262 => ((colophonlaw20_twin.f k2 l1).bind fun t265 => ((style_First.f).bind fun bt268 => ((style_Of.f k2 t262 t265 bt268.1 bt268.2.1 bt268.2.2.1 bt268.2.2.2.1 bt268.2.2.2.2.1 bt268.2.2.2.2.2.1 bt268.2.2.2.2.2.2.1 bt268.2.2.2.2.2.2.2.1 bt268.2.2.2.2.2.2.2.2).bind fun bt277 => ((colophonlaw20_twin.f k2 l1).bind fun t286 => ((style_First.f).bind fun bt289 => ((style_Of.f k2 (t249 ++ t256) t286 bt289.1 bt289.2.1 bt289.2.2.1 bt289.2.2.2.1 bt289.2.2.2.2.1 bt289.2.2.2.2.2.1 bt289.2.2.2.2.2.2.1 bt289.2.2.2.2.2.2.2.1 bt289.2.2.2.2.2.2.2.2).bind fun bt298 => (if bt277.1 = bt298.1 then (if bt277.2.1 = bt298.2.1 then (if bt277.2.2.1 = bt298.2.2.1 then (if bt277.2.2.2.1 = bt298.2.2.2.1 then (if bt277.2.2.2.2.1 = bt298.2.2.2.2.1 then (if bt277.2.2.2.2.2.1 = bt298.2.2.2.2.2.1 then (if bt277.2.2.2.2.2.2.1 = bt298.2.2.2.2.2.2.1 then (if bt277.2.2.2.2.2.2.2.1 = bt298.2.2.2.2.2.2.2.1 then (if bt277.2.2.2.2.2.2.2.2 = bt298.2.2.2.2.2.2.2.2 then ((colophonlaw20_wakes.f k2).bind fun t307 => (some t307)) else (none)) else (none)) else (none)) else (none)) else (none)) else (none)) else (none)) else (none)) else (none))))))))) else (none))) = some r := by first | (rw [hy252]; with_reducible exact H) | (have H2_ := (Option.bind_some _ _).symm.trans H; rw [hy252]; with_reducible exact H2_) | (have H2_ := (Option.bind_some _ _).symm.trans H; with_reducible exact H2_) | with_reducible exact H | (rw [hy252]; exact H) | exact H
                        have Ny252 := Aside0.mk hy252
                        clear hy252
                        replace H := Option.bind_eq_some_iff.mp H
                        obtain ⟨t256, A290, H⟩ := H
                        replace H : (if t249.length + t256.length < 2932031007402 then ((colophonref19_Copy.f k2 l0).bind fun t262 => ((colophonlaw20_twin.f k2 l1).bind fun t265 => ((style_First.f).bind fun bt268 => ((style_Of.f k2 t262 t265 bt268.1 bt268.2.1 bt268.2.2.1 bt268.2.2.2.1 bt268.2.2.2.2.1 bt268.2.2.2.2.2.1 bt268.2.2.2.2.2.2.1 bt268.2.2.2.2.2.2.2.1 bt268.2.2.2.2.2.2.2.2).bind fun bt277 => ((colophonlaw20_twin.f k2 l1).bind fun t286 => ((style_First.f).bind fun bt289 => ((style_Of.f k2 (t249 ++ t256) t286 bt289.1 bt289.2.1 bt289.2.2.1 bt289.2.2.2.1 bt289.2.2.2.2.1 bt289.2.2.2.2.2.1 bt289.2.2.2.2.2.2.1 bt289.2.2.2.2.2.2.2.1 bt289.2.2.2.2.2.2.2.2).bind fun bt298 => (if bt277.1 = bt298.1 then (if bt277.2.1 = bt298.2.1 then (if bt277.2.2.1 = bt298.2.2.1 then (if bt277.2.2.2.1 = bt298.2.2.2.1 then (if bt277.2.2.2.2.1 = bt298.2.2.2.2.1 then (if bt277.2.2.2.2.2.1 = bt298.2.2.2.2.2.1 then (if bt277.2.2.2.2.2.2.1 = bt298.2.2.2.2.2.2.1 then (if bt277.2.2.2.2.2.2.2.1 = bt298.2.2.2.2.2.2.2.1 then (if bt277.2.2.2.2.2.2.2.2 = bt298.2.2.2.2.2.2.2.2 then ((colophonlaw20_wakes.f k2).bind fun t307 => (some t307)) else (none)) else (none)) else (none)) else (none)) else (none)) else (none)) else (none)) else (none)) else (none))))))))) else (none)) = some r := H
                        have A29 := Aside0.mk A290
                        clear A290
                        by_cases c30 : t249.length + t256.length < 2932031007402
                        · rw [if_pos c30] at H
                          have LMc30 := Aside0.mk c30
                          clear c30
                          obtain ⟨y259, hy259⟩ : ∃ y_ : List (S41), y_ = (t249 ++ t256) := ⟨_, rfl⟩
                          replace H : ((colophonref19_Copy.f k2 l0).bind fun t262 => ((colophonlaw20_twin.f k2 l1).bind fun t265 => ((style_First.f).bind fun bt268 => ((style_Of.f k2 t262 t265 bt268.1 bt268.2.1 bt268.2.2.1 bt268.2.2.2.1 bt268.2.2.2.2.1 bt268.2.2.2.2.2.1 bt268.2.2.2.2.2.2.1 bt268.2.2.2.2.2.2.2.1 bt268.2.2.2.2.2.2.2.2).bind fun bt277 => ((colophonlaw20_twin.f k2 l1).bind fun t286 => ((style_First.f).bind fun bt289 => ((style_Of.f k2 y259 t286 bt289.1 bt289.2.1 bt289.2.2.1 bt289.2.2.2.1 bt289.2.2.2.2.1 bt289.2.2.2.2.2.1 bt289.2.2.2.2.2.2.1 bt289.2.2.2.2.2.2.2.1 bt289.2.2.2.2.2.2.2.2).bind fun bt298 => (if bt277.1 = bt298.1 then (if bt277.2.1 = bt298.2.1 then (if bt277.2.2.1 = bt298.2.2.1 then (if bt277.2.2.2.1 = bt298.2.2.2.1 then (if bt277.2.2.2.2.1 = bt298.2.2.2.2.1 then (if bt277.2.2.2.2.2.1 = bt298.2.2.2.2.2.1 then (if bt277.2.2.2.2.2.2.1 = bt298.2.2.2.2.2.2.1 then (if bt277.2.2.2.2.2.2.2.1 = bt298.2.2.2.2.2.2.2.1 then (if bt277.2.2.2.2.2.2.2.2 = bt298.2.2.2.2.2.2.2.2 then ((colophonlaw20_wakes.f k2).bind fun t307 => (some t307)) else (none)) else (none)) else (none)) else (none)) else (none)) else (none)) else (none)) else (none)) else (none))))))))) = some r := by first | (rw [hy259]; with_reducible exact H) | (have H2_ := (Option.bind_some _ _).symm.trans H; rw [hy259]; with_reducible exact H2_) | (have H2_ := (Option.bind_some _ _).symm.trans H; with_reducible exact H2_) | with_reducible exact H | (rw [hy259]; exact H) | exact H
                          have Ny259 := Aside0.mk hy259
                          clear hy259
                          replace H := Option.bind_eq_some_iff.mp H
                          obtain ⟨t262, A310, H⟩ := H
                          replace H : ((colophonlaw20_twin.f k2 l1).bind fun t265 => ((style_First.f).bind fun bt268 => ((style_Of.f k2 t262 t265 bt268.1 bt268.2.1 bt268.2.2.1 bt268.2.2.2.1 bt268.2.2.2.2.1 bt268.2.2.2.2.2.1 bt268.2.2.2.2.2.2.1 bt268.2.2.2.2.2.2.2.1 bt268.2.2.2.2.2.2.2.2).bind fun bt277 => ((colophonlaw20_twin.f k2 l1).bind fun t286 => ((style_First.f).bind fun bt289 => ((style_Of.f k2 y259 t286 bt289.1 bt289.2.1 bt289.2.2.1 bt289.2.2.2.1 bt289.2.2.2.2.1 bt289.2.2.2.2.2.1 bt289.2.2.2.2.2.2.1 bt289.2.2.2.2.2.2.2.1 bt289.2.2.2.2.2.2.2.2).bind fun bt298 => (if bt277.1 = bt298.1 then (if bt277.2.1 = bt298.2.1 then (if bt277.2.2.1 = bt298.2.2.1 then (if bt277.2.2.2.1 = bt298.2.2.2.1 then (if bt277.2.2.2.2.1 = bt298.2.2.2.2.1 then (if bt277.2.2.2.2.2.1 = bt298.2.2.2.2.2.1 then (if bt277.2.2.2.2.2.2.1 = bt298.2.2.2.2.2.2.1 then (if bt277.2.2.2.2.2.2.2.1 = bt298.2.2.2.2.2.2.2.1 then (if bt277.2.2.2.2.2.2.2.2 = bt298.2.2.2.2.2.2.2.2 then ((colophonlaw20_wakes.f k2).bind fun t307 => (some t307)) else (none)) else (none)) else (none)) else (none)) else (none)) else (none)) else (none)) else (none)) else (none)))))))) = some r := H
                          have A31 := Aside0.mk A310
                          clear A310
                          replace H := Option.bind_eq_some_iff.mp H
                          obtain ⟨t265, A320, H⟩ := H
                          replace H : ((style_First.f).bind fun bt268 => ((style_Of.f k2 t262 t265 bt268.1 bt268.2.1 bt268.2.2.1 bt268.2.2.2.1 bt268.2.2.2.2.1 bt268.2.2.2.2.2.1 bt268.2.2.2.2.2.2.1 bt268.2.2.2.2.2.2.2.1 bt268.2.2.2.2.2.2.2.2).bind fun bt277 => ((colophonlaw20_twin.f k2 l1).bind fun t286 => ((style_First.f).bind fun bt289 => ((style_Of.f k2 y259 t286 bt289.1 bt289.2.1 bt289.2.2.1 bt289.2.2.2.1 bt289.2.2.2.2.1 bt289.2.2.2.2.2.1 bt289.2.2.2.2.2.2.1 bt289.2.2.2.2.2.2.2.1 bt289.2.2.2.2.2.2.2.2).bind fun bt298 => (if bt277.1 = bt298.1 then (if bt277.2.1 = bt298.2.1 then (if bt277.2.2.1 = bt298.2.2.1 then (if bt277.2.2.2.1 = bt298.2.2.2.1 then (if bt277.2.2.2.2.1 = bt298.2.2.2.2.1 then (if bt277.2.2.2.2.2.1 = bt298.2.2.2.2.2.1 then (if bt277.2.2.2.2.2.2.1 = bt298.2.2.2.2.2.2.1 then (if bt277.2.2.2.2.2.2.2.1 = bt298.2.2.2.2.2.2.2.1 then (if bt277.2.2.2.2.2.2.2.2 = bt298.2.2.2.2.2.2.2.2 then ((colophonlaw20_wakes.f k2).bind fun t307 => (some t307)) else (none)) else (none)) else (none)) else (none)) else (none)) else (none)) else (none)) else (none)) else (none))))))) = some r := H
                          have A32 := Aside0.mk A320
                          clear A320
                          replace H := Option.bind_eq_some_iff.mp H
                          obtain ⟨⟨t268, t269, t270, t271, t272, t273, t274, t275, t276⟩, A330, H⟩ := H
                          replace H : ((style_Of.f k2 t262 t265 t268 t269 t270 t271 t272 t273 t274 t275 t276).bind fun bt277 => ((colophonlaw20_twin.f k2 l1).bind fun t286 => ((style_First.f).bind fun bt289 => ((style_Of.f k2 y259 t286 bt289.1 bt289.2.1 bt289.2.2.1 bt289.2.2.2.1 bt289.2.2.2.2.1 bt289.2.2.2.2.2.1 bt289.2.2.2.2.2.2.1 bt289.2.2.2.2.2.2.2.1 bt289.2.2.2.2.2.2.2.2).bind fun bt298 => (if bt277.1 = bt298.1 then (if bt277.2.1 = bt298.2.1 then (if bt277.2.2.1 = bt298.2.2.1 then (if bt277.2.2.2.1 = bt298.2.2.2.1 then (if bt277.2.2.2.2.1 = bt298.2.2.2.2.1 then (if bt277.2.2.2.2.2.1 = bt298.2.2.2.2.2.1 then (if bt277.2.2.2.2.2.2.1 = bt298.2.2.2.2.2.2.1 then (if bt277.2.2.2.2.2.2.2.1 = bt298.2.2.2.2.2.2.2.1 then (if bt277.2.2.2.2.2.2.2.2 = bt298.2.2.2.2.2.2.2.2 then ((colophonlaw20_wakes.f k2).bind fun t307 => (some t307)) else (none)) else (none)) else (none)) else (none)) else (none)) else (none)) else (none)) else (none)) else (none)))))) = some r := H
                          have A33 := Aside0.mk A330
                          clear A330
                          replace H := Option.bind_eq_some_iff.mp H
                          obtain ⟨⟨t277, t278, t279, t280, t281, t282, t283, t284, t285⟩, A340, H⟩ := H
                          replace H : ((colophonlaw20_twin.f k2 l1).bind fun t286 => ((style_First.f).bind fun bt289 => ((style_Of.f k2 y259 t286 bt289.1 bt289.2.1 bt289.2.2.1 bt289.2.2.2.1 bt289.2.2.2.2.1 bt289.2.2.2.2.2.1 bt289.2.2.2.2.2.2.1 bt289.2.2.2.2.2.2.2.1 bt289.2.2.2.2.2.2.2.2).bind fun bt298 => (if t277 = bt298.1 then (if t278 = bt298.2.1 then (if t279 = bt298.2.2.1 then (if t280 = bt298.2.2.2.1 then (if t281 = bt298.2.2.2.2.1 then (if t282 = bt298.2.2.2.2.2.1 then (if t283 = bt298.2.2.2.2.2.2.1 then (if t284 = bt298.2.2.2.2.2.2.2.1 then (if t285 = bt298.2.2.2.2.2.2.2.2 then ((colophonlaw20_wakes.f k2).bind fun t307 => (some t307)) else (none)) else (none)) else (none)) else (none)) else (none)) else (none)) else (none)) else (none)) else (none))))) = some r := H
                          have A34 := Aside0.mk A340
                          clear A340
                          replace H := Option.bind_eq_some_iff.mp H
                          obtain ⟨t286, A350, H⟩ := H
                          replace H : ((style_First.f).bind fun bt289 => ((style_Of.f k2 y259 t286 bt289.1 bt289.2.1 bt289.2.2.1 bt289.2.2.2.1 bt289.2.2.2.2.1 bt289.2.2.2.2.2.1 bt289.2.2.2.2.2.2.1 bt289.2.2.2.2.2.2.2.1 bt289.2.2.2.2.2.2.2.2).bind fun bt298 => (if t277 = bt298.1 then (if t278 = bt298.2.1 then (if t279 = bt298.2.2.1 then (if t280 = bt298.2.2.2.1 then (if t281 = bt298.2.2.2.2.1 then (if t282 = bt298.2.2.2.2.2.1 then (if t283 = bt298.2.2.2.2.2.2.1 then (if t284 = bt298.2.2.2.2.2.2.2.1 then (if t285 = bt298.2.2.2.2.2.2.2.2 then ((colophonlaw20_wakes.f k2).bind fun t307 => (some t307)) else (none)) else (none)) else (none)) else (none)) else (none)) else (none)) else (none)) else (none)) else (none)))) = some r := H
                          have A35 := Aside0.mk A350
                          clear A350
                          replace H := Option.bind_eq_some_iff.mp H
                          obtain ⟨⟨t289, t290, t291, t292, t293, t294, t295, t296, t297⟩, A360, H⟩ := H
                          replace H : ((style_Of.f k2 y259 t286 t289 t290 t291 t292 t293 t294 t295 t296 t297).bind fun bt298 => (if t277 = bt298.1 then (if t278 = bt298.2.1 then (if t279 = bt298.2.2.1 then (if t280 = bt298.2.2.2.1 then (if t281 = bt298.2.2.2.2.1 then (if t282 = bt298.2.2.2.2.2.1 then (if t283 = bt298.2.2.2.2.2.2.1 then (if t284 = bt298.2.2.2.2.2.2.2.1 then (if t285 = bt298.2.2.2.2.2.2.2.2 then ((colophonlaw20_wakes.f k2).bind fun t307 => (some t307)) else (none)) else (none)) else (none)) else (none)) else (none)) else (none)) else (none)) else (none)) else (none))) = some r := H
                          have A36 := Aside0.mk A360
                          clear A360
                          replace H := Option.bind_eq_some_iff.mp H
                          obtain ⟨⟨t298, t299, t300, t301, t302, t303, t304, t305, t306⟩, A370, H⟩ := H
                          replace H : (if t277 = t298 then (if t278 = t299 then (if t279 = t300 then (if t280 = t301 then (if t281 = t302 then (if t282 = t303 then (if t283 = t304 then (if t284 = t305 then (if t285 = t306 then ((colophonlaw20_wakes.f k2).bind fun t307 => (some t307)) else (none)) else (none)) else (none)) else (none)) else (none)) else (none)) else (none)) else (none)) else (none)) = some r := H
                          have A37 := Aside0.mk A370
                          clear A370
                          by_cases c38 : t277 = t298
                          · rw [if_pos c38] at H
                            have c38b0 : (t277 == t298) = true := beq_iff_eq.mpr c38
                            have c38b1 : (t277 != t298) = false := bne_eq_false_iff_eq.mpr c38
                            clear c38
                            by_cases c39 : t278 = t299
                            · rw [if_pos c39] at H
                              have c39b0 : (t278 == t299) = true := beq_iff_eq.mpr c39
                              have c39b1 : (t278 != t299) = false := bne_eq_false_iff_eq.mpr c39
                              clear c39
                              by_cases c40 : t279 = t300
                              · rw [if_pos c40] at H
                                have c40b0 : (t279 == t300) = true := beq_iff_eq.mpr c40
                                have c40b1 : (t279 != t300) = false := bne_eq_false_iff_eq.mpr c40
                                clear c40
                                by_cases c41 : t280 = t301
                                · rw [if_pos c41] at H
                                  have c41b0 : (t280 == t301) = true := beq_iff_eq.mpr c41
                                  have c41b1 : (t280 != t301) = false := bne_eq_false_iff_eq.mpr c41
                                  clear c41
                                  by_cases c42 : t281 = t302
                                  · rw [if_pos c42] at H
                                    have c42b0 : (t281 == t302) = true := beq_iff_eq.mpr c42
                                    have c42b1 : (t281 != t302) = false := bne_eq_false_iff_eq.mpr c42
                                    clear c42
                                    by_cases c43 : t282 = t303
                                    · rw [if_pos c43] at H
                                      have c43b0 : (t282 == t303) = true := beq_iff_eq.mpr c43
                                      have c43b1 : (t282 != t303) = false := bne_eq_false_iff_eq.mpr c43
                                      clear c43
                                      by_cases c44 : t283 = t304
                                      · rw [if_pos c44] at H
                                        have c44b0 : (t283 == t304) = true := beq_iff_eq.mpr c44
                                        have c44b1 : (t283 != t304) = false := bne_eq_false_iff_eq.mpr c44
                                        clear c44
                                        by_cases c45 : t284 = t305
                                        · rw [if_pos c45] at H
                                          have c45b0 : (t284 == t305) = true := beq_iff_eq.mpr c45
                                          have c45b1 : (t284 != t305) = false := bne_eq_false_iff_eq.mpr c45
                                          clear c45
                                          by_cases c46 : t285 = t306
                                          · rw [if_pos c46] at H
                                            have c46b0 : (t285 == t306) = true := beq_iff_eq.mpr c46
                                            have c46b1 : (t285 != t306) = false := bne_eq_false_iff_eq.mpr c46
                                            clear c46
                                            replace H := Option.bind_eq_some_iff.mp H
                                            obtain ⟨t307, A470, H⟩ := H
                                            have heq : ∀ w : World, (Op.equalIn 10000 33 (.agg #[.int .i64 t277, .int .i64 t278, .int .i64 t279, .int .i64 t280, .int .i64 t281, .int .i64 t282, .int .i64 t283, .int .i64 t284, .int .i64 t285]) (.agg #[.int .i64 t298, .int .i64 t299, .int .i64 t300, .int .i64 t301, .int .i64 t302, .int .i64 t303, .int .i64 t304, .int .i64 t305, .int .i64 t306])).run Try.prog w = .ok true w := by
                                              intro w
                                              obtain rfl := beq_iff_eq.mp c38b0
                                              obtain rfl := beq_iff_eq.mp c39b0
                                              obtain rfl := beq_iff_eq.mp c40b0
                                              obtain rfl := beq_iff_eq.mp c41b0
                                              obtain rfl := beq_iff_eq.mp c42b0
                                              obtain rfl := beq_iff_eq.mp c43b0
                                              obtain rfl := beq_iff_eq.mp c44b0
                                              obtain rfl := beq_iff_eq.mp c45b0
                                              obtain rfl := beq_iff_eq.mp c46b0
                                              exact (St.eq_arr 9998 33 9 Try.underlying33 [t277, t278, t279, t280, t281, t282, t283, t284, t285] [t277, t278, t279, t280, t281, t282, t283, t284, t285] w rfl rfl).trans (by rw [decide_eq_true rfl])
                                            replace H : (some t307) = some r := H
                                            have A47 := Aside0.mk A470
                                            clear A470
                                            obtain rfl := Option.some.inj H
                                            have p240 : 0 ≤ (t239 : Int) := of_decide_eq_true (by first | (with_reducible assumption) | assumption)
                                            have q240 : t239 < (l0.length : Int) := of_decide_eq_true (by first | (with_reducible assumption) | assumption)
                                            obtain ⟨ad240, A240_0, c240_0, A240_1, c240_1, e240, hx240_0, hx240_1, hl240_0, hi240_0, hl240_1, hi240_1⟩ := at_T41 HR0.out t239 p240 q240
                                            cases e240
                                            replace hx240_0 := (HB.out.cell (World.block_lt_of_cell? w _ hx240_0)).trans hx240_0
                                            replace hx240_1 := (HB.out.cell (World.block_lt_of_cell? w _ hx240_1)).trans hx240_1
                                            have HR240_0 := Aside0.mk hi240_0
                                            have HC240_0 := Aside0.mk hl240_0
                                            clear hi240_0 hl240_0
                                            have HR240_1 := Aside0.mk hi240_1
                                            have HC240_1 := Aside0.mk hl240_1
                                            clear hi240_1 hl240_1
                                            replace p240 := eq_true p240
                                            replace q240 := eq_true q240
                                            try go_wp2
                                            have n0_ := Aside0.mk (below_drew1 HB.out)
                                            clear HB
                                            have HB := n0_
                                            clear n0_
                                            have q49 : (t239 : Int) ≤ ((l0.length : Int) : Int) := of_decide_eq_true (by first | (with_reducible assumption) | assumption)
                                            obtain ⟨i049, hi049, _, hsz49, _⟩ := info_parts info41
                                            have hroom49 : l0.length ≤ c0 := HC0.out
                                            have hC49 : Kd.C k41 _ (some ad240) l0.length l0 := HR0.out
                                            have hcut49 := cut_to (P := Try.prog) 22 41 .i64 Try.underlying22 hi049 (some ad240) l0.length c0 t239 (of_decide_eq_true (by first | (with_reducible assumption) | assumption)) q49 hroom49
                                            have hr49 := Kd.C_take (m := (t239 : Int).toNat) hC49 (by omega)
                                            have hy49 : y245.length = (t239 : Int).toNat := (by rw [Ny245.out, List.length_take]; omega)
                                            rw [← Ny245.out] at hr49
                                            rw [← hy49] at hcut49
                                            have HR248 := Aside0.mk hr49
                                            have HC248 := Aside0.mk (show y245.length ≤ c0 from by omega)
                                            clear hr49 hC49 hroom49 hi049 hsz49
                                            have KY49 := Aside0.mk hy49
                                            clear hy49
                                            replace q49 := eq_true q49
                                            have q50 : ((ji26) : Int) ≤ ((l0.length : Int) : Int) := of_decide_eq_true (by first | (with_reducible assumption) | assumption)
                                            obtain ⟨i050, hi050, _, hsz50, _⟩ := info_parts info41
                                            have hroom50 : l0.length ≤ c0 := HC0.out
                                            have hC50 : Kd.C k41 _ (some ad240) l0.length l0 := HR0.out
                                            have q050 : (0 : Int) ≤ ((ji26) : Int) := of_decide_eq_true (by first | (with_reducible assumption) | assumption)
                                            have hcut50 := cut_from (P := Try.prog) 22 41 .i64 Try.underlying22 hi050 2 hsz50 (some ad240) l0.length c0 (ji26) q050 q50
                                            have hr50 := Kd.C_drop (m := ((ji26) : Int).toNat) (c := c0) hC50 (by omega) hroom50
                                            obtain ⟨A50, hA50⟩ : ∃ A1, A1 = (if c0 = ((ji26) : Int).toNat then (some ad240) else ((some ad240) : Option Addr).map (·.add (((ji26) : Int).toNat * 2))) := ⟨_, rfl⟩
                                            obtain ⟨c50, hc50⟩ : ∃ c1, c1 = c0 - ((ji26) : Int).toNat := ⟨_, rfl⟩
                                            have hy50 : y252.length = l0.length - ((ji26) : Int).toNat := (by rw [Ny252.out, List.length_drop] <;> omega)
                                            rw [show (l0).drop ((ji26) : Int).toNat = y252 from Ny252.out.symm] at hr50
                                            replace hr50 : Kd.C k41 _ A50 y252.length y252 := (by rw [hA50]; exact hr50)
                                            rw [← hy50, ← hA50, ← hc50] at hcut50
                                            have HR255 := Aside0.mk hr50
                                            have HC255 := Aside0.mk (show y252.length ≤ c50 from by rw [hy50, hc50]; exact Nat.sub_le_sub_right hroom50 _)
                                            clear hr50 hC50 hroom50 hi050 hsz50 hc50
                                            have KY50 := Aside0.mk hy50
                                            have KA50 := Aside0.mk hA50
                                            clear hy50 hA50
                                            replace q50 := eq_true q50
                                            refine start_ (n := 11) (S := fun w' => True) (ds := []) #[false, false, false, false, false, false, false, false, false, false, false] (by kernel_rfl) rfl rfl trivial (fun hHeld => ?_); refine with_tabW colophonlaw20_StyleIdle.tab9 colophonlaw20_StyleIdle.bits9 (fun HT_ HW_ => ?_)
                                            generalize wr.drew = w48 at HB HR248 HR255 hHeld ⊢
                                            refine pure_ (i := 0) (N := some 44) (v := ?_) (a' := ?_) #[true, false, false, false, false, false, false, false, false, false, false] rfl rfl (any_of HT_.out (by kernel_rfl)) (fun _ _ _ h => h) (Or.inl ⟨by rfl, ?_⟩) ?_ ?_
                                            rotate_left
                                            · intro w'
                                              go_simp
                                              with_reducible rfl
                                            rotate_left
                                            · simp only [Act.put, List.setIfInBounds_toArray, List.set_cons_zero, List.set_cons_succ, i64_w, i32_w]
                                              rfl
                                            refine pure_ (i := 1) (N := some 45) (v := ?_) (a' := ?_) #[true, true, false, false, false, false, false, false, false, false, false] rfl rfl (any_of HT_.out (by kernel_rfl)) (fun _ _ _ h => h) (Or.inl ⟨by rfl, ?_⟩) ?_ ?_
                                            rotate_left
                                            · intro w'
                                              go_simp
                                              with_reducible rfl
                                            rotate_left
                                            · simp only [Act.put, List.setIfInBounds_toArray, List.set_cons_zero, List.set_cons_succ, i64_w, i32_w]
                                              rfl
                                            refine pure_ (i := 2) (N := some 46) (v := ?_) (a' := ?_) #[true, true, true, false, false, false, false, false, false, false, false] rfl rfl (any_of HT_.out (by kernel_rfl)) (fun _ _ _ h => h) (Or.inl ⟨by rfl, ?_⟩) ?_ ?_
                                            rotate_left
                                            · intro w'
                                              go_simp
                                              with_reducible rfl
                                            rotate_left
                                            · simp only [Act.put, List.setIfInBounds_toArray, List.set_cons_zero, List.set_cons_succ, i64_w, i32_w]
                                              rfl
                                            refine pure_ (i := 4) (N := some 48) (v := ?_) (a' := ?_) #[true, true, true, false, true, false, false, false, false, false, false] rfl rfl (any_of HT_.out (by kernel_rfl)) (fun _ _ _ h => h) (Or.inl ⟨by rfl, ?_⟩) ?_ ?_
                                            rotate_left
                                            · intro w'
                                              go_simp
                                              with_reducible rfl
                                            rotate_left
                                            · simp only [Act.put, List.setIfInBounds_toArray, List.set_cons_zero, List.set_cons_succ, i64_w, i32_w]
                                              rfl
                                            refine pure_ (i := 5) (N := some 49) (v := ?_) (a' := ?_) #[true, true, true, false, true, true, false, false, false, false, false] rfl rfl (any_of HT_.out (by kernel_rfl)) (fun _ _ _ h => h) (Or.inl ⟨by rfl, ?_⟩) ?_ ?_
                                            rotate_left
                                            · intro w'
                                              go_simp
                                              with_reducible rfl
                                            rotate_left
                                            · simp only [Act.put, List.setIfInBounds_toArray, List.set_cons_zero, List.set_cons_succ, i64_w, i32_w]
                                              rfl
                                            refine pure_ (i := 6) (N := some 50) (v := ?_) (a' := ?_) #[true, true, true, false, true, true, true, false, false, false, false] rfl rfl (any_of HT_.out (by kernel_rfl)) (fun _ _ _ h => h) (Or.inl ⟨by rfl, ?_⟩) ?_ ?_
                                            rotate_left
                                            · intro w'
                                              go_simp
                                              with_reducible rfl
                                            rotate_left
                                            · simp only [Act.put, List.setIfInBounds_toArray, List.set_cons_zero, List.set_cons_succ, i64_w, i32_w]
                                              rfl
                                            refine pure_ (i := 7) (N := some 51) (v := ?_) (a' := ?_) #[true, true, true, false, true, true, true, true, false, false, false] rfl rfl (any_of HT_.out (by kernel_rfl)) (fun _ _ _ h => h) (Or.inl ⟨by rfl, ?_⟩) ?_ ?_
                                            rotate_left
                                            · intro w'
                                              go_simp
                                              with_reducible rfl
                                            rotate_left
                                            · simp only [Act.put, List.setIfInBounds_toArray, List.set_cons_zero, List.set_cons_succ, i64_w, i32_w]
                                              rfl
                                            refine one_ (i := 3) (N := some 47) #[true, true, true, true, true, true, true, true, false, false, false] rfl rfl (one_of HT_.out (by kernel_rfl)) (by decide) (fun K hK => ?_)
                                            refine goes_ Try.func11 (by kernel_rfl) rfl #[.slice (some ad240) y245.length c0] (by rfl) rfl rfl (by (try simp only [List.map_toArray, List.map_cons, List.map_nil]); first | done | rfl | (simp only [List.length_drop, List.length_take]; rfl)) ?_
                                            with_reducible refine (colophonref19_Copy.calls k2 _ _ y245 t249 _ ?side1 ?side2 A25.out).mono ?_
                                            (case side1 => repeat (first | exact (Kd.C_below HR248.out HB.out) | (with_reducible refine Kd.C_alloc ?_ _) | (with_reducible refine Kd.C_drewN ?_ _) | (with_reducible refine Kd.C_drew ?_)))
                                            (case side2 => exact HC248.out)
                                            rintro e w51 ⟨v250, rfl, ho0, hb⟩
                                            refine ⟨_, rfl, ?_⟩
                                            have n0_ := Aside0.mk (Kd.N_lower (Kd.N_mono (ok' := fun k_ => True) (Kd.R_N (Kd.R_bound ho0)) (fun k_ hk_ => trivial)) (below_size (by repeat (first | (with_reducible first | exact HB.out | apply below_alloc | apply pw_below_drewN | apply below_drew1) | exact HB.out))))
                                            have n1_ := Aside0.mk (below_step (by repeat (first | (with_reducible first | exact HB.out | apply below_alloc | apply pw_below_drewN | apply below_drew1) | exact HB.out)) hb)
                                            clear HB
                                            have HO251 := n0_
                                            have HB := n1_
                                            clear n0_ n1_
                                            (try clear hb)
                                            (try clear hb2)
                                            (try clear hk)
                                            (try clear hi)
                                            (try clear ho0)
                                            refine hK.out _ _ trivial (fun hHeld => ?_)
                                            clear hK K
                                            refine norm_ (a' := ?_) ?_ ?_
                                            rotate_left
                                            · show Act.put _ (some 47) _ = _
                                              simp only [Act.put, List.setIfInBounds_toArray, List.set_cons_zero, List.set_cons_succ, i64_w, i32_w]
                                              rfl
                                            refine one_ (i := 8) (N := some 52) #[true, true, true, true, true, true, true, true, true, false, false] rfl rfl (one_of HT_.out (by kernel_rfl)) (by decide) (fun K hK => ?_)
                                            refine goes_ Try.func11 (by kernel_rfl) rfl #[.slice A50 y252.length c50] (by rfl) rfl rfl (by (try simp only [List.map_toArray, List.map_cons, List.map_nil]); first | done | rfl | (simp only [List.length_drop, List.length_take]; rfl)) ?_
                                            with_reducible refine (colophonref19_Copy.calls k2 _ _ y252 t256 _ ?side1 ?side2 A29.out).mono ?_
                                            (case side1 => repeat (first | exact (Kd.C_below HR255.out HB.out) | (with_reducible refine Kd.C_alloc ?_ _) | (with_reducible refine Kd.C_drewN ?_ _) | (with_reducible refine Kd.C_drew ?_)))
                                            (case side2 => exact HC255.out)
                                            rintro e w52 ⟨v257, rfl, ho0, hb⟩
                                            refine ⟨_, rfl, ?_⟩
                                            have n0_ := Aside0.mk (Kd.N_elder' (by (with_reducible repeat (first | apply Kd.N_alloc | apply Kd.N_drewN | apply Kd.N_drew)); exact HO251.out) (by first | exact Kd.N_base ho0 | exact Kd.R_base ho0 | exact Kd.R_base (Kd.S_R ho0)) hb)
                                            have n1_ := Aside0.mk (Kd.N_lower (Kd.N_mono (ok' := fun k_ => some k_ ≠ (v250 : Value).ownBlock) (Kd.R_N (Kd.R_bound ho0)) (fun k_ hk_ => (Kd.fresh' (Kd.N_lt (by (with_reducible repeat (first | apply Kd.N_alloc | apply Kd.N_drewN | apply Kd.N_drew)); exact HO251.out)) k_ hk_.2.1))) (below_size (by repeat (first | (with_reducible first | exact HB.out | apply below_alloc | apply pw_below_drewN | apply below_drew1) | exact HB.out))))
                                            have n2_ := Aside0.mk (below_step (by repeat (first | (with_reducible first | exact HB.out | apply below_alloc | apply pw_below_drewN | apply below_drew1) | exact HB.out)) hb)
                                            clear HO251
                                            clear HB
                                            have HO251 := n0_
                                            have HO258 := n1_
                                            have HB := n2_
                                            clear n0_ n1_ n2_
                                            (try clear hb)
                                            (try clear hb2)
                                            (try clear hk)
                                            (try clear hi)
                                            (try clear ho0)
                                            obtain ⟨Ao54, co54, eo54⟩ := Kd.N_slice HO258.out
                                            (first | subst eo54 | (injection eo54 with f1_ f2_ f3_; have f4_ := f1_.symm; have f5_ := f3_.symm; clear f1_ f2_ f3_; subst f4_; subst f5_))
                                            refine hK.out _ _ trivial (fun hHeld => ?_)
                                            clear hK K
                                            refine norm_ (a' := ?_) ?_ ?_
                                            rotate_left
                                            · show Act.put _ (some 52) _ = _
                                              simp only [Act.put, List.setIfInBounds_toArray, List.set_cons_zero, List.set_cons_succ, i64_w, i32_w]
                                              rfl
                                            refine one_ (i := 9) (N := some 53) #[true, true, true, true, true, true, true, true, true, true, false] rfl rfl (one_of HT_.out (by kernel_rfl)) (by decide) (fun K hK => ?_)
                                            refine Kd.N_append_rows_step k41 (w0 := w) w.heap.size (by rfl) (.tmp 47) (.tmp 52) 22 41 (.agg #[(.slice none 0 0), (.slice none 0 0)]) 48 rfl Try.underlying22 info41 rfl (by decide) (by omega) v250 t249 t256 _ _ _ (fun _ => True) (fun k_ => ((fun _ => True)) k_ ∧ some k_ ≠ (v250 : Value).ownBlock) rfl rfl ?aO ?aR (fun _ hk => hk) ?aF ?aB ?aS ?aL ?_
                                            (case aR => exact (by skip; exact Kd.N_F (Kd.N_mono (ok' := (fun k_ => ((fun _ => True)) k_ ∧ some k_ ≠ (v250 : Value).ownBlock)) (HO258.out) (fun k_ hk => ⟨trivial, hk⟩))))
                                            (case aB => exact (by repeat (first | (with_reducible first | exact HB.out | apply below_alloc | apply pw_below_drewN | apply below_drew1) | exact HB.out)))
                                            (case aF => exact (fun _ _ => trivial))
                                            (case aO => exact (by (with_reducible repeat (first | apply Kd.N_alloc | apply Kd.N_drewN | apply Kd.N_drew)); exact Kd.N_mono HO251.out (fun _ hk => trivial)))
                                            (case aS => exact (below_size (by repeat (first | (with_reducible first | exact HB.out | apply below_alloc | apply pw_below_drewN | apply below_drew1) | exact HB.out))))
                                            (case aL => have := LMc30.out; omega)
                                            intro v260 w53 ho hb hg hat
                                            rw [← Ny259.out] at ho
                                            have n0_ := Aside0.mk (Kd.N_afterv (ok := (fun _ => True)) (by (with_reducible repeat (first | apply Kd.N_alloc | apply Kd.N_drewN | apply Kd.N_drew)); exact Kd.N_mono HO258.out (fun _ hk => ⟨trivial, hk⟩)) hg hat)
                                            have n1_ := Aside0.mk (hb)
                                            have n2_ := Aside0.mk (ho)
                                            clear HO258
                                            clear HB
                                            clear HO251
                                            have HO258 := n0_
                                            have HB := n1_
                                            have HO261 := n2_
                                            clear n0_ n1_ n2_
                                            clear ho hb hg hat
                                            refine hK.out _ _ trivial (fun hHeld => ?_)
                                            clear hK K
                                            refine norm_ (a' := ?_) ?_ ?_
                                            rotate_left
                                            · show Act.put _ (some 53) _ = _
                                              simp only [Act.put, List.setIfInBounds_toArray, List.set_cons_zero, List.set_cons_succ, i64_w, i32_w]
                                              rfl
                                            refine pure_ (i := 10) (N := some 9) (v := ?_) (a' := ?_) #[true, true, true, true, true, true, true, true, true, true, true] rfl rfl (any_of HT_.out (by kernel_rfl)) (fun _ _ _ h => h) (Or.inl ⟨by rfl, ?_⟩) ?_ ?_
                                            rotate_left
                                            · intro w'
                                              go_simp
                                              with_reducible rfl
                                            rotate_left
                                            · simp only [Act.put, List.setIfInBounds_toArray, List.set_cons_zero, List.set_cons_succ, i64_w, i32_w]
                                              rfl
                                            refine done_ (done_of HT_.out (by kernel_rfl)) ?_
                                            try go_wp2_with (first | ((with_reducible refine gate_callee (f := 11) rfl ?_); refine goesL_ (some 55) rfl rfl Try.func11 (by kernel_rfl) rfl #[.slice (some ad240) l0.length c0] rfl (by (try simp only [List.map_toArray, List.map_cons, List.map_nil]); first | done | rfl | (simp only [List.length_drop, List.length_take]; rfl)) ?_; (with_reducible refine (colophonref19_Copy.calls k2 _ _ l0 t262 _ ?side1 ?side2 A31.out).mono ?_); (case side1 => repeat (first | exact (Kd.C_below HR0.out HB.out) | (with_reducible refine Kd.C_alloc ?_ _) | (with_reducible refine Kd.C_drewN ?_ _) | (with_reducible refine Kd.C_drew ?_))); (case side2 => exact HC0.out); rintro e w55 ⟨v263, rfl, ho0, hb⟩; refine ⟨_, rfl, ?_⟩; have n0_ := Aside0.mk (Kd.N_elder' (by (with_reducible repeat (first | apply Kd.N_alloc | apply Kd.N_drewN | apply Kd.N_drew)); exact HO258.out) (by first | exact Kd.N_base ho0 | exact Kd.R_base ho0 | exact Kd.R_base (Kd.S_R ho0)) hb); have n1_ := Aside0.mk (Kd.N_elder' (by (with_reducible repeat (first | apply Kd.N_alloc | apply Kd.N_drewN | apply Kd.N_drew)); exact HO261.out) (by first | exact Kd.N_base ho0 | exact Kd.R_base ho0 | exact Kd.R_base (Kd.S_R ho0)) hb); have n2_ := Aside0.mk (Kd.N_lower (Kd.N_mono (ok' := fun k_ => some k_ ≠ (.slice Ao54 t256.length co54 : Value).ownBlock ∧ some k_ ≠ (v260 : Value).ownBlock) (Kd.R_N (Kd.R_bound ho0)) (fun k_ hk_ => ⟨(Kd.fresh' (Kd.N_lt (by (with_reducible repeat (first | apply Kd.N_alloc | apply Kd.N_drewN | apply Kd.N_drew)); exact HO258.out)) k_ hk_.2.1), (Kd.fresh' (Kd.N_lt (by (with_reducible repeat (first | apply Kd.N_alloc | apply Kd.N_drewN | apply Kd.N_drew)); exact HO261.out)) k_ hk_.2.1)⟩)) (below_size (by repeat (first | (with_reducible first | exact HB.out | apply below_alloc | apply pw_below_drewN | apply below_drew1) | exact HB.out)))); have n3_ := Aside0.mk (below_step (by repeat (first | (with_reducible first | exact HB.out | apply below_alloc | apply pw_below_drewN | apply below_drew1) | exact HB.out)) hb); clear HO258; clear HO261; clear HB; have HO258 := n0_; have HO261 := n1_; have HO264 := n2_; have HB := n3_; clear n0_ n1_ n2_ n3_; (try clear hb); (try clear hb2); (try clear hk); (try clear hi); (try clear ho0)) | ((with_reducible refine gate_callee (f := 13) rfl ?_); refine goesL_ (some 57) rfl rfl Try.func13 (by kernel_rfl) rfl #[.slice A1 l1.length c1] rfl (by (try simp only [List.map_toArray, List.map_cons, List.map_nil]); first | done | rfl | (simp only [List.length_drop, List.length_take]; rfl)) ?_; (with_reducible refine (colophonlaw20_twin.calls k2 _ _ l1 t265 _ ?side1 ?side2 A32.out).mono ?_); (case side1 => repeat (first | exact (Kd.C_below HR1.out HB.out) | (with_reducible refine Kd.C_alloc ?_ _) | (with_reducible refine Kd.C_drewN ?_ _) | (with_reducible refine Kd.C_drew ?_))); (case side2 => exact HC1.out); rintro e w56 ⟨v266, rfl, ho0, hb⟩; refine ⟨_, rfl, ?_⟩; have n0_ := Aside0.mk (Kd.N_elder' (by (with_reducible repeat (first | apply Kd.N_alloc | apply Kd.N_drewN | apply Kd.N_drew)); exact HO258.out) (by first | exact Kd.N_base ho0 | exact Kd.R_base ho0 | exact Kd.R_base (Kd.S_R ho0)) hb); have n1_ := Aside0.mk (Kd.N_elder' (by (with_reducible repeat (first | apply Kd.N_alloc | apply Kd.N_drewN | apply Kd.N_drew)); exact HO261.out) (by first | exact Kd.N_base ho0 | exact Kd.R_base ho0 | exact Kd.R_base (Kd.S_R ho0)) hb); have n2_ := Aside0.mk (Kd.N_elder' (by (with_reducible repeat (first | apply Kd.N_alloc | apply Kd.N_drewN | apply Kd.N_drew)); exact HO264.out) (by first | exact Kd.N_base ho0 | exact Kd.R_base ho0 | exact Kd.R_base (Kd.S_R ho0)) hb); have n3_ := Aside0.mk (Kd.N_lower (Kd.N_mono (ok' := fun k_ => some k_ ≠ (.slice Ao54 t256.length co54 : Value).ownBlock ∧ some k_ ≠ (v260 : Value).ownBlock ∧ some k_ ≠ (v263 : Value).ownBlock) (Kd.S_N (Kd.S_bound ho0)) (fun k_ hk_ => ⟨(Kd.fresh' (Kd.N_lt (by (with_reducible repeat (first | apply Kd.N_alloc | apply Kd.N_drewN | apply Kd.N_drew)); exact HO258.out)) k_ hk_.2.1), (Kd.fresh' (Kd.N_lt (by (with_reducible repeat (first | apply Kd.N_alloc | apply Kd.N_drewN | apply Kd.N_drew)); exact HO261.out)) k_ hk_.2.1), (Kd.fresh' (Kd.N_lt (by (with_reducible repeat (first | apply Kd.N_alloc | apply Kd.N_drewN | apply Kd.N_drew)); exact HO264.out)) k_ hk_.2.1)⟩)) (below_size (by repeat (first | (with_reducible first | exact HB.out | apply below_alloc | apply pw_below_drewN | apply below_drew1) | exact HB.out)))); have n4_ := Aside0.mk (below_step (by repeat (first | (with_reducible first | exact HB.out | apply below_alloc | apply pw_below_drewN | apply below_drew1) | exact HB.out)) hb); clear HO258; clear HO261; clear HO264; clear HB; have HO258 := n0_; have HO261 := n1_; have HO264 := n2_; have HO267 := n3_; have HB := n4_; clear n0_ n1_ n2_ n3_ n4_; (try clear hb); (try clear hb2); (try clear hk); (try clear hi); (try clear ho0)) | ((with_reducible refine gate_callee (f := 18) rfl ?_); refine goesL_ (some 58) rfl rfl Try.func18 (by kernel_rfl) rfl #[] rfl (by (try simp only [List.map_toArray, List.map_cons, List.map_nil]); first | done | rfl | (simp only [List.length_drop, List.length_take]; rfl)) ?_; (with_reducible refine (style_First.calls  t268 t269 t270 t271 t272 t273 t274 t275 t276 _ A33.out).mono ?_); rintro e w57 ⟨rfl, hb⟩; refine ⟨_, rfl, ?_⟩; have n0_ := Aside0.mk (Kd.N_below (by (with_reducible repeat (first | apply Kd.N_alloc | apply Kd.N_drewN | apply Kd.N_drew)); exact HO258.out) hb); have n1_ := Aside0.mk (Kd.N_below (by (with_reducible repeat (first | apply Kd.N_alloc | apply Kd.N_drewN | apply Kd.N_drew)); exact HO261.out) hb); have n2_ := Aside0.mk (Kd.N_below (by (with_reducible repeat (first | apply Kd.N_alloc | apply Kd.N_drewN | apply Kd.N_drew)); exact HO264.out) hb); have n3_ := Aside0.mk (Kd.N_below (by (with_reducible repeat (first | apply Kd.N_alloc | apply Kd.N_drewN | apply Kd.N_drew)); exact HO267.out) hb); have n4_ := Aside0.mk (below_step (by repeat (first | (with_reducible first | exact HB.out | apply below_alloc | apply pw_below_drewN | apply below_drew1) | exact HB.out)) hb); clear HO258; clear HO261; clear HO264; clear HO267; clear HB; have HO258 := n0_; have HO261 := n1_; have HO264 := n2_; have HO267 := n3_; have HB := n4_; clear n0_ n1_ n2_ n3_ n4_; (try clear hb); (try clear hb2); (try clear hk); (try clear hi); obtain ⟨Ao58, co58, eo58⟩ := Kd.N_slice HO264.out; subst eo58; obtain ⟨Ao59, co59, eo59⟩ := Kd.N_slice HO267.out; subst eo59) | ((with_reducible refine gate_callee (f := 16) rfl ?_); refine goesL_ (some 59) rfl rfl Try.func16 (by kernel_rfl) rfl #[.slice Ao58 t262.length co58, .slice Ao59 t265.length co59, .agg #[.int .i64 t268, .int .i64 t269, .int .i64 t270, .int .i64 t271, .int .i64 t272, .int .i64 t273, .int .i64 t274, .int .i64 t275, .int .i64 t276]] rfl (by (try simp only [List.map_toArray, List.map_cons, List.map_nil]); first | done | rfl | (simp only [List.length_drop, List.length_take]; rfl)) ?_; (with_reducible refine (style_Of.calls k2 _ _ t262 _ _ t265 t268 t269 t270 t271 t272 t273 t274 t275 t276 t277 t278 t279 t280 t281 t282 t283 t284 t285 _ ?side1 ?side2 ?side3 ?side4 A34.out).mono ?_); (case side1 => repeat (first | exact (Kd.N_reads' HO264.out).2.2 | (with_reducible refine Kd.C_alloc ?_ _) | (with_reducible refine Kd.C_drewN ?_ _) | (with_reducible refine Kd.C_drew ?_))); (case side2 => exact (Kd.N_reads' HO264.out).2.1); (case side3 => repeat (first | exact (Kd.N_reads' HO267.out).2.2 | (with_reducible refine Kd.C_alloc ?_ _) | (with_reducible refine Kd.C_drewN ?_ _) | (with_reducible refine Kd.C_drew ?_))); (case side4 => exact (Kd.N_reads' HO267.out).2.1); rintro e w60 ⟨rfl, hb⟩; refine ⟨_, rfl, ?_⟩; have n0_ := Aside0.mk (Kd.N_below (by (with_reducible repeat (first | apply Kd.N_alloc | apply Kd.N_drewN | apply Kd.N_drew)); exact HO258.out) hb); have n1_ := Aside0.mk (Kd.N_below (by (with_reducible repeat (first | apply Kd.N_alloc | apply Kd.N_drewN | apply Kd.N_drew)); exact HO261.out) hb); have n2_ := Aside0.mk (Kd.N_below (by (with_reducible repeat (first | apply Kd.N_alloc | apply Kd.N_drewN | apply Kd.N_drew)); exact HO264.out) hb); have n3_ := Aside0.mk (Kd.N_below (by (with_reducible repeat (first | apply Kd.N_alloc | apply Kd.N_drewN | apply Kd.N_drew)); exact HO267.out) hb); have n4_ := Aside0.mk (below_step (by repeat (first | (with_reducible first | exact HB.out | apply below_alloc | apply pw_below_drewN | apply below_drew1) | exact HB.out)) hb); clear HO258; clear HO261; clear HO264; clear HO267; clear HB; have HO258 := n0_; have HO261 := n1_; have HO264 := n2_; have HO267 := n3_; have HB := n4_; clear n0_ n1_ n2_ n3_ n4_; (try clear hb); (try clear hb2); (try clear hk); (try clear hi)) | ((with_reducible refine gate_callee (f := 13) rfl ?_); refine goesL_ (some 62) rfl rfl Try.func13 (by kernel_rfl) rfl #[.slice A1 l1.length c1] rfl (by (try simp only [List.map_toArray, List.map_cons, List.map_nil]); first | done | rfl | (simp only [List.length_drop, List.length_take]; rfl)) ?_; (with_reducible refine (colophonlaw20_twin.calls k2 _ _ l1 t286 _ ?side1 ?side2 A35.out).mono ?_); (case side1 => repeat (first | exact (Kd.C_below HR1.out HB.out) | (with_reducible refine Kd.C_alloc ?_ _) | (with_reducible refine Kd.C_drewN ?_ _) | (with_reducible refine Kd.C_drew ?_))); (case side2 => exact HC1.out); rintro e w61 ⟨v287, rfl, ho0, hb⟩; refine ⟨_, rfl, ?_⟩; have n0_ := Aside0.mk (Kd.N_elder' (by (with_reducible repeat (first | apply Kd.N_alloc | apply Kd.N_drewN | apply Kd.N_drew)); exact HO258.out) (by first | exact Kd.N_base ho0 | exact Kd.R_base ho0 | exact Kd.R_base (Kd.S_R ho0)) hb); have n1_ := Aside0.mk (Kd.N_elder' (by (with_reducible repeat (first | apply Kd.N_alloc | apply Kd.N_drewN | apply Kd.N_drew)); exact HO261.out) (by first | exact Kd.N_base ho0 | exact Kd.R_base ho0 | exact Kd.R_base (Kd.S_R ho0)) hb); have n2_ := Aside0.mk (Kd.N_elder' (by (with_reducible repeat (first | apply Kd.N_alloc | apply Kd.N_drewN | apply Kd.N_drew)); exact HO264.out) (by first | exact Kd.N_base ho0 | exact Kd.R_base ho0 | exact Kd.R_base (Kd.S_R ho0)) hb); have n3_ := Aside0.mk (Kd.N_elder' (by (with_reducible repeat (first | apply Kd.N_alloc | apply Kd.N_drewN | apply Kd.N_drew)); exact HO267.out) (by first | exact Kd.N_base ho0 | exact Kd.R_base ho0 | exact Kd.R_base (Kd.S_R ho0)) hb); have n4_ := Aside0.mk (Kd.N_lower (Kd.N_mono (ok' := fun k_ => some k_ ≠ (.slice Ao54 t256.length co54 : Value).ownBlock ∧ some k_ ≠ (v260 : Value).ownBlock ∧ some k_ ≠ (.slice Ao58 t262.length co58 : Value).ownBlock ∧ some k_ ≠ (.slice Ao59 t265.length co59 : Value).ownBlock) (Kd.S_N (Kd.S_bound ho0)) (fun k_ hk_ => ⟨(Kd.fresh' (Kd.N_lt (by (with_reducible repeat (first | apply Kd.N_alloc | apply Kd.N_drewN | apply Kd.N_drew)); exact HO258.out)) k_ hk_.2.1), (Kd.fresh' (Kd.N_lt (by (with_reducible repeat (first | apply Kd.N_alloc | apply Kd.N_drewN | apply Kd.N_drew)); exact HO261.out)) k_ hk_.2.1), (Kd.fresh' (Kd.N_lt (by (with_reducible repeat (first | apply Kd.N_alloc | apply Kd.N_drewN | apply Kd.N_drew)); exact HO264.out)) k_ hk_.2.1), (Kd.fresh' (Kd.N_lt (by (with_reducible repeat (first | apply Kd.N_alloc | apply Kd.N_drewN | apply Kd.N_drew)); exact HO267.out)) k_ hk_.2.1)⟩)) (below_size (by repeat (first | (with_reducible first | exact HB.out | apply below_alloc | apply pw_below_drewN | apply below_drew1) | exact HB.out)))); have n5_ := Aside0.mk (below_step (by repeat (first | (with_reducible first | exact HB.out | apply below_alloc | apply pw_below_drewN | apply below_drew1) | exact HB.out)) hb); clear HO258; clear HO261; clear HO264; clear HO267; clear HB; have HO258 := n0_; have HO261 := n1_; have HO264 := n2_; have HO267 := n3_; have HO288 := n4_; have HB := n5_; clear n0_ n1_ n2_ n3_ n4_ n5_; (try clear hb); (try clear hb2); (try clear hk); (try clear hi); (try clear ho0)) | ((with_reducible refine gate_callee (f := 18) rfl ?_); refine goesL_ (some 63) rfl rfl Try.func18 (by kernel_rfl) rfl #[] rfl (by (try simp only [List.map_toArray, List.map_cons, List.map_nil]); first | done | rfl | (simp only [List.length_drop, List.length_take]; rfl)) ?_; (with_reducible refine (style_First.calls  t289 t290 t291 t292 t293 t294 t295 t296 t297 _ A36.out).mono ?_); rintro e w62 ⟨rfl, hb⟩; refine ⟨_, rfl, ?_⟩; have n0_ := Aside0.mk (Kd.N_below (by (with_reducible repeat (first | apply Kd.N_alloc | apply Kd.N_drewN | apply Kd.N_drew)); exact HO258.out) hb); have n1_ := Aside0.mk (Kd.N_below (by (with_reducible repeat (first | apply Kd.N_alloc | apply Kd.N_drewN | apply Kd.N_drew)); exact HO261.out) hb); have n2_ := Aside0.mk (Kd.N_below (by (with_reducible repeat (first | apply Kd.N_alloc | apply Kd.N_drewN | apply Kd.N_drew)); exact HO264.out) hb); have n3_ := Aside0.mk (Kd.N_below (by (with_reducible repeat (first | apply Kd.N_alloc | apply Kd.N_drewN | apply Kd.N_drew)); exact HO267.out) hb); have n4_ := Aside0.mk (Kd.N_below (by (with_reducible repeat (first | apply Kd.N_alloc | apply Kd.N_drewN | apply Kd.N_drew)); exact HO288.out) hb); have n5_ := Aside0.mk (below_step (by repeat (first | (with_reducible first | exact HB.out | apply below_alloc | apply pw_below_drewN | apply below_drew1) | exact HB.out)) hb); clear HO258; clear HO261; clear HO264; clear HO267; clear HO288; clear HB; have HO258 := n0_; have HO261 := n1_; have HO264 := n2_; have HO267 := n3_; have HO288 := n4_; have HB := n5_; clear n0_ n1_ n2_ n3_ n4_ n5_; (try clear hb); (try clear hb2); (try clear hk); (try clear hi); obtain ⟨Ao63, co63, eo63⟩ := Kd.N_slice HO261.out; subst eo63; obtain ⟨Ao64, co64, eo64⟩ := Kd.N_slice HO288.out; subst eo64) | ((with_reducible refine gate_callee (f := 16) rfl ?_); refine goesL_ (some 64) rfl rfl Try.func16 (by kernel_rfl) rfl #[.slice Ao63 y259.length co63, .slice Ao64 t286.length co64, .agg #[.int .i64 t289, .int .i64 t290, .int .i64 t291, .int .i64 t292, .int .i64 t293, .int .i64 t294, .int .i64 t295, .int .i64 t296, .int .i64 t297]] rfl (by (try simp only [List.map_toArray, List.map_cons, List.map_nil]); first | done | rfl | (simp only [List.length_drop, List.length_take]; rfl)) ?_; (with_reducible refine (style_Of.calls k2 _ _ y259 _ _ t286 t289 t290 t291 t292 t293 t294 t295 t296 t297 t298 t299 t300 t301 t302 t303 t304 t305 t306 _ ?side1 ?side2 ?side3 ?side4 A37.out).mono ?_); (case side1 => repeat (first | exact (Kd.N_reads' HO261.out).2.2 | (with_reducible refine Kd.C_alloc ?_ _) | (with_reducible refine Kd.C_drewN ?_ _) | (with_reducible refine Kd.C_drew ?_))); (case side2 => exact (Kd.N_reads' HO261.out).2.1); (case side3 => repeat (first | exact (Kd.N_reads' HO288.out).2.2 | (with_reducible refine Kd.C_alloc ?_ _) | (with_reducible refine Kd.C_drewN ?_ _) | (with_reducible refine Kd.C_drew ?_))); (case side4 => exact (Kd.N_reads' HO288.out).2.1); rintro e w65 ⟨rfl, hb⟩; refine ⟨_, rfl, ?_⟩; have n0_ := Aside0.mk (Kd.N_below (by (with_reducible repeat (first | apply Kd.N_alloc | apply Kd.N_drewN | apply Kd.N_drew)); exact HO258.out) hb); have n1_ := Aside0.mk (Kd.N_below (by (with_reducible repeat (first | apply Kd.N_alloc | apply Kd.N_drewN | apply Kd.N_drew)); exact HO261.out) hb); have n2_ := Aside0.mk (Kd.N_below (by (with_reducible repeat (first | apply Kd.N_alloc | apply Kd.N_drewN | apply Kd.N_drew)); exact HO264.out) hb); have n3_ := Aside0.mk (Kd.N_below (by (with_reducible repeat (first | apply Kd.N_alloc | apply Kd.N_drewN | apply Kd.N_drew)); exact HO267.out) hb); have n4_ := Aside0.mk (Kd.N_below (by (with_reducible repeat (first | apply Kd.N_alloc | apply Kd.N_drewN | apply Kd.N_drew)); exact HO288.out) hb); have n5_ := Aside0.mk (below_step (by repeat (first | (with_reducible first | exact HB.out | apply below_alloc | apply pw_below_drewN | apply below_drew1) | exact HB.out)) hb); clear HO258; clear HO261; clear HO264; clear HO267; clear HO288; clear HB; have HO258 := n0_; have HO261 := n1_; have HO264 := n2_; have HO267 := n3_; have HO288 := n4_; have HB := n5_; clear n0_ n1_ n2_ n3_ n4_ n5_; (try clear hb); (try clear hb2); (try clear hk); (try clear hi)) | (go_at_call 10; (with_reducible refine (colophonlaw20_wakes.calls k2  t307 _ A47.out).mono ?_); rintro e w66 ⟨rfl, hb⟩; have n0_ := Aside0.mk (Kd.N_below (by (with_reducible repeat (first | apply Kd.N_alloc | apply Kd.N_drewN | apply Kd.N_drew)); exact HO258.out) hb); have n1_ := Aside0.mk (Kd.N_below (by (with_reducible repeat (first | apply Kd.N_alloc | apply Kd.N_drewN | apply Kd.N_drew)); exact HO261.out) hb); have n2_ := Aside0.mk (Kd.N_below (by (with_reducible repeat (first | apply Kd.N_alloc | apply Kd.N_drewN | apply Kd.N_drew)); exact HO264.out) hb); have n3_ := Aside0.mk (Kd.N_below (by (with_reducible repeat (first | apply Kd.N_alloc | apply Kd.N_drewN | apply Kd.N_drew)); exact HO267.out) hb); have n4_ := Aside0.mk (Kd.N_below (by (with_reducible repeat (first | apply Kd.N_alloc | apply Kd.N_drewN | apply Kd.N_drew)); exact HO288.out) hb); have n5_ := Aside0.mk (below_step (by repeat (first | (with_reducible first | exact HB.out | apply below_alloc | apply pw_below_drewN | apply below_drew1) | exact HB.out)) hb); clear HO258; clear HO261; clear HO264; clear HO267; clear HO288; clear HB; have HO258 := n0_; have HO261 := n1_; have HO264 := n2_; have HO267 := n3_; have HO288 := n4_; have HB := n5_; clear n0_ n1_ n2_ n3_ n4_ n5_; (try clear hb); (try clear hb2); (try clear hk); (try clear hi)))
                                            go_ret
                                            exact ⟨by first | rfl | (simp [errW_none, errW_some] <;> rfl) | (simp only [← hji26]; first | rfl | (simp [errW_none, errW_some] <;> rfl)) | (simp [*, errW_none, errW_some] <;> rfl), by repeat (first | (with_reducible first | exact HB.out | apply below_alloc | apply pw_below_drewN | apply below_drew1) | exact HB.out)⟩
                                          · rw [if_neg c46] at H
                                            exact absurd H (by simp)
                                        · rw [if_neg c45] at H
                                          exact absurd H (by simp)
                                      · rw [if_neg c44] at H
                                        exact absurd H (by simp)
                                    · rw [if_neg c43] at H
                                      exact absurd H (by simp)
                                  · rw [if_neg c42] at H
                                    exact absurd H (by simp)
                                · rw [if_neg c41] at H
                                  exact absurd H (by simp)
                              · rw [if_neg c40] at H
                                exact absurd H (by simp)
                            · rw [if_neg c39] at H
                              exact absurd H (by simp)
                          · rw [if_neg c38] at H
                            exact absurd H (by simp)
                        · rw [if_neg c30] at H
                          exact absurd H (by simp)
                      · rw [if_neg c28] at H
                        exact absurd H (by simp)
                    · rw [if_neg c27] at H
                      exact absurd H (by simp)
                  · rw [if_neg c24] at H
                    exact absurd H (by simp)
              · rw [if_neg c14] at H
                exact absurd H (by simp)
            · rw [if_neg c13] at H
              exact absurd H (by simp)

end Go.Proofs.Ytpembifnjlekdaa.PStyleIdle
