-- Written by a copy of the print that this session has turned (wip/tools/patchprint.py): arrays as records.
import Derived.Test.YtdoponngnjmkkaaPAnchorsReachx0
import Derived.Test.YtdoponngnjmkkaaPAnchorsReachx2
import Derived.Test.YtdoponngnjmkkaaPAnchorsReachx3
import Derived.Test.YtdoponngnjmkkaaPAnchorsReachx4
namespace Go.Proofs.Ytdoponngnjmkkaa.PAnchorsReach
open Go.RowKit Go.Proofs.YtdoponngnjmkkaaW.PrintWords Go.Proofs.YtdoponngnjmkkaaW.PrintLast Go.Proofs.YtdoponngnjmkkaaW.PrintMore
attribute [local go_sem] max2_int min2_int max_two min_two max_three min_three max_four min_four   -- for this text's walks alone
set_option linter.unusedVariables false
set_option linter.unusedSimpArgs false

/-! ### colophonlaw29_AnchorsReach: function 4 -/
mutual
def colophonlaw29_AnchorsReach.j0 : Nat → List (S27) → Int → Int → Bool → Option (Bool)
  | 0, _, _, _, _ => none
  | k + 1, x4, x5, x7, x48 => if x48 = true then (some false) else (if x7 = 0 then ((colophonlaw29_wakes.f k).bind fun t198 => (some t198)) else (colophonlaw29_AnchorsReach.l0 k x4 x7 x5 0 0))
def colophonlaw29_AnchorsReach.l0 : Nat → List (S27) → Int → Int → Int → Int → Option (Bool)
  | 0, _, _, _, _, _ => none
  | k + 1, x4, x7, x8, x9, x10 => if x10 < x7 then (if x8 = x10 then (if 0 ≤ x8 then (if x8 < (x4.length : Int) then (if ((rd_T27 x4 x8).f0) = (-1) then (colophonlaw29_AnchorsReach.j2 k x4 x7 x8 (wrap64 (x9 + (wrap64 (((rd_T27 x4 x8).f5) + 1)))) x10) else (colophonlaw29_AnchorsReach.j2 k x4 x7 x8 x9 x10)) else (none)) else (none)) else (some false)) else (if x8 = (-1) then (if x9 = x7 then ((colophonlaw29_wakes.f k).bind fun t199 => (some t199)) else (some false)) else (some false))
def colophonlaw29_AnchorsReach.j2 : Nat → List (S27) → Int → Int → Int → Int → Option (Bool)
  | 0, _, _, _, _, _ => none
  | k + 1, x4, x7, x8, x9, x10 => if 0 ≤ x8 then (if x8 < (x4.length : Int) then (colophonlaw29_AnchorsReach.l1 k x4 x7 x9 x10 ((rd_T27 x4 x8).f3) x8 0) else (none)) else (none)
def colophonlaw29_AnchorsReach.l1 : Nat → List (S27) → Int → Int → Int → Int → Int → Int → Option (Bool)
  | 0, _, _, _, _, _, _, _ => none
  | k + 1, x4, x7, x9, x10, x11, x12, x13 => if x11 = (-1) then (if x12 = (-1) then (colophonlaw29_AnchorsReach.j4 k x4 x7 x9 x10 x11 x12 x13 false) else (colophonlaw29_AnchorsReach.j4 k x4 x7 x9 x10 x11 x12 x13 (decide (x13 ≤ x7)))) else (colophonlaw29_AnchorsReach.j4 k x4 x7 x9 x10 x11 x12 x13 false)
def colophonlaw29_AnchorsReach.j4 : Nat → List (S27) → Int → Int → Int → Int → Int → Int → Bool → Option (Bool)
  | 0, _, _, _, _, _, _, _, _ => none
  | k + 1, x4, x7, x9, x10, x11, x12, x13, x91 => if x91 = true then (if 0 ≤ x12 then (if x12 < (x4.length : Int) then (if ((rd_T27 x4 x12).f0) < (-1) then (some false) else (if ((rd_T27 x4 x12).f0) ≥ x7 then (some false) else (colophonlaw29_AnchorsReach.l1 k x4 x7 x9 x10 ((rd_T27 x4 x12).f2) ((rd_T27 x4 x12).f0) (wrap64 (x13 + 1))))) else (none)) else (none)) else (if x11 < (-1) then (some false) else (if x11 ≥ x7 then (some false) else (colophonlaw29_AnchorsReach.l0 k x4 x7 x11 x9 (wrap64 (x10 + 1)))))
end
def colophonlaw29_AnchorsReach.f (k : Nat) (l0 : List Int) : Option (Bool) := (colophonkeep_Ints.f l0 60).bind fun t189 => ((anchors_Knots.f k t189).bind fun t192 => ((anchors_Roots.f k t189).bind fun bt195 => (if (t192.length : Int) = (t189.length : Int) then (if bt195.2.2 = (t189.length : Int) then (if ((bt195.2.2 == 0) != (bt195.1 == (-1))) = true then (colophonlaw29_AnchorsReach.j0 k t192 bt195.1 bt195.2.2 true) else (colophonlaw29_AnchorsReach.j0 k t192 bt195.1 bt195.2.2 ((bt195.2.2 == 0) != (bt195.2.1 == (-1))))) else (colophonlaw29_AnchorsReach.j0 k t192 bt195.1 bt195.2.2 true)) else (colophonlaw29_AnchorsReach.j0 k t192 bt195.1 bt195.2.2 true))))
theorem colophonlaw29_AnchorsReach.mono_l : ∀ k, (∀ y0 y1 y2 y3, LeO (colophonlaw29_AnchorsReach.j0 k y0 y1 y2 y3) (colophonlaw29_AnchorsReach.j0 (k + 1) y0 y1 y2 y3)) ∧ (∀ y0 y1 y2 y3 y4, LeO (colophonlaw29_AnchorsReach.l0 k y0 y1 y2 y3 y4) (colophonlaw29_AnchorsReach.l0 (k + 1) y0 y1 y2 y3 y4)) ∧ (∀ y0 y1 y2 y3 y4, LeO (colophonlaw29_AnchorsReach.j2 k y0 y1 y2 y3 y4) (colophonlaw29_AnchorsReach.j2 (k + 1) y0 y1 y2 y3 y4)) ∧ (∀ y0 y1 y2 y3 y4 y5 y6, LeO (colophonlaw29_AnchorsReach.l1 k y0 y1 y2 y3 y4 y5 y6) (colophonlaw29_AnchorsReach.l1 (k + 1) y0 y1 y2 y3 y4 y5 y6)) ∧ (∀ y0 y1 y2 y3 y4 y5 y6 y7, LeO (colophonlaw29_AnchorsReach.j4 k y0 y1 y2 y3 y4 y5 y6 y7) (colophonlaw29_AnchorsReach.j4 (k + 1) y0 y1 y2 y3 y4 y5 y6 y7))
  | 0 => ⟨fun _ _ _ _ r h => by simp [colophonlaw29_AnchorsReach.j0] at h, fun _ _ _ _ _ r h => by simp [colophonlaw29_AnchorsReach.l0] at h, fun _ _ _ _ _ r h => by simp [colophonlaw29_AnchorsReach.j2] at h, fun _ _ _ _ _ _ _ r h => by simp [colophonlaw29_AnchorsReach.l1] at h, fun _ _ _ _ _ _ _ _ r h => by simp [colophonlaw29_AnchorsReach.j4] at h⟩
  | k + 1 => by
    obtain ⟨ih0, ih1, ih2, ih3, ih4⟩ := colophonlaw29_AnchorsReach.mono_l k
    refine ⟨?_, ?_, ?_, ?_, ?_⟩
    · intro y0 y1 y2 y3
      unfold colophonlaw29_AnchorsReach.j0
      repeat' first
      | (with_reducible exact ih0 _ _ _ _)
      | (with_reducible exact ih1 _ _ _ _ _)
      | (with_reducible exact ih2 _ _ _ _ _)
      | (with_reducible exact ih3 _ _ _ _ _ _ _)
      | (with_reducible exact ih4 _ _ _ _ _ _ _ _)
      | (with_reducible exact anchors_Knots.mono _ _)
      | (with_reducible exact anchors_Roots.mono _ _)
      | (with_reducible exact colophonlaw29_wakes.mono _)
      | (with_reducible exact LeO.refl _)
      | (with_reducible exact LeO.none _)
      | (with_reducible refine LeO.ite ?_ ?_)
      | (with_reducible refine LeO.bind ?_ (fun _ => ?_))
      | exact ih0 _ _ _ _
      | exact ih1 _ _ _ _ _
      | exact ih2 _ _ _ _ _
      | exact ih3 _ _ _ _ _ _ _
      | exact ih4 _ _ _ _ _ _ _ _
      | exact anchors_Knots.mono _ _
      | exact anchors_Roots.mono _ _
      | exact colophonlaw29_wakes.mono _
      | exact LeO.none _
      | refine LeO.ite ?_ ?_
      | refine LeO.bind ?_ (fun _ => ?_)
    · intro y0 y1 y2 y3 y4
      unfold colophonlaw29_AnchorsReach.l0
      repeat' first
      | (with_reducible exact ih0 _ _ _ _)
      | (with_reducible exact ih1 _ _ _ _ _)
      | (with_reducible exact ih2 _ _ _ _ _)
      | (with_reducible exact ih3 _ _ _ _ _ _ _)
      | (with_reducible exact ih4 _ _ _ _ _ _ _ _)
      | (with_reducible exact anchors_Knots.mono _ _)
      | (with_reducible exact anchors_Roots.mono _ _)
      | (with_reducible exact colophonlaw29_wakes.mono _)
      | (with_reducible exact LeO.refl _)
      | (with_reducible exact LeO.none _)
      | (with_reducible refine LeO.ite ?_ ?_)
      | (with_reducible refine LeO.bind ?_ (fun _ => ?_))
      | exact ih0 _ _ _ _
      | exact ih1 _ _ _ _ _
      | exact ih2 _ _ _ _ _
      | exact ih3 _ _ _ _ _ _ _
      | exact ih4 _ _ _ _ _ _ _ _
      | exact anchors_Knots.mono _ _
      | exact anchors_Roots.mono _ _
      | exact colophonlaw29_wakes.mono _
      | exact LeO.none _
      | refine LeO.ite ?_ ?_
      | refine LeO.bind ?_ (fun _ => ?_)
    · intro y0 y1 y2 y3 y4
      unfold colophonlaw29_AnchorsReach.j2
      repeat' first
      | (with_reducible exact ih0 _ _ _ _)
      | (with_reducible exact ih1 _ _ _ _ _)
      | (with_reducible exact ih2 _ _ _ _ _)
      | (with_reducible exact ih3 _ _ _ _ _ _ _)
      | (with_reducible exact ih4 _ _ _ _ _ _ _ _)
      | (with_reducible exact anchors_Knots.mono _ _)
      | (with_reducible exact anchors_Roots.mono _ _)
      | (with_reducible exact colophonlaw29_wakes.mono _)
      | (with_reducible exact LeO.refl _)
      | (with_reducible exact LeO.none _)
      | (with_reducible refine LeO.ite ?_ ?_)
      | (with_reducible refine LeO.bind ?_ (fun _ => ?_))
      | exact ih0 _ _ _ _
      | exact ih1 _ _ _ _ _
      | exact ih2 _ _ _ _ _
      | exact ih3 _ _ _ _ _ _ _
      | exact ih4 _ _ _ _ _ _ _ _
      | exact anchors_Knots.mono _ _
      | exact anchors_Roots.mono _ _
      | exact colophonlaw29_wakes.mono _
      | exact LeO.none _
      | refine LeO.ite ?_ ?_
      | refine LeO.bind ?_ (fun _ => ?_)
    · intro y0 y1 y2 y3 y4 y5 y6
      unfold colophonlaw29_AnchorsReach.l1
      repeat' first
      | (with_reducible exact ih0 _ _ _ _)
      | (with_reducible exact ih1 _ _ _ _ _)
      | (with_reducible exact ih2 _ _ _ _ _)
      | (with_reducible exact ih3 _ _ _ _ _ _ _)
      | (with_reducible exact ih4 _ _ _ _ _ _ _ _)
      | (with_reducible exact anchors_Knots.mono _ _)
      | (with_reducible exact anchors_Roots.mono _ _)
      | (with_reducible exact colophonlaw29_wakes.mono _)
      | (with_reducible exact LeO.refl _)
      | (with_reducible exact LeO.none _)
      | (with_reducible refine LeO.ite ?_ ?_)
      | (with_reducible refine LeO.bind ?_ (fun _ => ?_))
      | exact ih0 _ _ _ _
      | exact ih1 _ _ _ _ _
      | exact ih2 _ _ _ _ _
      | exact ih3 _ _ _ _ _ _ _
      | exact ih4 _ _ _ _ _ _ _ _
      | exact anchors_Knots.mono _ _
      | exact anchors_Roots.mono _ _
      | exact colophonlaw29_wakes.mono _
      | exact LeO.none _
      | refine LeO.ite ?_ ?_
      | refine LeO.bind ?_ (fun _ => ?_)
    · intro y0 y1 y2 y3 y4 y5 y6 y7
      unfold colophonlaw29_AnchorsReach.j4
      repeat' first
      | (with_reducible exact ih0 _ _ _ _)
      | (with_reducible exact ih1 _ _ _ _ _)
      | (with_reducible exact ih2 _ _ _ _ _)
      | (with_reducible exact ih3 _ _ _ _ _ _ _)
      | (with_reducible exact ih4 _ _ _ _ _ _ _ _)
      | (with_reducible exact anchors_Knots.mono _ _)
      | (with_reducible exact anchors_Roots.mono _ _)
      | (with_reducible exact colophonlaw29_wakes.mono _)
      | (with_reducible exact LeO.refl _)
      | (with_reducible exact LeO.none _)
      | (with_reducible refine LeO.ite ?_ ?_)
      | (with_reducible refine LeO.bind ?_ (fun _ => ?_))
      | exact ih0 _ _ _ _
      | exact ih1 _ _ _ _ _
      | exact ih2 _ _ _ _ _
      | exact ih3 _ _ _ _ _ _ _
      | exact ih4 _ _ _ _ _ _ _ _
      | exact anchors_Knots.mono _ _
      | exact anchors_Roots.mono _ _
      | exact colophonlaw29_wakes.mono _
      | exact LeO.none _
      | refine LeO.ite ?_ ?_
      | refine LeO.bind ?_ (fun _ => ?_)
theorem colophonlaw29_AnchorsReach.mono : ∀ a0 k, LeO (colophonlaw29_AnchorsReach.f k a0) (colophonlaw29_AnchorsReach.f (k + 1) a0) := by
  intro a0 k
  obtain ⟨ih0, ih1, ih2, ih3, ih4⟩ := colophonlaw29_AnchorsReach.mono_l k
  unfold colophonlaw29_AnchorsReach.f
  repeat' first
      | (with_reducible exact ih0 _ _ _ _)
      | (with_reducible exact ih1 _ _ _ _ _)
      | (with_reducible exact ih2 _ _ _ _ _)
      | (with_reducible exact ih3 _ _ _ _ _ _ _)
      | (with_reducible exact ih4 _ _ _ _ _ _ _ _)
      | (with_reducible exact anchors_Knots.mono _ _)
      | (with_reducible exact anchors_Roots.mono _ _)
      | (with_reducible exact colophonlaw29_wakes.mono _)
      | (with_reducible exact LeO.refl _)
      | (with_reducible exact LeO.none _)
      | (with_reducible refine LeO.ite ?_ ?_)
      | (with_reducible refine LeO.bind ?_ (fun _ => ?_))
      | exact ih0 _ _ _ _
      | exact ih1 _ _ _ _ _
      | exact ih2 _ _ _ _ _
      | exact ih3 _ _ _ _ _ _ _
      | exact ih4 _ _ _ _ _ _ _ _
      | exact anchors_Knots.mono _ _
      | exact anchors_Roots.mono _ _
      | exact colophonlaw29_wakes.mono _
      | exact LeO.none _
      | refine LeO.ite ?_ ?_
      | refine LeO.bind ?_ (fun _ => ?_)
set_option maxHeartbeats 8000000 in
set_option maxRecDepth 100000 in
theorem colophonlaw29_AnchorsReach.calls (k : Nat) (A0 : Option Addr) (c0 : Nat) (l0 : List Int) (r : Bool) (w : World) (hr0 : Kd.C (Kd.int .i64) w A0 l0.length l0) (hc0 : l0.length ≤ c0) (h : colophonlaw29_AnchorsReach.f k l0 = some r) :
    Calls Try.prog 4 #[.slice A0 l0.length c0] w fun e w' => e = .returned (.bool r) ∧ Below w.heap.size w w' := by
  have HR0 := Aside0.mk hr0
  have HC0 := Aside0.mk hc0
  clear hr0 hc0
  have HB := Aside0.mk (Below.refl w.heap.size w)
  have H : ((colophonkeep_Ints.f l0 60).bind fun t189 => ((anchors_Knots.f k t189).bind fun t192 => ((anchors_Roots.f k t189).bind fun bt195 => (if (t192.length : Int) = (t189.length : Int) then (if bt195.2.2 = (t189.length : Int) then (if ((bt195.2.2 == 0) != (bt195.1 == (-1))) = true then (colophonlaw29_AnchorsReach.j0 k t192 bt195.1 bt195.2.2 true) else (colophonlaw29_AnchorsReach.j0 k t192 bt195.1 bt195.2.2 ((bt195.2.2 == 0) != (bt195.2.1 == (-1))))) else (colophonlaw29_AnchorsReach.j0 k t192 bt195.1 bt195.2.2 true)) else (colophonlaw29_AnchorsReach.j0 k t192 bt195.1 bt195.2.2 true))))) = some r := h
  clear h
  replace H := Option.bind_eq_some_iff.mp H
  obtain ⟨t189, A20, H⟩ := H
  replace H : ((anchors_Knots.f k t189).bind fun t192 => ((anchors_Roots.f k t189).bind fun bt195 => (if (t192.length : Int) = (t189.length : Int) then (if bt195.2.2 = (t189.length : Int) then (if ((bt195.2.2 == 0) != (bt195.1 == (-1))) = true then (colophonlaw29_AnchorsReach.j0 k t192 bt195.1 bt195.2.2 true) else (colophonlaw29_AnchorsReach.j0 k t192 bt195.1 bt195.2.2 ((bt195.2.2 == 0) != (bt195.2.1 == (-1))))) else (colophonlaw29_AnchorsReach.j0 k t192 bt195.1 bt195.2.2 true)) else (colophonlaw29_AnchorsReach.j0 k t192 bt195.1 bt195.2.2 true)))) = some r := H
  have A2 := Aside0.mk A20
  clear A20
  replace H := Option.bind_eq_some_iff.mp H
  obtain ⟨t192, A30, H⟩ := H
  replace H : ((anchors_Roots.f k t189).bind fun bt195 => (if (t192.length : Int) = (t189.length : Int) then (if bt195.2.2 = (t189.length : Int) then (if ((bt195.2.2 == 0) != (bt195.1 == (-1))) = true then (colophonlaw29_AnchorsReach.j0 k t192 bt195.1 bt195.2.2 true) else (colophonlaw29_AnchorsReach.j0 k t192 bt195.1 bt195.2.2 ((bt195.2.2 == 0) != (bt195.2.1 == (-1))))) else (colophonlaw29_AnchorsReach.j0 k t192 bt195.1 bt195.2.2 true)) else (colophonlaw29_AnchorsReach.j0 k t192 bt195.1 bt195.2.2 true))) = some r := H
  have A3 := Aside0.mk A30
  clear A30
  replace H := Option.bind_eq_some_iff.mp H
  obtain ⟨⟨t195, t196, t197⟩, A40, H⟩ := H
  replace H : (if (t192.length : Int) = (t189.length : Int) then (if t197 = (t189.length : Int) then (if ((t197 == 0) != (t195 == (-1))) = true then (colophonlaw29_AnchorsReach.j0 k t192 t195 t197 true) else (colophonlaw29_AnchorsReach.j0 k t192 t195 t197 ((t197 == 0) != (t196 == (-1))))) else (colophonlaw29_AnchorsReach.j0 k t192 t195 t197 true)) else (colophonlaw29_AnchorsReach.j0 k t192 t195 t197 true)) = some r := H
  have A4 := Aside0.mk A40
  clear A40
  have HC5 := Aside0.mk H
  clear H
  go_enter Try.func4, Try.ntmps4
  go_upto_region 4 with (first | ((with_reducible refine gate_callee (f := 8) rfl ?_); refine goesL_ (some 15) rfl rfl Try.func8 (by kernel_rfl) rfl #[.slice A0 l0.length c0, .int .i64 60] rfl (by (try simp only [List.map_toArray, List.map_cons, List.map_nil]); first | done | rfl | (simp only [List.length_drop, List.length_take]; rfl)) ?_; (with_reducible refine (colophonkeep_Ints.calls _ _ l0 60 t189 _ ?side1 ?side2 A2.out).mono ?_); (case side1 => repeat (first | exact HR0.out | (with_reducible refine Kd.C_alloc ?_ _) | (with_reducible refine Kd.C_drewN ?_ _) | (with_reducible refine Kd.C_drew ?_))); (case side2 => exact HC0.out); rintro e w6 ⟨v190, rfl, ho0, hb⟩; refine ⟨_, rfl, ?_⟩; have n0_ := Aside0.mk (Kd.R_lower ho0 (below_size (by repeat (first | (with_reducible first | exact HB.out | apply below_alloc | apply pw_below_drewN | apply below_drew1) | exact HB.out)))); have n1_ := Aside0.mk (below_step (by repeat (first | (with_reducible first | exact HB.out | apply below_alloc | apply pw_below_drewN | apply below_drew1) | exact HB.out)) hb); clear HB; have HO191 := n0_; have HB := n1_; clear n0_ n1_; (try clear hb); (try clear hb2); (try clear hk); (try clear hi); (try clear ho0); obtain ⟨Ao7, co7, eo7⟩ := Kd.R_slice HO191.out; subst eo7) | ((with_reducible refine gate_callee (f := 9) rfl ?_); refine goesL_ (some 17) rfl rfl Try.func9 (by kernel_rfl) rfl #[.slice Ao7 t189.length co7] rfl (by (try simp only [List.map_toArray, List.map_cons, List.map_nil]); first | done | rfl | (simp only [List.length_drop, List.length_take]; rfl)) ?_; (with_reducible refine (anchors_Knots.calls k _ _ t189 t192 _ ?side1 ?side2 A3.out).mono ?_); (case side1 => repeat (first | exact (Kd.R_reads' HO191.out).2.2 | (with_reducible refine Kd.C_alloc ?_ _) | (with_reducible refine Kd.C_drewN ?_ _) | (with_reducible refine Kd.C_drew ?_))); (case side2 => exact (Kd.R_reads' HO191.out).2.1); rintro e w8 ⟨v193, rfl, ho0, hb⟩; refine ⟨_, rfl, ?_⟩; have n0_ := Aside0.mk (Kd.R_below (by (with_reducible repeat (first | apply Kd.R_alloc | apply Kd.R_drewN | apply Kd.R_drew)); exact HO191.out) hb); have n1_ := Aside0.mk (Kd.R_lower ho0 (below_size (by repeat (first | (with_reducible first | exact HB.out | apply below_alloc | apply pw_below_drewN | apply below_drew1) | exact HB.out)))); have n2_ := Aside0.mk (below_step (by repeat (first | (with_reducible first | exact HB.out | apply below_alloc | apply pw_below_drewN | apply below_drew1) | exact HB.out)) hb); clear HO191; clear HB; have HO191 := n0_; have HO194 := n1_; have HB := n2_; clear n0_ n1_ n2_; (try clear hb); (try clear hb2); (try clear hk); (try clear hi); (try clear ho0)) | ((with_reducible refine gate_callee (f := 11) rfl ?_); refine goesL_ (some 20) rfl rfl Try.func11 (by kernel_rfl) rfl #[.slice Ao7 t189.length co7] rfl (by (try simp only [List.map_toArray, List.map_cons, List.map_nil]); first | done | rfl | (simp only [List.length_drop, List.length_take]; rfl)) ?_; (with_reducible refine (anchors_Roots.calls k _ _ t189 t195 t196 t197 _ ?side1 ?side2 A4.out).mono ?_); (case side1 => repeat (first | exact (Kd.R_reads' HO191.out).2.2 | (with_reducible refine Kd.C_alloc ?_ _) | (with_reducible refine Kd.C_drewN ?_ _) | (with_reducible refine Kd.C_drew ?_))); (case side2 => exact (Kd.R_reads' HO191.out).2.1); rintro e w9 ⟨rfl, hb⟩; refine ⟨_, rfl, ?_⟩; have n0_ := Aside0.mk (Kd.R_below (by (with_reducible repeat (first | apply Kd.R_alloc | apply Kd.R_drewN | apply Kd.R_drew)); exact HO191.out) hb); have n1_ := Aside0.mk (Kd.R_below (by (with_reducible repeat (first | apply Kd.R_alloc | apply Kd.R_drewN | apply Kd.R_drew)); exact HO194.out) hb); have n2_ := Aside0.mk (below_step (by repeat (first | (with_reducible first | exact HB.out | apply below_alloc | apply pw_below_drewN | apply below_drew1) | exact HB.out)) hb); clear HO191; clear HO194; clear HB; have HO191 := n0_; have HO194 := n1_; have HB := n2_; clear n0_ n1_ n2_; (try clear hb); (try clear hb2); (try clear hk); (try clear hi)))
  (try simp only [Act.put, List.setIfInBounds_toArray, List.set_cons_zero, List.set_cons_succ])
  go_cut [48] (fun v48 wc => ∃ (kq : Nat) (x48_4 : Bool), v48 = .bool x48_4 ∧ Aside0 (colophonlaw29_AnchorsReach.j0 kq t192 t195 t197 x48_4 = some r) ∧ Aside0 (kq ≤ k) ∧ Aside0 (Kd.R k27 27 wc w.heap.size (fun _ => True) v193 t192) ∧ Aside0 (Below w.heap.size w wc))
  case first =>
    have H := HC5.out
    clear HC5
    by_cases c10 : (t192.length : Int) = (t189.length : Int)
    · rw [if_pos c10] at H
      have c10b0 : ((t192.length : Int) == (t189.length : Int)) = true := beq_iff_eq.mpr c10
      have c10b1 : ((t192.length : Int) != (t189.length : Int)) = false := bne_eq_false_iff_eq.mpr c10
      have c10b2 : (t192.length == t189.length) = true := by first | simpa using c10 | (simp at c10 ⊢; omega)
      clear c10
      (first | rw [c10b0] | (simp only [i64_w, i32_w]; rw [c10b0]) | skip)
      by_cases c11 : t197 = (t189.length : Int)
      · rw [if_pos c11] at H
        have c11b0 : (t197 == (t189.length : Int)) = true := beq_iff_eq.mpr c11
        have c11b1 : (t197 != (t189.length : Int)) = false := bne_eq_false_iff_eq.mpr c11
        clear c11
        by_cases c12 : ((t197 == 0) != (t195 == (-1))) = true
        · rw [if_pos c12] at H
          have c12b0 : ((t197 == 0) != (t195 == (-1))) = true := c12
          (try (have c12b1 : decide ((t197 == 0) = (t195 == (-1))) = false := by simpa using c12))
          (try (have c12b2 : ((t197 == 0) == (t195 == (-1))) = false := by simpa using c12))
          (try (have c12b3 : ¬ ((t197 == 0) = (t195 == (-1))) := by simpa using c12))
          clear c12
          have H' := Aside0.mk H
          clear H
          obtain ⟨Ao13, co13, eo13⟩ := Kd.R_slice HO194.out
          subst eo13
          go_wp2
          go_meet
          case rel => exact ⟨_, (true), (by first | rfl | (simp; done) | (simp [*]; done)), H', ⟨by first | omega | exact Nat.le_refl _⟩, ⟨by (with_reducible repeat (first | apply Kd.R_alloc | apply Kd.R_drewN | apply Kd.R_drew)); exact HO194.out⟩, ⟨by repeat (first | (with_reducible first | exact HB.out | apply below_alloc | apply pw_below_drewN | apply below_drew1) | exact HB.out)⟩⟩
        · rw [if_neg c12] at H
          have c12b0 : ((t197 == 0) != (t195 == (-1))) = false := by simpa using c12
          (try (have c12b1 : decide ((t197 == 0) = (t195 == (-1))) = true := by simpa using c12))
          (try (have c12b2 : ((t197 == 0) == (t195 == (-1))) = true := by simpa using c12))
          clear c12
          have H' := Aside0.mk H
          clear H
          obtain ⟨Ao14, co14, eo14⟩ := Kd.R_slice HO194.out
          subst eo14
          go_wp2
          go_meet
          case rel => exact ⟨_, (((t197 == 0) != (t196 == (-1)))), (by first | rfl | (simp; done) | (simp [*]; done)), H', ⟨by first | omega | exact Nat.le_refl _⟩, ⟨by (with_reducible repeat (first | apply Kd.R_alloc | apply Kd.R_drewN | apply Kd.R_drew)); exact HO194.out⟩, ⟨by repeat (first | (with_reducible first | exact HB.out | apply below_alloc | apply pw_below_drewN | apply below_drew1) | exact HB.out)⟩⟩
      · rw [if_neg c11] at H
        have c11b0 : (t197 == (t189.length : Int)) = false := beq_eq_false_iff_ne.mpr c11
        have c11b1 : (t197 != (t189.length : Int)) = true := bne_iff_ne.mpr c11
        have H' := Aside0.mk H
        clear H
        obtain ⟨Ao15, co15, eo15⟩ := Kd.R_slice HO194.out
        subst eo15
        go_wp2
        go_meet
        case rel => exact ⟨_, (true), (by first | rfl | (simp; done) | (simp [*]; done)), H', ⟨by first | omega | exact Nat.le_refl _⟩, ⟨by (with_reducible repeat (first | apply Kd.R_alloc | apply Kd.R_drewN | apply Kd.R_drew)); exact HO194.out⟩, ⟨by repeat (first | (with_reducible first | exact HB.out | apply below_alloc | apply pw_below_drewN | apply below_drew1) | exact HB.out)⟩⟩
    · rw [if_neg c10] at H
      have c10b0 : ((t192.length : Int) == (t189.length : Int)) = false := beq_eq_false_iff_ne.mpr c10
      have c10b1 : ((t192.length : Int) != (t189.length : Int)) = true := bne_iff_ne.mpr c10
      have c10b2 : (t192.length == t189.length) = false := by first | simpa using c10 | (simp at c10 ⊢; omega)
      (first | rw [c10b0] | (simp only [i64_w, i32_w]; rw [c10b0]) | skip)
      have H' := Aside0.mk H
      clear H
      obtain ⟨Ao16, co16, eo16⟩ := Kd.R_slice HO194.out
      subst eo16
      go_wp2
      go_meet
      case rel => exact ⟨_, (true), (by first | rfl | (simp; done) | (simp [*]; done)), H', ⟨by first | omega | exact Nat.le_refl _⟩, ⟨by (with_reducible repeat (first | apply Kd.R_alloc | apply Kd.R_drewN | apply Kd.R_drew)); exact HO194.out⟩, ⟨by repeat (first | (with_reducible first | exact HB.out | apply below_alloc | apply pw_below_drewN | apply below_drew1) | exact HB.out)⟩⟩
  case rest =>
    clear HC5
    try clear c1
    try clear p2
    try clear c4
    try clear c8
    try clear c9
    try clear c10
    try clear c10b0
    try clear c10b1
    try clear c10b2
    try clear c11
    try clear c11b0
    try clear c11b1
    try clear c12
    try clear c12b0
    try clear c12b1
    try clear c12b2
    obtain ⟨kq, x48_4, rfl, HA, HJ4, HO_4, HB⟩ := hcut
    cases kq with
    | zero => exact absurd HA.out (by simp [colophonlaw29_AnchorsReach.j0])
    | succ kj4 =>
      have H := HA.out
      clear HA
      simp only [colophonlaw29_AnchorsReach.j0] at H
      by_cases c17 : x48_4 = true
      · subst c17
        have H1 : (some false) = some r := by rw [if_pos rfl] at H; exact H
        clear H
        have H := H1
        clear H1
        obtain rfl := Option.some.inj H
        go_wp2
        go_ret
        exact ⟨by first | rfl | (simp [errW_none, errW_some] <;> rfl) | (simp [*, errW_none, errW_some] <;> rfl), by repeat (first | (with_reducible first | exact HB.out | apply below_alloc | apply pw_below_drewN | apply below_drew1) | exact HB.out)⟩
      · replace c17 := Bool.eq_false_iff.mpr c17
        subst c17
        have H1 : (if t197 = 0 then ((colophonlaw29_wakes.f kj4).bind fun t198 => (some t198)) else (colophonlaw29_AnchorsReach.l0 kj4 t192 t197 t195 0 0)) = some r := by rw [if_neg (show ¬ (false = true) by decide)] at H; exact H
        clear H
        have H := H1
        clear H1
        by_cases c18 : t197 = 0
        · rw [if_pos c18] at H
          have c18b0 : (t197 == 0) = true := beq_iff_eq.mpr c18
          have c18b1 : (t197 != 0) = false := bne_eq_false_iff_eq.mpr c18
          clear c18
          replace H := Option.bind_eq_some_iff.mp H
          obtain ⟨t198, A190, H⟩ := H
          replace H : (some t198) = some r := H
          have A19 := Aside0.mk A190
          clear A190
          obtain rfl := Option.some.inj H
          go_wp2_with (first | ((with_reducible refine gate_callee (f := 16) rfl ?_); refine goesL_ (some 51) rfl rfl Try.func16 (by kernel_rfl) rfl #[] rfl (by (try simp only [List.map_toArray, List.map_cons, List.map_nil]); first | done | rfl | (simp only [List.length_drop, List.length_take]; rfl)) ?_; (with_reducible refine (colophonlaw29_wakes.calls kj4  t198 _ A19.out).mono ?_); rintro e w20 ⟨rfl, hb⟩; refine ⟨_, rfl, ?_⟩; have n0_ := Aside0.mk (Kd.R_below (by (with_reducible repeat (first | apply Kd.R_alloc | apply Kd.R_drewN | apply Kd.R_drew)); exact HO_4.out) hb); have n1_ := Aside0.mk (below_step (by repeat (first | (with_reducible first | exact HB.out | apply below_alloc | apply pw_below_drewN | apply below_drew1) | exact HB.out)) hb); clear HO_4; clear HB; have HO_4 := n0_; have HB := n1_; clear n0_ n1_; (try clear hb); (try clear hb2); (try clear hk); (try clear hi)))
          go_ret
          exact ⟨by first | rfl | (simp [errW_none, errW_some] <;> rfl) | (simp [*, errW_none, errW_some] <;> rfl), by repeat (first | (with_reducible first | exact HB.out | apply below_alloc | apply pw_below_drewN | apply below_drew1) | exact HB.out)⟩
        · rw [if_neg c18] at H
          have c18b0 : (t197 == 0) = false := beq_eq_false_iff_ne.mpr c18
          have c18b1 : (t197 != 0) = true := bne_iff_ne.mpr c18
          have H' := Aside0.mk H
          clear H
          go_wp2
          go_loopg [8, 9, 10] kj4 (fun kq v8 v9 v10 w' => ∃ (x8_2 : Int) (x9_2 : Int) (x10_2 : Int), v8 = .int .i64 x8_2 ∧ v9 = .int .i64 x9_2 ∧ v10 = .int .i64 x10_2 ∧ Aside0 (colophonlaw29_AnchorsReach.l0 kq t192 t197 x8_2 x9_2 x10_2 = some r) ∧ Aside0 (kq ≤ kj4) ∧ Aside0 (Kd.R k27 27 w' w.heap.size (fun _ => True) v193 t192) ∧ Aside0 (Below w.heap.size w w'))
          case atStart => exact ⟨(t195), (0), (0), (by first | rfl | (simp; done) | (simp [*]; done)), (by first | rfl | (simp; done) | (simp [*]; done)), (by first | rfl | (simp; done) | (simp [*]; done)), H', ⟨Nat.le_refl _⟩, ⟨by (with_reducible repeat (first | apply Kd.R_alloc | apply Kd.R_drewN | apply Kd.R_drew)); exact HO_4.out⟩, ⟨by repeat (first | (with_reducible first | exact HB.out | apply below_alloc | apply pw_below_drewN | apply below_drew1) | exact HB.out)⟩⟩
          case round =>
            clear H'
            try clear c1
            try clear p2
            try clear c4
            try clear c8
            try clear c9
            try clear c10
            try clear c10b0
            try clear c10b1
            try clear c10b2
            try clear c11
            try clear c11b0
            try clear c11b1
            try clear c12
            try clear c12b0
            try clear c12b1
            try clear c12b2
            try clear c16
            try clear c17
            try clear c18
            try clear c18b0
            try clear c18b1
            try clear p2
            obtain ⟨x8_2, x9_2, x10_2, rfl, rfl, rfl, HA, HK2, HO_4, HB⟩ := hrel
            cases gk with
            | zero => exact absurd HA.out (by simp [colophonlaw29_AnchorsReach.l0])
            | succ k2 =>
              have H := HA.out
              clear HA
              simp only [colophonlaw29_AnchorsReach.l0] at H
              by_cases c21 : x10_2 < t197
              · rw [if_pos c21] at H
                have c21b0 : decide (x10_2 < t197) = true := decide_eq_true c21
                clear c21
                by_cases c22 : x8_2 = x10_2
                · rw [if_pos c22] at H
                  have c22b0 : (x8_2 == x10_2) = true := beq_iff_eq.mpr c22
                  have c22b1 : (x8_2 != x10_2) = false := bne_eq_false_iff_eq.mpr c22
                  clear c22
                  by_cases c23 : 0 ≤ x8_2
                  · rw [if_pos c23] at H
                    have c23b0 : decide (0 ≤ x8_2) = true := decide_eq_true c23
                    clear c23
                    by_cases c24 : x8_2 < (t192.length : Int)
                    · rw [if_pos c24] at H
                      have c24b0 : decide (x8_2 < (t192.length : Int)) = true := decide_eq_true c24
                      clear c24
                      have HC25 := Aside0.mk H
                      clear H
                      obtain ⟨Ao26, co26, eo26⟩ := Kd.R_slice HO_4.out
                      subst eo26
                      have p200 : 0 ≤ (x8_2 : Int) := of_decide_eq_true (by first | (with_reducible assumption) | assumption)
                      have q200 : x8_2 < (t192.length : Int) := of_decide_eq_true (by first | (with_reducible assumption) | assumption)
                      obtain ⟨ad200, e200, hx200_0, hx200_1, hx200_2, hx200_3, hx200_4, hx200_5⟩ := at_T27 (Kd.R_reads' HO_4.out).2.2 x8_2 p200 q200
                      cases e200
                      replace p200 := eq_true p200
                      replace q200 := eq_true q200
                      go_upto_if 66 with (fail)
                      go_cut [9] (fun v9 wc => ∃ (kq : Nat) (x9_24 : Int), v9 = .int .i64 x9_24 ∧ Aside0 (colophonlaw29_AnchorsReach.j2 kq t192 t197 x8_2 x9_24 x10_2 = some r) ∧ Aside0 (kq ≤ k2) ∧ Aside0 (Kd.R k27 27 wc w.heap.size (fun _ => True) (.slice (some ad200) t192.length co26) t192) ∧ Aside0 (Below w.heap.size w wc))
                      case first =>
                        have H := HC25.out
                        clear HC25
                        by_cases c27 : ((rd_T27 t192 x8_2).f0) = (-1)
                        · rw [if_pos c27] at H
                          have c27b0 : (((rd_T27 t192 x8_2).f0) == (-1)) = true := beq_iff_eq.mpr c27
                          have c27b1 : (((rd_T27 t192 x8_2).f0) != (-1)) = false := bne_eq_false_iff_eq.mpr c27
                          clear c27
                          (first | rw [c27b0] | (simp only [i64_w, i32_w]; rw [c27b0]) | skip)
                          have H' := Aside0.mk H
                          clear H
                          have p201 : 0 ≤ (x8_2 : Int) := of_decide_eq_true (by first | (with_reducible assumption) | assumption)
                          have q201 : x8_2 < (t192.length : Int) := of_decide_eq_true (by first | (with_reducible assumption) | assumption)
                          obtain ⟨ad201, e201, hx201_0, hx201_1, hx201_2, hx201_3, hx201_4, hx201_5⟩ := at_T27 (Kd.R_reads' HO_4.out).2.2 x8_2 p201 q201
                          obtain rfl : ad200 = ad201 := (by injection e201)
                          replace p201 := eq_true p201
                          replace q201 := eq_true q201
                          go_wp2
                          go_meet
                          case rel => exact ⟨_, (wrap64 (x9_2 + (wrap64 (((rd_T27 t192 x8_2).f5) + 1)))), (by first | rfl | (simp; done) | (simp [*]; done)), H', ⟨by have := HJ4.out; have := HK2.out; first | omega | exact Nat.le_refl _⟩, ⟨by (with_reducible repeat (first | apply Kd.R_alloc | apply Kd.R_drewN | apply Kd.R_drew)); exact HO_4.out⟩, ⟨by repeat (first | (with_reducible first | exact HB.out | apply below_alloc | apply pw_below_drewN | apply below_drew1) | exact HB.out)⟩⟩
                        · rw [if_neg c27] at H
                          have c27b0 : (((rd_T27 t192 x8_2).f0) == (-1)) = false := beq_eq_false_iff_ne.mpr c27
                          have c27b1 : (((rd_T27 t192 x8_2).f0) != (-1)) = true := bne_iff_ne.mpr c27
                          (first | rw [c27b0] | (simp only [i64_w, i32_w]; rw [c27b0]) | skip)
                          have H' := Aside0.mk H
                          clear H
                          go_wp2
                          go_meet
                          case rel => exact ⟨_, (x9_2), (by first | rfl | (simp; done) | (simp [*]; done)), H', ⟨by have := HJ4.out; have := HK2.out; first | omega | exact Nat.le_refl _⟩, ⟨by (with_reducible repeat (first | apply Kd.R_alloc | apply Kd.R_drewN | apply Kd.R_drew)); exact HO_4.out⟩, ⟨by repeat (first | (with_reducible first | exact HB.out | apply below_alloc | apply pw_below_drewN | apply below_drew1) | exact HB.out)⟩⟩
                      case rest =>
                        clear HC25
                        try clear c1
                        try clear c2
                        try clear p2
                        try clear q2
                        try clear hx2
                        try clear c4
                        try clear p6
                        try clear c8
                        try clear c9
                        try clear c10
                        try clear c10b0
                        try clear c10b1
                        try clear c10b2
                        try clear c11
                        try clear c11b0
                        try clear c11b1
                        try clear c12
                        try clear c12b0
                        try clear c12b1
                        try clear c12b2
                        try clear c16
                        try clear c17
                        try clear c18
                        try clear c18b0
                        try clear c18b1
                        try clear p20
                        try clear q20
                        try clear hx20
                        try clear c21
                        try clear c21b0
                        try clear c22
                        try clear c22b0
                        try clear c22b1
                        try clear c23
                        try clear c23b0
                        try clear c24
                        try clear c24b0
                        try clear c27
                        try clear c27b0
                        try clear c27b1
                        try clear hx200_0
                        try clear hx200_1
                        try clear hx200_2
                        try clear hx200_3
                        try clear hx200_4
                        try clear hx200_5
                        try clear hx201_0
                        try clear hx201_1
                        try clear hx201_2
                        try clear hx201_3
                        try clear hx201_4
                        try clear hx201_5
                        try clear p2
                        try clear p200
                        try clear p201
                        try clear q200
                        try clear q201
                        obtain ⟨kq, x9_24, rfl, HA, HJ24, HO_4, HB⟩ := hcut
                        cases kq with
                        | zero => exact absurd HA.out (by simp [colophonlaw29_AnchorsReach.j2])
                        | succ kj24 =>
                          have H := HA.out
                          clear HA
                          simp only [colophonlaw29_AnchorsReach.j2] at H
                          by_cases c28 : 0 ≤ x8_2
                          · rw [if_pos c28] at H
                            have c28b0 : decide (0 ≤ x8_2) = true := decide_eq_true c28
                            clear c28
                            by_cases c29 : x8_2 < (t192.length : Int)
                            · rw [if_pos c29] at H
                              have c29b0 : decide (x8_2 < (t192.length : Int)) = true := decide_eq_true c29
                              clear c29
                              have H' := Aside0.mk H
                              clear H
                              have p202 : 0 ≤ (x8_2 : Int) := of_decide_eq_true (by first | (with_reducible assumption) | assumption)
                              have q202 : x8_2 < (t192.length : Int) := of_decide_eq_true (by first | (with_reducible assumption) | assumption)
                              obtain ⟨ad202, e202, hx202_0, hx202_1, hx202_2, hx202_3, hx202_4, hx202_5⟩ := at_T27 (Kd.R_reads' HO_4.out).2.2 x8_2 p202 q202
                              obtain rfl : ad200 = ad202 := (by injection e202)
                              replace p202 := eq_true p202
                              replace q202 := eq_true q202
                              go_wp2
                              go_loopg [11, 12, 13] kj24 (fun kq v11 v12 v13 w' => ∃ (x11_4 : Int) (x12_4 : Int) (x13_4 : Int), v11 = .int .i64 x11_4 ∧ v12 = .int .i64 x12_4 ∧ v13 = .int .i64 x13_4 ∧ Aside0 (colophonlaw29_AnchorsReach.l1 kq t192 t197 x9_24 x10_2 x11_4 x12_4 x13_4 = some r) ∧ Aside0 (kq ≤ kj24) ∧ Aside0 (Kd.R k27 27 w' w.heap.size (fun _ => True) (.slice (some ad200) t192.length co26) t192) ∧ Aside0 (Below w.heap.size w w'))
                              case atStart => exact ⟨((rd_T27 t192 x8_2).f3), (x8_2), (0), (by first | rfl | (simp; done) | (simp [*]; done)), (by first | rfl | (simp; done) | (simp [*]; done)), (by first | rfl | (simp; done) | (simp [*]; done)), H', ⟨Nat.le_refl _⟩, ⟨by (with_reducible repeat (first | apply Kd.R_alloc | apply Kd.R_drewN | apply Kd.R_drew)); exact HO_4.out⟩, ⟨by repeat (first | (with_reducible first | exact HB.out | apply below_alloc | apply pw_below_drewN | apply below_drew1) | exact HB.out)⟩⟩
                              case round =>
                                clear H'
                                try clear c1
                                try clear c2
                                try clear p2
                                try clear q2
                                try clear hx2
                                try clear c4
                                try clear p6
                                try clear c8
                                try clear c9
                                try clear c10
                                try clear c10b0
                                try clear c10b1
                                try clear c10b2
                                try clear c11
                                try clear c11b0
                                try clear c11b1
                                try clear c12
                                try clear c12b0
                                try clear c12b1
                                try clear c12b2
                                try clear c16
                                try clear c17
                                try clear c18
                                try clear c18b0
                                try clear c18b1
                                try clear p20
                                try clear q20
                                try clear hx20
                                try clear c21
                                try clear c21b0
                                try clear c22
                                try clear c22b0
                                try clear c22b1
                                try clear c23
                                try clear c23b0
                                try clear c24
                                try clear c24b0
                                try clear c27
                                try clear c27b0
                                try clear c27b1
                                try clear c28
                                try clear c28b0
                                try clear c29
                                try clear c29b0
                                try clear hx200_0
                                try clear hx200_1
                                try clear hx200_2
                                try clear hx200_3
                                try clear hx200_4
                                try clear hx200_5
                                try clear hx201_0
                                try clear hx201_1
                                try clear hx201_2
                                try clear hx201_3
                                try clear hx201_4
                                try clear hx201_5
                                try clear hx202_0
                                try clear hx202_1
                                try clear hx202_2
                                try clear hx202_3
                                try clear hx202_4
                                try clear hx202_5
                                try clear p2
                                try clear p20
                                try clear p200
                                try clear p201
                                try clear p202
                                try clear p6
                                try clear q2
                                try clear q20
                                try clear q200
                                try clear q201
                                try clear q202
                                obtain ⟨x11_4, x12_4, x13_4, rfl, rfl, rfl, HA, HK4, HO_4, HB⟩ := hrel
                                cases gk with
                                | zero => exact absurd HA.out (by simp [colophonlaw29_AnchorsReach.l1])
                                | succ k4 =>
                                  have H := HA.out
                                  clear HA
                                  simp only [colophonlaw29_AnchorsReach.l1] at H
                                  have HC30 := Aside0.mk H
                                  clear H
                                  go_upto_region 19 with (fail)
                                  go_cut [91] (fun v91 wc => ∃ (kq : Nat) (x91_29 : Bool), v91 = .bool x91_29 ∧ Aside0 (colophonlaw29_AnchorsReach.j4 kq t192 t197 x9_24 x10_2 x11_4 x12_4 x13_4 x91_29 = some r) ∧ Aside0 (kq ≤ k4) ∧ Aside0 (Kd.R k27 27 wc w.heap.size (fun _ => True) (.slice (some ad200) t192.length co26) t192) ∧ Aside0 (Below w.heap.size w wc))
                                  case first =>
                                    have H := HC30.out
                                    clear HC30
                                    by_cases c31 : x11_4 = (-1)
                                    · rw [if_pos c31] at H
                                      have c31b0 : (x11_4 == (-1)) = true := beq_iff_eq.mpr c31
                                      have c31b1 : (x11_4 != (-1)) = false := bne_eq_false_iff_eq.mpr c31
                                      clear c31
                                      (first | rw [c31b0] | (simp only [i64_w, i32_w]; rw [c31b0]) | skip)
                                      by_cases c32 : x12_4 = (-1)
                                      · rw [if_pos c32] at H
                                        have c32b0 : (x12_4 == (-1)) = true := beq_iff_eq.mpr c32
                                        have c32b1 : (x12_4 != (-1)) = false := bne_eq_false_iff_eq.mpr c32
                                        clear c32
                                        have H' := Aside0.mk H
                                        clear H
                                        go_wp2
                                        go_meet
                                        case rel => exact ⟨_, (false), (by first | rfl | (simp; done) | (simp [*]; done)), H', ⟨by have := HJ4.out; have := HK2.out; have := HJ24.out; have := HK4.out; first | omega | exact Nat.le_refl _⟩, ⟨by (with_reducible repeat (first | apply Kd.R_alloc | apply Kd.R_drewN | apply Kd.R_drew)); exact HO_4.out⟩, ⟨by repeat (first | (with_reducible first | exact HB.out | apply below_alloc | apply pw_below_drewN | apply below_drew1) | exact HB.out)⟩⟩
                                      · rw [if_neg c32] at H
                                        have c32b0 : (x12_4 == (-1)) = false := beq_eq_false_iff_ne.mpr c32
                                        have c32b1 : (x12_4 != (-1)) = true := bne_iff_ne.mpr c32
                                        have H' := Aside0.mk H
                                        clear H
                                        go_wp2
                                        go_meet
                                        case rel => exact ⟨_, (decide (x13_4 ≤ t197)), (by first | rfl | (simp; done) | (simp [*]; done)), H', ⟨by have := HJ4.out; have := HK2.out; have := HJ24.out; have := HK4.out; first | omega | exact Nat.le_refl _⟩, ⟨by (with_reducible repeat (first | apply Kd.R_alloc | apply Kd.R_drewN | apply Kd.R_drew)); exact HO_4.out⟩, ⟨by repeat (first | (with_reducible first | exact HB.out | apply below_alloc | apply pw_below_drewN | apply below_drew1) | exact HB.out)⟩⟩
                                    · rw [if_neg c31] at H
                                      have c31b0 : (x11_4 == (-1)) = false := beq_eq_false_iff_ne.mpr c31
                                      have c31b1 : (x11_4 != (-1)) = true := bne_iff_ne.mpr c31
                                      (first | rw [c31b0] | (simp only [i64_w, i32_w]; rw [c31b0]) | skip)
                                      have H' := Aside0.mk H
                                      clear H
                                      go_wp2
                                      go_meet
                                      case rel => exact ⟨_, (false), (by first | rfl | (simp; done) | (simp [*]; done)), H', ⟨by have := HJ4.out; have := HK2.out; have := HJ24.out; have := HK4.out; first | omega | exact Nat.le_refl _⟩, ⟨by (with_reducible repeat (first | apply Kd.R_alloc | apply Kd.R_drewN | apply Kd.R_drew)); exact HO_4.out⟩, ⟨by repeat (first | (with_reducible first | exact HB.out | apply below_alloc | apply pw_below_drewN | apply below_drew1) | exact HB.out)⟩⟩
                                  case rest =>
                                    clear HC30
                                    try clear c1
                                    try clear c2
                                    try clear p2
                                    try clear q2
                                    try clear hx2
                                    try clear c3
                                    try clear c4
                                    try clear p6
                                    try clear c8
                                    try clear c9
                                    try clear c10
                                    try clear c10b0
                                    try clear c10b1
                                    try clear c10b2
                                    try clear c11
                                    try clear c11b0
                                    try clear c11b1
                                    try clear c12
                                    try clear c12b0
                                    try clear c12b1
                                    try clear c12b2
                                    try clear c16
                                    try clear c17
                                    try clear c18
                                    try clear c18b0
                                    try clear c18b1
                                    try clear p20
                                    try clear q20
                                    try clear hx20
                                    try clear c21
                                    try clear c21b0
                                    try clear c22
                                    try clear c22b0
                                    try clear c22b1
                                    try clear c23
                                    try clear c23b0
                                    try clear c24
                                    try clear c24b0
                                    try clear c27
                                    try clear c27b0
                                    try clear c27b1
                                    try clear c28
                                    try clear c28b0
                                    try clear c29
                                    try clear c29b0
                                    try clear c31
                                    try clear c31b0
                                    try clear c31b1
                                    try clear c32
                                    try clear c32b0
                                    try clear c32b1
                                    try clear hx200_0
                                    try clear hx200_1
                                    try clear hx200_2
                                    try clear hx200_3
                                    try clear hx200_4
                                    try clear hx200_5
                                    try clear hx201_0
                                    try clear hx201_1
                                    try clear hx201_2
                                    try clear hx201_3
                                    try clear hx201_4
                                    try clear hx201_5
                                    try clear hx202_0
                                    try clear hx202_1
                                    try clear hx202_2
                                    try clear hx202_3
                                    try clear hx202_4
                                    try clear hx202_5
                                    try clear p2
                                    try clear p20
                                    try clear p200
                                    try clear p201
                                    try clear p202
                                    try clear p6
                                    try clear q2
                                    try clear q20
                                    try clear q200
                                    try clear q201
                                    try clear q202
                                    obtain ⟨kq, x91_29, rfl, HA, HJ29, HO_4, HB⟩ := hcut
                                    cases kq with
                                    | zero => exact absurd HA.out (by simp [colophonlaw29_AnchorsReach.j4])
                                    | succ kj29 =>
                                      have H := HA.out
                                      clear HA
                                      simp only [colophonlaw29_AnchorsReach.j4] at H
                                      by_cases c33 : x91_29 = true
                                      · subst c33
                                        have H1 : (if 0 ≤ x12_4 then (if x12_4 < (t192.length : Int) then (if ((rd_T27 t192 x12_4).f0) < (-1) then (some false) else (if ((rd_T27 t192 x12_4).f0) ≥ t197 then (some false) else (colophonlaw29_AnchorsReach.l1 kj29 t192 t197 x9_24 x10_2 ((rd_T27 t192 x12_4).f2) ((rd_T27 t192 x12_4).f0) (wrap64 (x13_4 + 1))))) else (none)) else (none)) = some r := by rw [if_pos rfl] at H; exact H
                                        clear H
                                        have H := H1
                                        clear H1
                                        by_cases c34 : 0 ≤ x12_4
                                        · rw [if_pos c34] at H
                                          have c34b0 : decide (0 ≤ x12_4) = true := decide_eq_true c34
                                          clear c34
                                          by_cases c35 : x12_4 < (t192.length : Int)
                                          · rw [if_pos c35] at H
                                            have c35b0 : decide (x12_4 < (t192.length : Int)) = true := decide_eq_true c35
                                            clear c35
                                            by_cases c36 : ((rd_T27 t192 x12_4).f0) < (-1)
                                            · rw [if_pos c36] at H
                                              have c36b0 : decide (((rd_T27 t192 x12_4).f0) < (-1)) = true := decide_eq_true c36
                                              clear c36
                                              obtain rfl := Option.some.inj H
                                              have p203 : 0 ≤ (x12_4 : Int) := of_decide_eq_true (by first | (with_reducible assumption) | assumption)
                                              have q203 : x12_4 < (t192.length : Int) := of_decide_eq_true (by first | (with_reducible assumption) | assumption)
                                              obtain ⟨ad203, e203, hx203_0, hx203_1, hx203_2, hx203_3, hx203_4, hx203_5⟩ := at_T27 (Kd.R_reads' HO_4.out).2.2 x12_4 p203 q203
                                              obtain rfl : ad200 = ad203 := (by injection e203)
                                              replace p203 := eq_true p203
                                              replace q203 := eq_true q203
                                              have p204 : 0 ≤ (x12_4 : Int) := of_decide_eq_true (by first | (with_reducible assumption) | assumption)
                                              have q204 : x12_4 < (t192.length : Int) := of_decide_eq_true (by first | (with_reducible assumption) | assumption)
                                              obtain ⟨ad204, e204, hx204_0, hx204_1, hx204_2, hx204_3, hx204_4, hx204_5⟩ := at_T27 (Kd.R_reads' HO_4.out).2.2 x12_4 p204 q204
                                              obtain rfl : ad200 = ad204 := (by injection e204)
                                              replace p204 := eq_true p204
                                              replace q204 := eq_true q204
                                              go_wp2
                                              go_ret
                                              exact ⟨by first | rfl | (simp [errW_none, errW_some] <;> rfl) | (simp [*, errW_none, errW_some] <;> rfl), by repeat (first | (with_reducible first | exact HB.out | apply below_alloc | apply pw_below_drewN | apply below_drew1) | exact HB.out)⟩
                                            · rw [if_neg c36] at H
                                              have c36b0 : decide (((rd_T27 t192 x12_4).f0) < (-1)) = false := decide_eq_false c36
                                              clear c36
                                              by_cases c37 : ((rd_T27 t192 x12_4).f0) ≥ t197
                                              · rw [if_pos c37] at H
                                                have c37b0 : decide (t197 ≤ ((rd_T27 t192 x12_4).f0)) = true := decide_eq_true c37
                                                clear c37
                                                obtain rfl := Option.some.inj H
                                                have p203 : 0 ≤ (x12_4 : Int) := of_decide_eq_true (by first | (with_reducible assumption) | assumption)
                                                have q203 : x12_4 < (t192.length : Int) := of_decide_eq_true (by first | (with_reducible assumption) | assumption)
                                                obtain ⟨ad203, e203, hx203_0, hx203_1, hx203_2, hx203_3, hx203_4, hx203_5⟩ := at_T27 (Kd.R_reads' HO_4.out).2.2 x12_4 p203 q203
                                                obtain rfl : ad200 = ad203 := (by injection e203)
                                                replace p203 := eq_true p203
                                                replace q203 := eq_true q203
                                                have p204 : 0 ≤ (x12_4 : Int) := of_decide_eq_true (by first | (with_reducible assumption) | assumption)
                                                have q204 : x12_4 < (t192.length : Int) := of_decide_eq_true (by first | (with_reducible assumption) | assumption)
                                                obtain ⟨ad204, e204, hx204_0, hx204_1, hx204_2, hx204_3, hx204_4, hx204_5⟩ := at_T27 (Kd.R_reads' HO_4.out).2.2 x12_4 p204 q204
                                                obtain rfl : ad200 = ad204 := (by injection e204)
                                                replace p204 := eq_true p204
                                                replace q204 := eq_true q204
                                                go_wp2
                                                go_ret
                                                exact ⟨by first | rfl | (simp [errW_none, errW_some] <;> rfl) | (simp [*, errW_none, errW_some] <;> rfl), by repeat (first | (with_reducible first | exact HB.out | apply below_alloc | apply pw_below_drewN | apply below_drew1) | exact HB.out)⟩
                                              · rw [if_neg c37] at H
                                                have c37b0 : decide (t197 ≤ ((rd_T27 t192 x12_4).f0)) = false := decide_eq_false c37
                                                clear c37
                                                have H' := Aside0.mk H
                                                clear H
                                                have p203 : 0 ≤ (x12_4 : Int) := of_decide_eq_true (by first | (with_reducible assumption) | assumption)
                                                have q203 : x12_4 < (t192.length : Int) := of_decide_eq_true (by first | (with_reducible assumption) | assumption)
                                                obtain ⟨ad203, e203, hx203_0, hx203_1, hx203_2, hx203_3, hx203_4, hx203_5⟩ := at_T27 (Kd.R_reads' HO_4.out).2.2 x12_4 p203 q203
                                                obtain rfl : ad200 = ad203 := (by injection e203)
                                                replace p203 := eq_true p203
                                                replace q203 := eq_true q203
                                                have p204 : 0 ≤ (x12_4 : Int) := of_decide_eq_true (by first | (with_reducible assumption) | assumption)
                                                have q204 : x12_4 < (t192.length : Int) := of_decide_eq_true (by first | (with_reducible assumption) | assumption)
                                                obtain ⟨ad204, e204, hx204_0, hx204_1, hx204_2, hx204_3, hx204_4, hx204_5⟩ := at_T27 (Kd.R_reads' HO_4.out).2.2 x12_4 p204 q204
                                                obtain rfl : ad200 = ad204 := (by injection e204)
                                                replace p204 := eq_true p204
                                                replace q204 := eq_true q204
                                                go_wp2
                                                go_roundg kj29
                                                case measure => have := HJ4.out; have := HK2.out; have := HJ24.out; have := HK4.out; have := HJ29.out; omega
                                                case rel => exact ⟨((rd_T27 t192 x12_4).f2), ((rd_T27 t192 x12_4).f0), (wrap64 (x13_4 + 1)), (by first | rfl | (simp; done) | (simp [*]; done)), (by first | rfl | (simp; done) | (simp [*]; done)), (by first | rfl | (simp; done) | (simp [*]; done)), H', ⟨by have := HJ4.out; have := HK2.out; have := HJ24.out; have := HK4.out; have := HJ29.out; omega⟩, ⟨by (with_reducible repeat (first | apply Kd.R_alloc | apply Kd.R_drewN | apply Kd.R_drew)); exact HO_4.out⟩, ⟨by repeat (first | (with_reducible first | exact HB.out | apply below_alloc | apply pw_below_drewN | apply below_drew1) | exact HB.out)⟩⟩
                                          · rw [if_neg c35] at H
                                            exact absurd H (by simp)
                                        · rw [if_neg c34] at H
                                          exact absurd H (by simp)
                                      · replace c33 := Bool.eq_false_iff.mpr c33
                                        subst c33
                                        have H1 : (if x11_4 < (-1) then (some false) else (if x11_4 ≥ t197 then (some false) else (colophonlaw29_AnchorsReach.l0 kj29 t192 t197 x11_4 x9_24 (wrap64 (x10_2 + 1))))) = some r := by rw [if_neg (show ¬ (false = true) by decide)] at H; exact H
                                        clear H
                                        have H := H1
                                        clear H1
                                        by_cases c38 : x11_4 < (-1)
                                        · rw [if_pos c38] at H
                                          have c38b0 : decide (x11_4 < (-1)) = true := decide_eq_true c38
                                          clear c38
                                          obtain rfl := Option.some.inj H
                                          go_wp2
                                          go_ret
                                          exact ⟨by first | rfl | (simp [errW_none, errW_some] <;> rfl) | (simp [*, errW_none, errW_some] <;> rfl), by repeat (first | (with_reducible first | exact HB.out | apply below_alloc | apply pw_below_drewN | apply below_drew1) | exact HB.out)⟩
                                        · rw [if_neg c38] at H
                                          have c38b0 : decide (x11_4 < (-1)) = false := decide_eq_false c38
                                          clear c38
                                          by_cases c39 : x11_4 ≥ t197
                                          · rw [if_pos c39] at H
                                            have c39b0 : decide (t197 ≤ x11_4) = true := decide_eq_true c39
                                            clear c39
                                            obtain rfl := Option.some.inj H
                                            go_wp2
                                            go_ret
                                            exact ⟨by first | rfl | (simp [errW_none, errW_some] <;> rfl) | (simp [*, errW_none, errW_some] <;> rfl), by repeat (first | (with_reducible first | exact HB.out | apply below_alloc | apply pw_below_drewN | apply below_drew1) | exact HB.out)⟩
                                          · rw [if_neg c39] at H
                                            have c39b0 : decide (t197 ≤ x11_4) = false := decide_eq_false c39
                                            clear c39
                                            have H' := Aside0.mk H
                                            clear H
                                            go_wp2
                                            go_roundg kj29
                                            case measure => have := HJ4.out; have := HK2.out; have := HJ24.out; have := HK4.out; have := HJ29.out; omega
                                            case rel => exact ⟨(x11_4), (x9_24), (wrap64 (x10_2 + 1)), (by first | rfl | (simp; done) | (simp [*]; done)), (by first | rfl | (simp; done) | (simp [*]; done)), (by first | rfl | (simp; done) | (simp [*]; done)), H', ⟨by have := HJ4.out; have := HK2.out; have := HJ24.out; have := HK4.out; have := HJ29.out; omega⟩, ⟨by (with_reducible repeat (first | apply Kd.R_alloc | apply Kd.R_drewN | apply Kd.R_drew)); exact HO_4.out⟩, ⟨by repeat (first | (with_reducible first | exact HB.out | apply below_alloc | apply pw_below_drewN | apply below_drew1) | exact HB.out)⟩⟩
                            · rw [if_neg c29] at H
                              exact absurd H (by simp)
                          · rw [if_neg c28] at H
                            exact absurd H (by simp)
                    · rw [if_neg c24] at H
                      exact absurd H (by simp)
                  · rw [if_neg c23] at H
                    exact absurd H (by simp)
                · rw [if_neg c22] at H
                  have c22b0 : (x8_2 == x10_2) = false := beq_eq_false_iff_ne.mpr c22
                  have c22b1 : (x8_2 != x10_2) = true := bne_iff_ne.mpr c22
                  obtain rfl := Option.some.inj H
                  go_wp2
                  go_ret
                  exact ⟨by first | rfl | (simp [errW_none, errW_some] <;> rfl) | (simp [*, errW_none, errW_some] <;> rfl), by repeat (first | (with_reducible first | exact HB.out | apply below_alloc | apply pw_below_drewN | apply below_drew1) | exact HB.out)⟩
              · rw [if_neg c21] at H
                have c21b0 : decide (x10_2 < t197) = false := decide_eq_false c21
                clear c21
                by_cases c40 : x8_2 = (-1)
                · rw [if_pos c40] at H
                  have c40b0 : (x8_2 == (-1)) = true := beq_iff_eq.mpr c40
                  have c40b1 : (x8_2 != (-1)) = false := bne_eq_false_iff_eq.mpr c40
                  clear c40
                  by_cases c41 : x9_2 = t197
                  · rw [if_pos c41] at H
                    have c41b0 : (x9_2 == t197) = true := beq_iff_eq.mpr c41
                    have c41b1 : (x9_2 != t197) = false := bne_eq_false_iff_eq.mpr c41
                    clear c41
                    replace H := Option.bind_eq_some_iff.mp H
                    obtain ⟨t199, A420, H⟩ := H
                    replace H : (some t199) = some r := H
                    have A42 := Aside0.mk A420
                    clear A420
                    obtain rfl := Option.some.inj H
                    go_wp2_with (first | (go_at_call 16; (with_reducible refine (colophonlaw29_wakes.calls k2  t199 _ A42.out).mono ?_); rintro e w43 ⟨rfl, hb⟩; have n0_ := Aside0.mk (Kd.R_below (by (with_reducible repeat (first | apply Kd.R_alloc | apply Kd.R_drewN | apply Kd.R_drew)); exact HO_4.out) hb); have n1_ := Aside0.mk (below_step (by repeat (first | (with_reducible first | exact HB.out | apply below_alloc | apply pw_below_drewN | apply below_drew1) | exact HB.out)) hb); clear HO_4; clear HB; have HO_4 := n0_; have HB := n1_; clear n0_ n1_; (try clear hb); (try clear hb2); (try clear hk); (try clear hi)))
                    go_ret
                    exact ⟨by first | rfl | (simp [errW_none, errW_some] <;> rfl) | (simp [*, errW_none, errW_some] <;> rfl), by repeat (first | (with_reducible first | exact HB.out | apply below_alloc | apply pw_below_drewN | apply below_drew1) | exact HB.out)⟩
                  · rw [if_neg c41] at H
                    have c41b0 : (x9_2 == t197) = false := beq_eq_false_iff_ne.mpr c41
                    have c41b1 : (x9_2 != t197) = true := bne_iff_ne.mpr c41
                    obtain rfl := Option.some.inj H
                    go_wp2
                    go_ret
                    exact ⟨by first | rfl | (simp [errW_none, errW_some] <;> rfl) | (simp [*, errW_none, errW_some] <;> rfl), by repeat (first | (with_reducible first | exact HB.out | apply below_alloc | apply pw_below_drewN | apply below_drew1) | exact HB.out)⟩
                · rw [if_neg c40] at H
                  have c40b0 : (x8_2 == (-1)) = false := beq_eq_false_iff_ne.mpr c40
                  have c40b1 : (x8_2 != (-1)) = true := bne_iff_ne.mpr c40
                  obtain rfl := Option.some.inj H
                  go_wp2
                  go_ret
                  exact ⟨by first | rfl | (simp [errW_none, errW_some] <;> rfl) | (simp [*, errW_none, errW_some] <;> rfl), by repeat (first | (with_reducible first | exact HB.out | apply below_alloc | apply pw_below_drewN | apply below_drew1) | exact HB.out)⟩

/-- THE ONE PURE STATEMENT of colophonlaw29_AnchorsReach: yours. -/
def colophonlaw29_AnchorsReach.Pure : Prop := ∀ (l0 : List Int), l0.length ≤ maxLen → l0.length * 8 ≤ 140737488351232 → (∀ x ∈ l0, (Lit.int .i64 x).wf = true) → ∃ k, colophonlaw29_AnchorsReach.f k l0 = some true
theorem colophonlaw29_AnchorsReach.walk (P : colophonlaw29_AnchorsReach.Pure) (a0 : Option Addr) (len0 cap0 : Nat) (z0 : List Int) (w : World) (w0 : (a0 = none ∧ len0 = 0 ∧ cap0 = 0 ∧ z0 = []) ∨ ∃ x, a0 = some x ∧ len0 ≤ cap0 ∧ cap0 ≤ maxLen ∧ z0.length = cap0 ∧ (∀ i, i < z0.length → w.cell? (x.add i) = some (.int .i64 (z0.getD i 0))) ∧ ∀ n ∈ z0, (Lit.int .i64 n).wf = true) (y0 : len0 * 8 ≤ 140737488351232) :
    Calls Try.prog 4 #[.slice a0 len0 cap0] w fun e w' => e = .returned (.bool true) ∧ Below w.heap.size w w' := by
  obtain ⟨l0, rfl, hr0, hm0, hw0, hc0⟩ := ReadsInt.ofRowC w0
  obtain ⟨k, h⟩ := P l0 hm0 y0 hw0
  refine (colophonlaw29_AnchorsReach.calls k _ _ l0 true w (Kd.C_of_reads (d := (0 : Int)) (h1 := fun _ => rfl) hr0) hc0 h).mono ?_
  rintro e w' ⟨rfl, hd⟩
  exact ⟨rfl, hd⟩

end Go.Proofs.Ytdoponngnjmkkaa.PAnchorsReach
