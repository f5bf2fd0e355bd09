-- Written by a copy of the print that this session has turned (wip/tools/patchprint.py): arrays as records.
import Derived.Test.YtdoponngnjmkkaaPAnchorsBothx0
import Derived.Test.YtdoponngnjmkkaaPAnchorsBothx2
import Derived.Test.YtdoponngnjmkkaaPAnchorsBothx3
import Derived.Test.YtdoponngnjmkkaaPAnchorsBothx4
namespace Go.Proofs.Ytdoponngnjmkkaa.PAnchorsBoth
open Go.RowKit Go.Proofs.YtdoponngnjmkkaaW.PrintWords Go.Proofs.YtdoponngnjmkkaaW.PrintLast Go.Proofs.YtdoponngnjmkkaaW.PrintMore
attribute [local go_sem] max2_int min2_int max_two min_two max_three min_three max_four min_four   -- for this text's walks alone
set_option linter.unusedVariables false
set_option linter.unusedSimpArgs false

/-! ### colophonlaw29_AnchorsBoth: function 5 -/
mutual
def colophonlaw29_AnchorsBoth.l0 : Nat → List Int → List (S27) → Int → Int → Int → Option (Bool)
  | 0, _, _, _, _, _ => none
  | k + 1, x3, x4, x5, x6, x8 => if x8 < (x4.length : Int) then (if 0 ≤ x8 then (if ((rd_T27 x4 x8).f0) < (-1) then (colophonlaw29_AnchorsBoth.j1 k x3 x4 x5 x6 x8 true ((rd_T27 x4 x8).f0) ((rd_T27 x4 x8).f1) ((rd_T27 x4 x8).f2) ((rd_T27 x4 x8).f3) ((rd_T27 x4 x8).f4) ((rd_T27 x4 x8).f5)) else (if ((rd_T27 x4 x8).f0) ≥ x8 then (colophonlaw29_AnchorsBoth.j1 k x3 x4 x5 x6 x8 true ((rd_T27 x4 x8).f0) ((rd_T27 x4 x8).f1) ((rd_T27 x4 x8).f2) ((rd_T27 x4 x8).f3) ((rd_T27 x4 x8).f4) ((rd_T27 x4 x8).f5)) else (if ((rd_T27 x4 x8).f1) < (-1) then (colophonlaw29_AnchorsBoth.j1 k x3 x4 x5 x6 x8 true ((rd_T27 x4 x8).f0) ((rd_T27 x4 x8).f1) ((rd_T27 x4 x8).f2) ((rd_T27 x4 x8).f3) ((rd_T27 x4 x8).f4) ((rd_T27 x4 x8).f5)) else (if ((rd_T27 x4 x8).f1) ≥ x8 then (colophonlaw29_AnchorsBoth.j1 k x3 x4 x5 x6 x8 true ((rd_T27 x4 x8).f0) ((rd_T27 x4 x8).f1) ((rd_T27 x4 x8).f2) ((rd_T27 x4 x8).f3) ((rd_T27 x4 x8).f4) ((rd_T27 x4 x8).f5)) else (if ((rd_T27 x4 x8).f2) = (-1) then (if ((rd_T27 x4 x8).f0) ≥ 0 then (if 0 ≤ ((rd_T27 x4 x8).f0) then (if ((rd_T27 x4 x8).f0) < (x3.length : Int) then (if x8 < (x3.length : Int) then (colophonlaw29_AnchorsBoth.j1 k x3 x4 x5 x6 x8 (decide ((rd x3 ((rd_T27 x4 x8).f0)) ≥ (rd x3 x8))) ((rd_T27 x4 x8).f0) ((rd_T27 x4 x8).f1) ((rd_T27 x4 x8).f2) ((rd_T27 x4 x8).f3) ((rd_T27 x4 x8).f4) ((rd_T27 x4 x8).f5)) else (none)) else (none)) else (none)) else (colophonlaw29_AnchorsBoth.j1 k x3 x4 x5 x6 x8 false ((rd_T27 x4 x8).f0) ((rd_T27 x4 x8).f1) ((rd_T27 x4 x8).f2) ((rd_T27 x4 x8).f3) ((rd_T27 x4 x8).f4) ((rd_T27 x4 x8).f5))) else (if ((rd_T27 x4 x8).f2) ≤ x8 then (colophonlaw29_AnchorsBoth.j1 k x3 x4 x5 x6 x8 true ((rd_T27 x4 x8).f0) ((rd_T27 x4 x8).f1) ((rd_T27 x4 x8).f2) ((rd_T27 x4 x8).f3) ((rd_T27 x4 x8).f4) ((rd_T27 x4 x8).f5)) else (if ((rd_T27 x4 x8).f2) ≥ (x4.length : Int) then (colophonlaw29_AnchorsBoth.j1 k x3 x4 x5 x6 x8 true ((rd_T27 x4 x8).f0) ((rd_T27 x4 x8).f1) ((rd_T27 x4 x8).f2) ((rd_T27 x4 x8).f3) ((rd_T27 x4 x8).f4) ((rd_T27 x4 x8).f5)) else (if ((rd_T27 x4 x8).f0) ≥ 0 then (if 0 ≤ ((rd_T27 x4 x8).f0) then (if ((rd_T27 x4 x8).f0) < (x3.length : Int) then (if x8 < (x3.length : Int) then (colophonlaw29_AnchorsBoth.j1 k x3 x4 x5 x6 x8 (decide ((rd x3 ((rd_T27 x4 x8).f0)) ≥ (rd x3 x8))) ((rd_T27 x4 x8).f0) ((rd_T27 x4 x8).f1) ((rd_T27 x4 x8).f2) ((rd_T27 x4 x8).f3) ((rd_T27 x4 x8).f4) ((rd_T27 x4 x8).f5)) else (none)) else (none)) else (none)) else (colophonlaw29_AnchorsBoth.j1 k x3 x4 x5 x6 x8 false ((rd_T27 x4 x8).f0) ((rd_T27 x4 x8).f1) ((rd_T27 x4 x8).f2) ((rd_T27 x4 x8).f3) ((rd_T27 x4 x8).f4) ((rd_T27 x4 x8).f5)))))))))) else (none)) else ((colophonlaw29_wakes.f k).bind fun t198 => (some t198))
def colophonlaw29_AnchorsBoth.j1 : Nat → List Int → List (S27) → Int → Int → Int → Bool → Int → Int → Int → Int → Int → Int → Option (Bool)
  | 0, _, _, _, _, _, _, _, _, _, _, _, _ => none
  | k + 1, x3, x4, x5, x6, x8, x91, x201000, x201001, x201002, x201003, x201004, x201005 => if x91 = true then (some false) else (if x201002 = (-1) then (colophonlaw29_AnchorsBoth.j2 k x3 x4 x5 x6 x8 false x201000 x201001 x201002 x201003 x201004 x201005) else (if 0 ≤ x201002 then (if x201002 < (x4.length : Int) then (if ((rd_T27 x4 x201002).f1) = x8 then (colophonlaw29_AnchorsBoth.j2 k x3 x4 x5 x6 x8 (((rd_T27 x4 x201002).f0) != x201000) x201000 x201001 x201002 x201003 x201004 x201005) else (colophonlaw29_AnchorsBoth.j2 k x3 x4 x5 x6 x8 true x201000 x201001 x201002 x201003 x201004 x201005)) else (none)) else (none)))
def colophonlaw29_AnchorsBoth.j2 : Nat → List Int → List (S27) → Int → Int → Int → Bool → Int → Int → Int → Int → Int → Int → Option (Bool)
  | 0, _, _, _, _, _, _, _, _, _, _, _, _ => none
  | k + 1, x3, x4, x5, x6, x8, x115, x201000, x201001, x201002, x201003, x201004, x201005 => if x115 = true then (some false) else (if x201000 ≥ 0 then (if 0 ≤ x201000 then (if x201000 < (x4.length : Int) then (if ((x201001 == (-1)) != (((rd_T27 x4 x201000).f3) == x8)) = true then (some false) else (if ((x201002 == (-1)) != (((rd_T27 x4 x201000).f4) == x8)) = true then (some false) else (if ((x201003 == (-1)) != (x201005 == 0)) = true then (some false) else (colophonlaw29_AnchorsBoth.l0 k x3 x4 x5 x6 (wrap64 (x8 + 1)))))) else (none)) else (none)) else (if ((x201001 == (-1)) != (x5 == x8)) = true then (some false) else (if ((x201002 == (-1)) != (x6 == x8)) = true then (some false) else (if ((x201003 == (-1)) != (x201005 == 0)) = true then (some false) else (colophonlaw29_AnchorsBoth.l0 k x3 x4 x5 x6 (wrap64 (x8 + 1)))))))
end
def colophonlaw29_AnchorsBoth.f (k : Nat) (l0 : List Int) : Option (Bool) := (colophonkeep_Ints.f l0 60).bind fun t189 => ((anchors_Knots.f k t189).bind fun t192 => ((anchors_Roots.f k t189).bind fun bt195 => (if (t192.length : Int) = (t189.length : Int) then (colophonlaw29_AnchorsBoth.l0 k t189 t192 bt195.1 bt195.2.1 0) else (some false))))
theorem colophonlaw29_AnchorsBoth.mono_l : ∀ k, (∀ y0 y1 y2 y3 y4, LeO (colophonlaw29_AnchorsBoth.l0 k y0 y1 y2 y3 y4) (colophonlaw29_AnchorsBoth.l0 (k + 1) y0 y1 y2 y3 y4)) ∧ (∀ y0 y1 y2 y3 y4 y5 y6 y7 y8 y9 y10 y11, LeO (colophonlaw29_AnchorsBoth.j1 k y0 y1 y2 y3 y4 y5 y6 y7 y8 y9 y10 y11) (colophonlaw29_AnchorsBoth.j1 (k + 1) y0 y1 y2 y3 y4 y5 y6 y7 y8 y9 y10 y11)) ∧ (∀ y0 y1 y2 y3 y4 y5 y6 y7 y8 y9 y10 y11, LeO (colophonlaw29_AnchorsBoth.j2 k y0 y1 y2 y3 y4 y5 y6 y7 y8 y9 y10 y11) (colophonlaw29_AnchorsBoth.j2 (k + 1) y0 y1 y2 y3 y4 y5 y6 y7 y8 y9 y10 y11))
  | 0 => ⟨fun _ _ _ _ _ r h => by simp [colophonlaw29_AnchorsBoth.l0] at h, fun _ _ _ _ _ _ _ _ _ _ _ _ r h => by simp [colophonlaw29_AnchorsBoth.j1] at h, fun _ _ _ _ _ _ _ _ _ _ _ _ r h => by simp [colophonlaw29_AnchorsBoth.j2] at h⟩
  | k + 1 => by
    obtain ⟨ih0, ih1, ih2⟩ := colophonlaw29_AnchorsBoth.mono_l k
    refine ⟨?_, ?_, ?_⟩
    · intro y0 y1 y2 y3 y4
      unfold colophonlaw29_AnchorsBoth.l0
      repeat' first
      | (with_reducible exact ih0 _ _ _ _ _)
      | (with_reducible exact ih1 _ _ _ _ _ _ _ _ _ _ _ _)
      | (with_reducible exact ih2 _ _ _ _ _ _ _ _ _ _ _ _)
      | (with_reducible exact anchors_Knots.mono _ _)
      | (with_reducible exact anchors_Roots.mono _ _)
      | (with_reducible exact colophonlaw29_wakes.mono _)
      | (with_reducible exact LeO.refl _)
      | (with_reducible exact LeO.none _)
      | (with_reducible refine LeO.ite ?_ ?_)
      | (with_reducible refine LeO.bind ?_ (fun _ => ?_))
      | exact ih0 _ _ _ _ _
      | exact ih1 _ _ _ _ _ _ _ _ _ _ _ _
      | exact ih2 _ _ _ _ _ _ _ _ _ _ _ _
      | exact anchors_Knots.mono _ _
      | exact anchors_Roots.mono _ _
      | exact colophonlaw29_wakes.mono _
      | exact LeO.none _
      | refine LeO.ite ?_ ?_
      | refine LeO.bind ?_ (fun _ => ?_)
    · intro y0 y1 y2 y3 y4 y5 y6 y7 y8 y9 y10 y11
      unfold colophonlaw29_AnchorsBoth.j1
      repeat' first
      | (with_reducible exact ih0 _ _ _ _ _)
      | (with_reducible exact ih1 _ _ _ _ _ _ _ _ _ _ _ _)
      | (with_reducible exact ih2 _ _ _ _ _ _ _ _ _ _ _ _)
      | (with_reducible exact anchors_Knots.mono _ _)
      | (with_reducible exact anchors_Roots.mono _ _)
      | (with_reducible exact colophonlaw29_wakes.mono _)
      | (with_reducible exact LeO.refl _)
      | (with_reducible exact LeO.none _)
      | (with_reducible refine LeO.ite ?_ ?_)
      | (with_reducible refine LeO.bind ?_ (fun _ => ?_))
      | exact ih0 _ _ _ _ _
      | exact ih1 _ _ _ _ _ _ _ _ _ _ _ _
      | exact ih2 _ _ _ _ _ _ _ _ _ _ _ _
      | exact anchors_Knots.mono _ _
      | exact anchors_Roots.mono _ _
      | exact colophonlaw29_wakes.mono _
      | exact LeO.none _
      | refine LeO.ite ?_ ?_
      | refine LeO.bind ?_ (fun _ => ?_)
    · intro y0 y1 y2 y3 y4 y5 y6 y7 y8 y9 y10 y11
      unfold colophonlaw29_AnchorsBoth.j2
      repeat' first
      | (with_reducible exact ih0 _ _ _ _ _)
      | (with_reducible exact ih1 _ _ _ _ _ _ _ _ _ _ _ _)
      | (with_reducible exact ih2 _ _ _ _ _ _ _ _ _ _ _ _)
      | (with_reducible exact anchors_Knots.mono _ _)
      | (with_reducible exact anchors_Roots.mono _ _)
      | (with_reducible exact colophonlaw29_wakes.mono _)
      | (with_reducible exact LeO.refl _)
      | (with_reducible exact LeO.none _)
      | (with_reducible refine LeO.ite ?_ ?_)
      | (with_reducible refine LeO.bind ?_ (fun _ => ?_))
      | exact ih0 _ _ _ _ _
      | exact ih1 _ _ _ _ _ _ _ _ _ _ _ _
      | exact ih2 _ _ _ _ _ _ _ _ _ _ _ _
      | exact anchors_Knots.mono _ _
      | exact anchors_Roots.mono _ _
      | exact colophonlaw29_wakes.mono _
      | exact LeO.none _
      | refine LeO.ite ?_ ?_
      | refine LeO.bind ?_ (fun _ => ?_)
theorem colophonlaw29_AnchorsBoth.mono : ∀ a0 k, LeO (colophonlaw29_AnchorsBoth.f k a0) (colophonlaw29_AnchorsBoth.f (k + 1) a0) := by
  intro a0 k
  obtain ⟨ih0, ih1, ih2⟩ := colophonlaw29_AnchorsBoth.mono_l k
  unfold colophonlaw29_AnchorsBoth.f
  repeat' first
      | (with_reducible exact ih0 _ _ _ _ _)
      | (with_reducible exact ih1 _ _ _ _ _ _ _ _ _ _ _ _)
      | (with_reducible exact ih2 _ _ _ _ _ _ _ _ _ _ _ _)
      | (with_reducible exact anchors_Knots.mono _ _)
      | (with_reducible exact anchors_Roots.mono _ _)
      | (with_reducible exact colophonlaw29_wakes.mono _)
      | (with_reducible exact LeO.refl _)
      | (with_reducible exact LeO.none _)
      | (with_reducible refine LeO.ite ?_ ?_)
      | (with_reducible refine LeO.bind ?_ (fun _ => ?_))
      | exact ih0 _ _ _ _ _
      | exact ih1 _ _ _ _ _ _ _ _ _ _ _ _
      | exact ih2 _ _ _ _ _ _ _ _ _ _ _ _
      | exact anchors_Knots.mono _ _
      | exact anchors_Roots.mono _ _
      | exact colophonlaw29_wakes.mono _
      | exact LeO.none _
      | refine LeO.ite ?_ ?_
      | refine LeO.bind ?_ (fun _ => ?_)
set_option maxHeartbeats 8000000 in
set_option maxRecDepth 100000 in
theorem colophonlaw29_AnchorsBoth.calls (k : Nat) (A0 : Option Addr) (c0 : Nat) (l0 : List Int) (r : Bool) (w : World) (hr0 : Kd.C (Kd.int .i64) w A0 l0.length l0) (hc0 : l0.length ≤ c0) (h : colophonlaw29_AnchorsBoth.f k l0 = some r) :
    Calls Try.prog 5 #[.slice A0 l0.length c0] w fun e w' => e = .returned (.bool r) ∧ Below w.heap.size w w' := by
  have hu27 := Try.underlying27
  have HR0 := Aside0.mk hr0
  have HC0 := Aside0.mk hc0
  clear hr0 hc0
  have HB := Aside0.mk (Below.refl w.heap.size w)
  have H : ((colophonkeep_Ints.f l0 60).bind fun t189 => ((anchors_Knots.f k t189).bind fun t192 => ((anchors_Roots.f k t189).bind fun bt195 => (if (t192.length : Int) = (t189.length : Int) then (colophonlaw29_AnchorsBoth.l0 k t189 t192 bt195.1 bt195.2.1 0) else (some false))))) = some r := h
  clear h
  replace H := Option.bind_eq_some_iff.mp H
  obtain ⟨t189, A20, H⟩ := H
  replace H : ((anchors_Knots.f k t189).bind fun t192 => ((anchors_Roots.f k t189).bind fun bt195 => (if (t192.length : Int) = (t189.length : Int) then (colophonlaw29_AnchorsBoth.l0 k t189 t192 bt195.1 bt195.2.1 0) else (some false)))) = some r := H
  have A2 := Aside0.mk A20
  clear A20
  replace H := Option.bind_eq_some_iff.mp H
  obtain ⟨t192, A30, H⟩ := H
  replace H : ((anchors_Roots.f k t189).bind fun bt195 => (if (t192.length : Int) = (t189.length : Int) then (colophonlaw29_AnchorsBoth.l0 k t189 t192 bt195.1 bt195.2.1 0) else (some false))) = some r := H
  have A3 := Aside0.mk A30
  clear A30
  replace H := Option.bind_eq_some_iff.mp H
  obtain ⟨⟨t195, t196, t197⟩, A40, H⟩ := H
  replace H : (if (t192.length : Int) = (t189.length : Int) then (colophonlaw29_AnchorsBoth.l0 k t189 t192 t195 t196 0) else (some false)) = some r := H
  have A4 := Aside0.mk A40
  clear A40
  by_cases c5 : (t192.length : Int) = (t189.length : Int)
  · rw [if_pos c5] at H
    have c5b0 : ((t192.length : Int) == (t189.length : Int)) = true := beq_iff_eq.mpr c5
    have c5b1 : ((t192.length : Int) != (t189.length : Int)) = false := bne_eq_false_iff_eq.mpr c5
    have c5b2 : (t192.length == t189.length) = true := by first | simpa using c5 | (simp at c5 ⊢; omega)
    clear c5
    have H' := Aside0.mk H
    clear H
    go_enter Try.func5, Try.ntmps5
    go_wp2_with (first | (go_at_call 8; (with_reducible refine (colophonkeep_Ints.calls _ _ l0 60 t189 _ ?side1 ?side2 A2.out).mono ?_); (case side1 => repeat (first | exact HR0.out | (with_reducible refine Kd.C_alloc ?_ _) | (with_reducible refine Kd.C_drewN ?_ _) | (with_reducible refine Kd.C_drew ?_))); (case side2 => exact HC0.out); rintro e w6 ⟨v190, rfl, ho0, hb⟩; have n0_ := Aside0.mk (Kd.R_lower ho0 (below_size (by repeat (first | (with_reducible first | exact HB.out | apply below_alloc | apply pw_below_drewN | apply below_drew1) | exact HB.out)))); have n1_ := Aside0.mk (below_step (by repeat (first | (with_reducible first | exact HB.out | apply below_alloc | apply pw_below_drewN | apply below_drew1) | exact HB.out)) hb); clear HB; have HO191 := n0_; have HB := n1_; clear n0_ n1_; (try clear hb); (try clear hb2); (try clear hk); (try clear hi); (try clear ho0); obtain ⟨Ao7, co7, eo7⟩ := Kd.R_slice HO191.out; subst eo7) | (go_at_call 9; (with_reducible refine (anchors_Knots.calls k _ _ t189 t192 _ ?side1 ?side2 A3.out).mono ?_); (case side1 => repeat (first | exact (Kd.R_reads' HO191.out).2.2 | (with_reducible refine Kd.C_alloc ?_ _) | (with_reducible refine Kd.C_drewN ?_ _) | (with_reducible refine Kd.C_drew ?_))); (case side2 => exact (Kd.R_reads' HO191.out).2.1); rintro e w8 ⟨v193, rfl, ho0, hb⟩; have n0_ := Aside0.mk (Kd.R_below (by (with_reducible repeat (first | apply Kd.R_alloc | apply Kd.R_drewN | apply Kd.R_drew)); exact HO191.out) hb); have n1_ := Aside0.mk (Kd.R_lower ho0 (below_size (by repeat (first | (with_reducible first | exact HB.out | apply below_alloc | apply pw_below_drewN | apply below_drew1) | exact HB.out)))); have n2_ := Aside0.mk (below_step (by repeat (first | (with_reducible first | exact HB.out | apply below_alloc | apply pw_below_drewN | apply below_drew1) | exact HB.out)) hb); clear HO191; clear HB; have HO191 := n0_; have HO194 := n1_; have HB := n2_; clear n0_ n1_ n2_; (try clear hb); (try clear hb2); (try clear hk); (try clear hi); (try clear ho0)) | (go_at_call 11; (with_reducible refine (anchors_Roots.calls k _ _ t189 t195 t196 t197 _ ?side1 ?side2 A4.out).mono ?_); (case side1 => repeat (first | exact (Kd.R_reads' HO191.out).2.2 | (with_reducible refine Kd.C_alloc ?_ _) | (with_reducible refine Kd.C_drewN ?_ _) | (with_reducible refine Kd.C_drew ?_))); (case side2 => exact (Kd.R_reads' HO191.out).2.1); rintro e w9 ⟨rfl, hb⟩; have n0_ := Aside0.mk (Kd.R_below (by (with_reducible repeat (first | apply Kd.R_alloc | apply Kd.R_drewN | apply Kd.R_drew)); exact HO191.out) hb); have n1_ := Aside0.mk (Kd.R_below (by (with_reducible repeat (first | apply Kd.R_alloc | apply Kd.R_drewN | apply Kd.R_drew)); exact HO194.out) hb); have n2_ := Aside0.mk (below_step (by repeat (first | (with_reducible first | exact HB.out | apply below_alloc | apply pw_below_drewN | apply below_drew1) | exact HB.out)) hb); clear HO191; clear HO194; clear HB; have HO191 := n0_; have HO194 := n1_; have HB := n2_; clear n0_ n1_ n2_; (try clear hb); (try clear hb2); (try clear hk); (try clear hi); obtain ⟨Ao10, co10, eo10⟩ := Kd.R_slice HO194.out; subst eo10))
    repeat (go_quiet (first | (go_at_call 8; (with_reducible refine (colophonkeep_Ints.calls _ _ l0 60 t189 _ ?side1 ?side2 A2.out).mono ?_); (case side1 => repeat (first | exact HR0.out | (with_reducible refine Kd.C_alloc ?_ _) | (with_reducible refine Kd.C_drewN ?_ _) | (with_reducible refine Kd.C_drew ?_))); (case side2 => exact HC0.out); rintro e w6 ⟨v190, rfl, ho0, hb⟩; have n0_ := Aside0.mk (Kd.R_lower ho0 (below_size (by repeat (first | (with_reducible first | exact HB.out | apply below_alloc | apply pw_below_drewN | apply below_drew1) | exact HB.out)))); have n1_ := Aside0.mk (below_step (by repeat (first | (with_reducible first | exact HB.out | apply below_alloc | apply pw_below_drewN | apply below_drew1) | exact HB.out)) hb); clear HB; have HO191 := n0_; have HB := n1_; clear n0_ n1_; (try clear hb); (try clear hb2); (try clear hk); (try clear hi); (try clear ho0); obtain ⟨Ao7, co7, eo7⟩ := Kd.R_slice HO191.out; subst eo7) | (go_at_call 9; (with_reducible refine (anchors_Knots.calls k _ _ t189 t192 _ ?side1 ?side2 A3.out).mono ?_); (case side1 => repeat (first | exact (Kd.R_reads' HO191.out).2.2 | (with_reducible refine Kd.C_alloc ?_ _) | (with_reducible refine Kd.C_drewN ?_ _) | (with_reducible refine Kd.C_drew ?_))); (case side2 => exact (Kd.R_reads' HO191.out).2.1); rintro e w8 ⟨v193, rfl, ho0, hb⟩; have n0_ := Aside0.mk (Kd.R_below (by (with_reducible repeat (first | apply Kd.R_alloc | apply Kd.R_drewN | apply Kd.R_drew)); exact HO191.out) hb); have n1_ := Aside0.mk (Kd.R_lower ho0 (below_size (by repeat (first | (with_reducible first | exact HB.out | apply below_alloc | apply pw_below_drewN | apply below_drew1) | exact HB.out)))); have n2_ := Aside0.mk (below_step (by repeat (first | (with_reducible first | exact HB.out | apply below_alloc | apply pw_below_drewN | apply below_drew1) | exact HB.out)) hb); clear HO191; clear HB; have HO191 := n0_; have HO194 := n1_; have HB := n2_; clear n0_ n1_ n2_; (try clear hb); (try clear hb2); (try clear hk); (try clear hi); (try clear ho0)) | (go_at_call 11; (with_reducible refine (anchors_Roots.calls k _ _ t189 t195 t196 t197 _ ?side1 ?side2 A4.out).mono ?_); (case side1 => repeat (first | exact (Kd.R_reads' HO191.out).2.2 | (with_reducible refine Kd.C_alloc ?_ _) | (with_reducible refine Kd.C_drewN ?_ _) | (with_reducible refine Kd.C_drew ?_))); (case side2 => exact (Kd.R_reads' HO191.out).2.1); rintro e w9 ⟨rfl, hb⟩; have n0_ := Aside0.mk (Kd.R_below (by (with_reducible repeat (first | apply Kd.R_alloc | apply Kd.R_drewN | apply Kd.R_drew)); exact HO191.out) hb); have n1_ := Aside0.mk (Kd.R_below (by (with_reducible repeat (first | apply Kd.R_alloc | apply Kd.R_drewN | apply Kd.R_drew)); exact HO194.out) hb); have n2_ := Aside0.mk (below_step (by repeat (first | (with_reducible first | exact HB.out | apply below_alloc | apply pw_below_drewN | apply below_drew1) | exact HB.out)) hb); clear HO191; clear HO194; clear HB; have HO191 := n0_; have HO194 := n1_; have HB := n2_; clear n0_ n1_ n2_; (try clear hb); (try clear hb2); (try clear hk); (try clear hi); obtain ⟨Ao10, co10, eo10⟩ := Kd.R_slice HO194.out; subst eo10)); try go_wp2_with (first | (go_at_call 8; (with_reducible refine (colophonkeep_Ints.calls _ _ l0 60 t189 _ ?side1 ?side2 A2.out).mono ?_); (case side1 => repeat (first | exact HR0.out | (with_reducible refine Kd.C_alloc ?_ _) | (with_reducible refine Kd.C_drewN ?_ _) | (with_reducible refine Kd.C_drew ?_))); (case side2 => exact HC0.out); rintro e w6 ⟨v190, rfl, ho0, hb⟩; have n0_ := Aside0.mk (Kd.R_lower ho0 (below_size (by repeat (first | (with_reducible first | exact HB.out | apply below_alloc | apply pw_below_drewN | apply below_drew1) | exact HB.out)))); have n1_ := Aside0.mk (below_step (by repeat (first | (with_reducible first | exact HB.out | apply below_alloc | apply pw_below_drewN | apply below_drew1) | exact HB.out)) hb); clear HB; have HO191 := n0_; have HB := n1_; clear n0_ n1_; (try clear hb); (try clear hb2); (try clear hk); (try clear hi); (try clear ho0); obtain ⟨Ao7, co7, eo7⟩ := Kd.R_slice HO191.out; subst eo7) | (go_at_call 9; (with_reducible refine (anchors_Knots.calls k _ _ t189 t192 _ ?side1 ?side2 A3.out).mono ?_); (case side1 => repeat (first | exact (Kd.R_reads' HO191.out).2.2 | (with_reducible refine Kd.C_alloc ?_ _) | (with_reducible refine Kd.C_drewN ?_ _) | (with_reducible refine Kd.C_drew ?_))); (case side2 => exact (Kd.R_reads' HO191.out).2.1); rintro e w8 ⟨v193, rfl, ho0, hb⟩; have n0_ := Aside0.mk (Kd.R_below (by (with_reducible repeat (first | apply Kd.R_alloc | apply Kd.R_drewN | apply Kd.R_drew)); exact HO191.out) hb); have n1_ := Aside0.mk (Kd.R_lower ho0 (below_size (by repeat (first | (with_reducible first | exact HB.out | apply below_alloc | apply pw_below_drewN | apply below_drew1) | exact HB.out)))); have n2_ := Aside0.mk (below_step (by repeat (first | (with_reducible first | exact HB.out | apply below_alloc | apply pw_below_drewN | apply below_drew1) | exact HB.out)) hb); clear HO191; clear HB; have HO191 := n0_; have HO194 := n1_; have HB := n2_; clear n0_ n1_ n2_; (try clear hb); (try clear hb2); (try clear hk); (try clear hi); (try clear ho0)) | (go_at_call 11; (with_reducible refine (anchors_Roots.calls k _ _ t189 t195 t196 t197 _ ?side1 ?side2 A4.out).mono ?_); (case side1 => repeat (first | exact (Kd.R_reads' HO191.out).2.2 | (with_reducible refine Kd.C_alloc ?_ _) | (with_reducible refine Kd.C_drewN ?_ _) | (with_reducible refine Kd.C_drew ?_))); (case side2 => exact (Kd.R_reads' HO191.out).2.1); rintro e w9 ⟨rfl, hb⟩; have n0_ := Aside0.mk (Kd.R_below (by (with_reducible repeat (first | apply Kd.R_alloc | apply Kd.R_drewN | apply Kd.R_drew)); exact HO191.out) hb); have n1_ := Aside0.mk (Kd.R_below (by (with_reducible repeat (first | apply Kd.R_alloc | apply Kd.R_drewN | apply Kd.R_drew)); exact HO194.out) hb); have n2_ := Aside0.mk (below_step (by repeat (first | (with_reducible first | exact HB.out | apply below_alloc | apply pw_below_drewN | apply below_drew1) | exact HB.out)) hb); clear HO191; clear HO194; clear HB; have HO191 := n0_; have HO194 := n1_; have HB := n2_; clear n0_ n1_ n2_; (try clear hb); (try clear hb2); (try clear hk); (try clear hi); obtain ⟨Ao10, co10, eo10⟩ := Kd.R_slice HO194.out; subst eo10)))
    go_loopg [8] k (fun kq v8 w' => ∃ (x8_1 : Int), v8 = .int .i64 x8_1 ∧ Aside0 (colophonlaw29_AnchorsBoth.l0 kq t189 t192 t195 t196 x8_1 = some r) ∧ Aside0 (kq ≤ k) ∧ Aside0 (Kd.R (Kd.int .i64) 3 w' w.heap.size (fun _ => True) (.slice Ao7 t189.length co7) t189) ∧ Aside0 (Kd.R k27 27 w' w.heap.size (fun _ => True) (.slice Ao10 t192.length co10) t192) ∧ Aside0 (Below w.heap.size w w'))
    case atStart => exact ⟨(0), (by first | rfl | (simp; done) | (simp [*]; done)), H', ⟨Nat.le_refl _⟩, ⟨by (with_reducible repeat (first | apply Kd.R_alloc | apply Kd.R_drewN | apply Kd.R_drew)); exact HO191.out⟩, ⟨by (with_reducible repeat (first | apply Kd.R_alloc | apply Kd.R_drewN | apply Kd.R_drew)); exact HO194.out⟩, ⟨by repeat (first | (with_reducible first | exact HB.out | apply below_alloc | apply pw_below_drewN | apply below_drew1) | exact HB.out)⟩⟩
    case round =>
      clear H'
      try clear p2
      try clear c5
      try clear c5b0
      try clear c5b1
      try clear c5b2
      obtain ⟨x8_1, rfl, HA, HK1, HO_3, HO_4, HB⟩ := hrel
      cases gk with
      | zero => exact absurd HA.out (by simp [colophonlaw29_AnchorsBoth.l0])
      | succ k1 =>
        have H := HA.out
        clear HA
        simp only [colophonlaw29_AnchorsBoth.l0] at H
        by_cases c11 : x8_1 < (t192.length : Int)
        · rw [if_pos c11] at H
          have c11b0 : decide (x8_1 < (t192.length : Int)) = true := decide_eq_true c11
          clear c11
          by_cases c12 : 0 ≤ x8_1
          · rw [if_pos c12] at H
            have c12b0 : decide (0 ≤ x8_1) = true := decide_eq_true c12
            clear c12
            have HC13 := Aside0.mk H
            clear H
            have p199 : 0 ≤ (x8_1 : Int) := of_decide_eq_true (by first | (with_reducible assumption) | assumption)
            have q199 : x8_1 < (t192.length : Int) := of_decide_eq_true (by first | (with_reducible assumption) | assumption)
            obtain ⟨ad199, e199, hx199_0, hx199_1, hx199_2, hx199_3, hx199_4, hx199_5⟩ := at_T27 (Kd.R_reads' HO_4.out).2.2 x8_1 p199 q199
            cases e199
            replace p199 := eq_true p199
            replace q199 := eq_true q199
            go_upto_region 10 with (first | ((with_reducible refine gate_dst (N := 9) rfl ?_); (try (refine gate_guard (by rfl) ?_; dsimp only)); refine box_event ?hg (N := 9) ?hd (cs := #[.int .i64 0, .int .i64 0, .int .i64 0, .int .i64 0, .int .i64 0, .int .i64 0]) (t := 27) ?hr ?_; (case hd => rfl); (case hg => rfl); (case hr => first | (go_simp; done) | (go_simp; rfl)); intro gb200 hg w14 hbox hb; have n0_ := Aside0.mk (Kd.R_below (by (with_reducible repeat (first | apply Kd.R_alloc | apply Kd.R_drewN | apply Kd.R_drew)); exact HO_3.out) hb); have n1_ := Aside0.mk (Kd.R_below (Kd.R_elderB (by (with_reducible repeat (first | apply Kd.R_alloc | apply Kd.R_drewN | apply Kd.R_drew)); exact HO_4.out) gb200 (Nat.le_of_eq hg.symm)) hb); have n2_ := Aside0.mk (below_step (by repeat (first | (with_reducible first | exact HB.out | apply below_alloc | apply pw_below_drewN | apply below_drew1) | exact HB.out)) hb); have n3_ := Aside0.mk (hbox); have n4_ := Aside0.mk ((by rw [hg]; exact (below_size (by repeat (first | (with_reducible first | exact HB.out | apply below_alloc | apply pw_below_drewN | apply below_drew1) | exact HB.out))) : w.heap.size ≤ gb200)); have n5_ := Aside0.mk ((by rw [hg]; exact (below_size (by repeat (first | (with_reducible first | exact HB.out | apply below_alloc | apply pw_below_drewN | apply below_drew1) | exact HB.out))) : w.heap.size ≤ gb200)); clear HO_3; clear HO_4; clear HB; have HO_3 := n0_; have HO_4 := n1_; have HB := n2_; have BK200 := n3_; have GW200 := n4_; have GE200 := n5_; clear n0_ n1_ n2_ n3_ n4_ n5_; clear hb hbox hg; have hcz15_0 : w14.cell? ⟨gb200, 0, none⟩ = some (.int .i64 0) := (blk_cell BK200.out 0).trans rfl; have hcz15_1 : w14.cell? ⟨gb200, 1, none⟩ = some (.int .i64 0) := (blk_cell BK200.out 1).trans rfl; have hcz15_2 : w14.cell? ⟨gb200, 2, none⟩ = some (.int .i64 0) := (blk_cell BK200.out 2).trans rfl; have hcz15_3 : w14.cell? ⟨gb200, 3, none⟩ = some (.int .i64 0) := (blk_cell BK200.out 3).trans rfl; have hcz15_4 : w14.cell? ⟨gb200, 4, none⟩ = some (.int .i64 0) := (blk_cell BK200.out 4).trans rfl; have hcz15_5 : w14.cell? ⟨gb200, 5, none⟩ = some (.int .i64 0) := (blk_cell BK200.out 5).trans rfl; have hfz15_0 := blk_frozen BK200.out 0; have hfz15_1 := blk_frozen BK200.out 1; have hfz15_2 := blk_frozen BK200.out 2; have hfz15_3 := blk_frozen BK200.out 3; have hfz15_4 := blk_frozen BK200.out 4; have hfz15_5 := blk_frozen BK200.out 5))
            repeat (go_quiet (first | ((with_reducible refine gate_dst (N := 9) rfl ?_); (try (refine gate_guard (by rfl) ?_; dsimp only)); refine box_event ?hg (N := 9) ?hd (cs := #[.int .i64 0, .int .i64 0, .int .i64 0, .int .i64 0, .int .i64 0, .int .i64 0]) (t := 27) ?hr ?_; (case hd => rfl); (case hg => rfl); (case hr => first | (go_simp; done) | (go_simp; rfl)); intro gb200 hg w14 hbox hb; have n0_ := Aside0.mk (Kd.R_below (by (with_reducible repeat (first | apply Kd.R_alloc | apply Kd.R_drewN | apply Kd.R_drew)); exact HO_3.out) hb); have n1_ := Aside0.mk (Kd.R_below (Kd.R_elderB (by (with_reducible repeat (first | apply Kd.R_alloc | apply Kd.R_drewN | apply Kd.R_drew)); exact HO_4.out) gb200 (Nat.le_of_eq hg.symm)) hb); have n2_ := Aside0.mk (below_step (by repeat (first | (with_reducible first | exact HB.out | apply below_alloc | apply pw_below_drewN | apply below_drew1) | exact HB.out)) hb); have n3_ := Aside0.mk (hbox); have n4_ := Aside0.mk ((by rw [hg]; exact (below_size (by repeat (first | (with_reducible first | exact HB.out | apply below_alloc | apply pw_below_drewN | apply below_drew1) | exact HB.out))) : w.heap.size ≤ gb200)); have n5_ := Aside0.mk ((by rw [hg]; exact (below_size (by repeat (first | (with_reducible first | exact HB.out | apply below_alloc | apply pw_below_drewN | apply below_drew1) | exact HB.out))) : w.heap.size ≤ gb200)); clear HO_3; clear HO_4; clear HB; have HO_3 := n0_; have HO_4 := n1_; have HB := n2_; have BK200 := n3_; have GW200 := n4_; have GE200 := n5_; clear n0_ n1_ n2_ n3_ n4_ n5_; clear hb hbox hg; have hcz15_0 : w14.cell? ⟨gb200, 0, none⟩ = some (.int .i64 0) := (blk_cell BK200.out 0).trans rfl; have hcz15_1 : w14.cell? ⟨gb200, 1, none⟩ = some (.int .i64 0) := (blk_cell BK200.out 1).trans rfl; have hcz15_2 : w14.cell? ⟨gb200, 2, none⟩ = some (.int .i64 0) := (blk_cell BK200.out 2).trans rfl; have hcz15_3 : w14.cell? ⟨gb200, 3, none⟩ = some (.int .i64 0) := (blk_cell BK200.out 3).trans rfl; have hcz15_4 : w14.cell? ⟨gb200, 4, none⟩ = some (.int .i64 0) := (blk_cell BK200.out 4).trans rfl; have hcz15_5 : w14.cell? ⟨gb200, 5, none⟩ = some (.int .i64 0) := (blk_cell BK200.out 5).trans rfl; have hfz15_0 := blk_frozen BK200.out 0; have hfz15_1 := blk_frozen BK200.out 1; have hfz15_2 := blk_frozen BK200.out 2; have hfz15_3 := blk_frozen BK200.out 3; have hfz15_4 := blk_frozen BK200.out 4; have hfz15_5 := blk_frozen BK200.out 5)); go_upto_region 10 with (first | ((with_reducible refine gate_dst (N := 9) rfl ?_); (try (refine gate_guard (by rfl) ?_; dsimp only)); refine box_event ?hg (N := 9) ?hd (cs := #[.int .i64 0, .int .i64 0, .int .i64 0, .int .i64 0, .int .i64 0, .int .i64 0]) (t := 27) ?hr ?_; (case hd => rfl); (case hg => rfl); (case hr => first | (go_simp; done) | (go_simp; rfl)); intro gb200 hg w14 hbox hb; have n0_ := Aside0.mk (Kd.R_below (by (with_reducible repeat (first | apply Kd.R_alloc | apply Kd.R_drewN | apply Kd.R_drew)); exact HO_3.out) hb); have n1_ := Aside0.mk (Kd.R_below (Kd.R_elderB (by (with_reducible repeat (first | apply Kd.R_alloc | apply Kd.R_drewN | apply Kd.R_drew)); exact HO_4.out) gb200 (Nat.le_of_eq hg.symm)) hb); have n2_ := Aside0.mk (below_step (by repeat (first | (with_reducible first | exact HB.out | apply below_alloc | apply pw_below_drewN | apply below_drew1) | exact HB.out)) hb); have n3_ := Aside0.mk (hbox); have n4_ := Aside0.mk ((by rw [hg]; exact (below_size (by repeat (first | (with_reducible first | exact HB.out | apply below_alloc | apply pw_below_drewN | apply below_drew1) | exact HB.out))) : w.heap.size ≤ gb200)); have n5_ := Aside0.mk ((by rw [hg]; exact (below_size (by repeat (first | (with_reducible first | exact HB.out | apply below_alloc | apply pw_below_drewN | apply below_drew1) | exact HB.out))) : w.heap.size ≤ gb200)); clear HO_3; clear HO_4; clear HB; have HO_3 := n0_; have HO_4 := n1_; have HB := n2_; have BK200 := n3_; have GW200 := n4_; have GE200 := n5_; clear n0_ n1_ n2_ n3_ n4_ n5_; clear hb hbox hg; have hcz15_0 : w14.cell? ⟨gb200, 0, none⟩ = some (.int .i64 0) := (blk_cell BK200.out 0).trans rfl; have hcz15_1 : w14.cell? ⟨gb200, 1, none⟩ = some (.int .i64 0) := (blk_cell BK200.out 1).trans rfl; have hcz15_2 : w14.cell? ⟨gb200, 2, none⟩ = some (.int .i64 0) := (blk_cell BK200.out 2).trans rfl; have hcz15_3 : w14.cell? ⟨gb200, 3, none⟩ = some (.int .i64 0) := (blk_cell BK200.out 3).trans rfl; have hcz15_4 : w14.cell? ⟨gb200, 4, none⟩ = some (.int .i64 0) := (blk_cell BK200.out 4).trans rfl; have hcz15_5 : w14.cell? ⟨gb200, 5, none⟩ = some (.int .i64 0) := (blk_cell BK200.out 5).trans rfl; have hfz15_0 := blk_frozen BK200.out 0; have hfz15_1 := blk_frozen BK200.out 1; have hfz15_2 := blk_frozen BK200.out 2; have hfz15_3 := blk_frozen BK200.out 3; have hfz15_4 := blk_frozen BK200.out 4; have hfz15_5 := blk_frozen BK200.out 5)))
            (try simp only [Act.put, List.setIfInBounds_toArray, List.set_cons_zero, List.set_cons_succ])
            go_cut [91] (fun v91 wc => ∃ (kq : Nat) (x91_12 : Bool), v91 = .bool x91_12 ∧ Aside0 (colophonlaw29_AnchorsBoth.j1 kq t189 t192 t195 t196 x8_1 x91_12 ((rd_T27 t192 x8_1).f0) ((rd_T27 t192 x8_1).f1) ((rd_T27 t192 x8_1).f2) ((rd_T27 t192 x8_1).f3) ((rd_T27 t192 x8_1).f4) ((rd_T27 t192 x8_1).f5) = some r) ∧ Aside0 (kq ≤ k1) ∧ Aside0 (Kd.R (Kd.int .i64) 3 wc w.heap.size (fun _ => True) (.slice Ao7 t189.length co7) t189) ∧ Aside0 (Kd.R k27 27 wc w.heap.size (fun k_ => k_ ≠ gb200) (.slice (some ad199) t192.length co10) t192) ∧ Aside0 (wc.heap[gb200]? = some (.cells #[.int .i64 ((rd_T27 t192 x8_1).f0), .int .i64 ((rd_T27 t192 x8_1).f1), .int .i64 ((rd_T27 t192 x8_1).f2), .int .i64 ((rd_T27 t192 x8_1).f3), .int .i64 ((rd_T27 t192 x8_1).f4), .int .i64 ((rd_T27 t192 x8_1).f5)] 27 (0, 0))) ∧ Aside0 (Below w.heap.size w wc))
            case first =>
              have H := HC13.out
              clear HC13
              by_cases c16 : ((rd_T27 t192 x8_1).f0) < (-1)
              · rw [if_pos c16] at H
                have c16b0 : decide (((rd_T27 t192 x8_1).f0) < (-1)) = true := decide_eq_true c16
                clear c16
                (first | rw [c16b0] | (simp only [i64_w, i32_w]; rw [c16b0]) | skip)
                have H' := Aside0.mk H
                clear H
                have hcz17_0 : w14.cell? ⟨gb200, 0, none⟩ = some (.int .i64 0) := (blk_cell BK200.out 0).trans rfl
                have hcz17_1 : w14.cell? ⟨gb200, 1, none⟩ = some (.int .i64 0) := (blk_cell BK200.out 1).trans rfl
                have hcz17_2 : w14.cell? ⟨gb200, 2, none⟩ = some (.int .i64 0) := (blk_cell BK200.out 2).trans rfl
                have hcz17_3 : w14.cell? ⟨gb200, 3, none⟩ = some (.int .i64 0) := (blk_cell BK200.out 3).trans rfl
                have hcz17_4 : w14.cell? ⟨gb200, 4, none⟩ = some (.int .i64 0) := (blk_cell BK200.out 4).trans rfl
                have hcz17_5 : w14.cell? ⟨gb200, 5, none⟩ = some (.int .i64 0) := (blk_cell BK200.out 5).trans rfl
                have hfz17_0 := blk_frozen BK200.out 0
                have hfz17_1 := blk_frozen BK200.out 1
                have hfz17_2 := blk_frozen BK200.out 2
                have hfz17_3 := blk_frozen BK200.out 3
                have hfz17_4 := blk_frozen BK200.out 4
                have hfz17_5 := blk_frozen BK200.out 5
                go_wp2
                repeat (go_quiet (fail); try go_wp2)
                go_meet
                case rel => exact ⟨_, (true), (by first | rfl | (simp; done) | (simp [*]; done)), H', ⟨by have := HK1.out; first | omega | exact Nat.le_refl _⟩, ⟨by (with_reducible repeat (first | apply Kd.R_alloc | apply Kd.R_drewN | apply Kd.R_drew)); exact Kd.R_mono (Kd.R_far (p := ⟨gb200, 5, none⟩) (Kd.R_far (p := ⟨gb200, 4, none⟩) (Kd.R_far (p := ⟨gb200, 3, none⟩) (Kd.R_far (p := ⟨gb200, 2, none⟩) (Kd.R_far (p := ⟨gb200, 1, none⟩) (Kd.R_far (p := ⟨gb200, 0, none⟩) (Kd.R_types HO_3.out BK200.out (by decide)) (fun _ hk => hk.2) (.int .i64 ((rd_T27 t192 x8_1).f0))) (fun _ hk => hk.2) (.int .i64 ((rd_T27 t192 x8_1).f1))) (fun _ hk => hk.2) (.int .i64 ((rd_T27 t192 x8_1).f2))) (fun _ hk => hk.2) (.int .i64 ((rd_T27 t192 x8_1).f3))) (fun _ hk => hk.2) (.int .i64 ((rd_T27 t192 x8_1).f4))) (fun _ hk => hk.2) (.int .i64 ((rd_T27 t192 x8_1).f5))) (fun _ hk => trivial)⟩, ⟨by (with_reducible repeat (first | apply Kd.R_alloc | apply Kd.R_drewN | apply Kd.R_drew)); exact Kd.R_mono (Kd.R_far (p := ⟨gb200, 5, none⟩) (Kd.R_far (p := ⟨gb200, 4, none⟩) (Kd.R_far (p := ⟨gb200, 3, none⟩) (Kd.R_far (p := ⟨gb200, 2, none⟩) (Kd.R_far (p := ⟨gb200, 1, none⟩) (Kd.R_far (p := ⟨gb200, 0, none⟩) (Kd.R_mono HO_4.out (fun k_ hk => (⟨hk, hk.2⟩ : _ ∧ k_ ≠ gb200))) (fun _ hk => hk.2) (.int .i64 ((rd_T27 t192 x8_1).f0))) (fun _ hk => hk.2) (.int .i64 ((rd_T27 t192 x8_1).f1))) (fun _ hk => hk.2) (.int .i64 ((rd_T27 t192 x8_1).f2))) (fun _ hk => hk.2) (.int .i64 ((rd_T27 t192 x8_1).f3))) (fun _ hk => hk.2) (.int .i64 ((rd_T27 t192 x8_1).f4))) (fun _ hk => hk.2) (.int .i64 ((rd_T27 t192 x8_1).f5))) (fun _ hk => hk.1.2)⟩, ⟨by (with_reducible repeat (first | refine blk_drewN ?_ _ | refine blk_drew ?_ | refine blk_alloc ?_ _)); refine blk_put (cs := #[.int .i64 ((rd_T27 t192 x8_1).f0), .int .i64 ((rd_T27 t192 x8_1).f1), .int .i64 ((rd_T27 t192 x8_1).f2), .int .i64 ((rd_T27 t192 x8_1).f3), .int .i64 ((rd_T27 t192 x8_1).f4), .int .i64 0]) ?_ 5 _ rfl; (with_reducible repeat (first | refine blk_drewN ?_ _ | refine blk_drew ?_ | refine blk_alloc ?_ _)); refine blk_put (cs := #[.int .i64 ((rd_T27 t192 x8_1).f0), .int .i64 ((rd_T27 t192 x8_1).f1), .int .i64 ((rd_T27 t192 x8_1).f2), .int .i64 ((rd_T27 t192 x8_1).f3), .int .i64 0, .int .i64 0]) ?_ 4 _ rfl; (with_reducible repeat (first | refine blk_drewN ?_ _ | refine blk_drew ?_ | refine blk_alloc ?_ _)); refine blk_put (cs := #[.int .i64 ((rd_T27 t192 x8_1).f0), .int .i64 ((rd_T27 t192 x8_1).f1), .int .i64 ((rd_T27 t192 x8_1).f2), .int .i64 0, .int .i64 0, .int .i64 0]) ?_ 3 _ rfl; (with_reducible repeat (first | refine blk_drewN ?_ _ | refine blk_drew ?_ | refine blk_alloc ?_ _)); refine blk_put (cs := #[.int .i64 ((rd_T27 t192 x8_1).f0), .int .i64 ((rd_T27 t192 x8_1).f1), .int .i64 0, .int .i64 0, .int .i64 0, .int .i64 0]) ?_ 2 _ rfl; (with_reducible repeat (first | refine blk_drewN ?_ _ | refine blk_drew ?_ | refine blk_alloc ?_ _)); refine blk_put (cs := #[.int .i64 ((rd_T27 t192 x8_1).f0), .int .i64 0, .int .i64 0, .int .i64 0, .int .i64 0, .int .i64 0]) ?_ 1 _ rfl; (with_reducible repeat (first | refine blk_drewN ?_ _ | refine blk_drew ?_ | refine blk_alloc ?_ _)); refine blk_put (cs := #[.int .i64 0, .int .i64 0, .int .i64 0, .int .i64 0, .int .i64 0, .int .i64 0]) ?_ 0 _ rfl; (with_reducible repeat (first | refine blk_drewN ?_ _ | refine blk_drew ?_ | refine blk_alloc ?_ _)); exact BK200.out⟩, ⟨by repeat (first | (with_reducible first | exact HB.out | apply below_alloc | apply pw_below_drewN | apply below_drew1 | refine below_set ?_ GE200.out) | exact HB.out)⟩⟩
              · rw [if_neg c16] at H
                have c16b0 : decide (((rd_T27 t192 x8_1).f0) < (-1)) = false := decide_eq_false c16
                clear c16
                (first | rw [c16b0] | (simp only [i64_w, i32_w]; rw [c16b0]) | skip)
                by_cases c18 : ((rd_T27 t192 x8_1).f0) ≥ x8_1
                · rw [if_pos c18] at H
                  have c18b0 : decide (x8_1 ≤ ((rd_T27 t192 x8_1).f0)) = true := decide_eq_true c18
                  clear c18
                  have H' := Aside0.mk H
                  clear H
                  have hcz19_0 : w14.cell? ⟨gb200, 0, none⟩ = some (.int .i64 0) := (blk_cell BK200.out 0).trans rfl
                  have hcz19_1 : w14.cell? ⟨gb200, 1, none⟩ = some (.int .i64 0) := (blk_cell BK200.out 1).trans rfl
                  have hcz19_2 : w14.cell? ⟨gb200, 2, none⟩ = some (.int .i64 0) := (blk_cell BK200.out 2).trans rfl
                  have hcz19_3 : w14.cell? ⟨gb200, 3, none⟩ = some (.int .i64 0) := (blk_cell BK200.out 3).trans rfl
                  have hcz19_4 : w14.cell? ⟨gb200, 4, none⟩ = some (.int .i64 0) := (blk_cell BK200.out 4).trans rfl
                  have hcz19_5 : w14.cell? ⟨gb200, 5, none⟩ = some (.int .i64 0) := (blk_cell BK200.out 5).trans rfl
                  have hfz19_0 := blk_frozen BK200.out 0
                  have hfz19_1 := blk_frozen BK200.out 1
                  have hfz19_2 := blk_frozen BK200.out 2
                  have hfz19_3 := blk_frozen BK200.out 3
                  have hfz19_4 := blk_frozen BK200.out 4
                  have hfz19_5 := blk_frozen BK200.out 5
                  go_wp2
                  repeat (go_quiet (fail); try go_wp2)
                  go_meet
                  case rel => exact ⟨_, (true), (by first | rfl | (simp; done) | (simp [*]; done)), H', ⟨by have := HK1.out; first | omega | exact Nat.le_refl _⟩, ⟨by (with_reducible repeat (first | apply Kd.R_alloc | apply Kd.R_drewN | apply Kd.R_drew)); exact Kd.R_mono (Kd.R_far (p := ⟨gb200, 5, none⟩) (Kd.R_far (p := ⟨gb200, 4, none⟩) (Kd.R_far (p := ⟨gb200, 3, none⟩) (Kd.R_far (p := ⟨gb200, 2, none⟩) (Kd.R_far (p := ⟨gb200, 1, none⟩) (Kd.R_far (p := ⟨gb200, 0, none⟩) (Kd.R_types HO_3.out BK200.out (by decide)) (fun _ hk => hk.2) (.int .i64 ((rd_T27 t192 x8_1).f0))) (fun _ hk => hk.2) (.int .i64 ((rd_T27 t192 x8_1).f1))) (fun _ hk => hk.2) (.int .i64 ((rd_T27 t192 x8_1).f2))) (fun _ hk => hk.2) (.int .i64 ((rd_T27 t192 x8_1).f3))) (fun _ hk => hk.2) (.int .i64 ((rd_T27 t192 x8_1).f4))) (fun _ hk => hk.2) (.int .i64 ((rd_T27 t192 x8_1).f5))) (fun _ hk => trivial)⟩, ⟨by (with_reducible repeat (first | apply Kd.R_alloc | apply Kd.R_drewN | apply Kd.R_drew)); exact Kd.R_mono (Kd.R_far (p := ⟨gb200, 5, none⟩) (Kd.R_far (p := ⟨gb200, 4, none⟩) (Kd.R_far (p := ⟨gb200, 3, none⟩) (Kd.R_far (p := ⟨gb200, 2, none⟩) (Kd.R_far (p := ⟨gb200, 1, none⟩) (Kd.R_far (p := ⟨gb200, 0, none⟩) (Kd.R_mono HO_4.out (fun k_ hk => (⟨hk, hk.2⟩ : _ ∧ k_ ≠ gb200))) (fun _ hk => hk.2) (.int .i64 ((rd_T27 t192 x8_1).f0))) (fun _ hk => hk.2) (.int .i64 ((rd_T27 t192 x8_1).f1))) (fun _ hk => hk.2) (.int .i64 ((rd_T27 t192 x8_1).f2))) (fun _ hk => hk.2) (.int .i64 ((rd_T27 t192 x8_1).f3))) (fun _ hk => hk.2) (.int .i64 ((rd_T27 t192 x8_1).f4))) (fun _ hk => hk.2) (.int .i64 ((rd_T27 t192 x8_1).f5))) (fun _ hk => hk.1.2)⟩, ⟨by (with_reducible repeat (first | refine blk_drewN ?_ _ | refine blk_drew ?_ | refine blk_alloc ?_ _)); refine blk_put (cs := #[.int .i64 ((rd_T27 t192 x8_1).f0), .int .i64 ((rd_T27 t192 x8_1).f1), .int .i64 ((rd_T27 t192 x8_1).f2), .int .i64 ((rd_T27 t192 x8_1).f3), .int .i64 ((rd_T27 t192 x8_1).f4), .int .i64 0]) ?_ 5 _ rfl; (with_reducible repeat (first | refine blk_drewN ?_ _ | refine blk_drew ?_ | refine blk_alloc ?_ _)); refine blk_put (cs := #[.int .i64 ((rd_T27 t192 x8_1).f0), .int .i64 ((rd_T27 t192 x8_1).f1), .int .i64 ((rd_T27 t192 x8_1).f2), .int .i64 ((rd_T27 t192 x8_1).f3), .int .i64 0, .int .i64 0]) ?_ 4 _ rfl; (with_reducible repeat (first | refine blk_drewN ?_ _ | refine blk_drew ?_ | refine blk_alloc ?_ _)); refine blk_put (cs := #[.int .i64 ((rd_T27 t192 x8_1).f0), .int .i64 ((rd_T27 t192 x8_1).f1), .int .i64 ((rd_T27 t192 x8_1).f2), .int .i64 0, .int .i64 0, .int .i64 0]) ?_ 3 _ rfl; (with_reducible repeat (first | refine blk_drewN ?_ _ | refine blk_drew ?_ | refine blk_alloc ?_ _)); refine blk_put (cs := #[.int .i64 ((rd_T27 t192 x8_1).f0), .int .i64 ((rd_T27 t192 x8_1).f1), .int .i64 0, .int .i64 0, .int .i64 0, .int .i64 0]) ?_ 2 _ rfl; (with_reducible repeat (first | refine blk_drewN ?_ _ | refine blk_drew ?_ | refine blk_alloc ?_ _)); refine blk_put (cs := #[.int .i64 ((rd_T27 t192 x8_1).f0), .int .i64 0, .int .i64 0, .int .i64 0, .int .i64 0, .int .i64 0]) ?_ 1 _ rfl; (with_reducible repeat (first | refine blk_drewN ?_ _ | refine blk_drew ?_ | refine blk_alloc ?_ _)); refine blk_put (cs := #[.int .i64 0, .int .i64 0, .int .i64 0, .int .i64 0, .int .i64 0, .int .i64 0]) ?_ 0 _ rfl; (with_reducible repeat (first | refine blk_drewN ?_ _ | refine blk_drew ?_ | refine blk_alloc ?_ _)); exact BK200.out⟩, ⟨by repeat (first | (with_reducible first | exact HB.out | apply below_alloc | apply pw_below_drewN | apply below_drew1 | refine below_set ?_ GE200.out) | exact HB.out)⟩⟩
                · rw [if_neg c18] at H
                  have c18b0 : decide (x8_1 ≤ ((rd_T27 t192 x8_1).f0)) = false := decide_eq_false c18
                  clear c18
                  by_cases c20 : ((rd_T27 t192 x8_1).f1) < (-1)
                  · rw [if_pos c20] at H
                    have c20b0 : decide (((rd_T27 t192 x8_1).f1) < (-1)) = true := decide_eq_true c20
                    clear c20
                    have H' := Aside0.mk H
                    clear H
                    have hcz21_0 : w14.cell? ⟨gb200, 0, none⟩ = some (.int .i64 0) := (blk_cell BK200.out 0).trans rfl
                    have hcz21_1 : w14.cell? ⟨gb200, 1, none⟩ = some (.int .i64 0) := (blk_cell BK200.out 1).trans rfl
                    have hcz21_2 : w14.cell? ⟨gb200, 2, none⟩ = some (.int .i64 0) := (blk_cell BK200.out 2).trans rfl
                    have hcz21_3 : w14.cell? ⟨gb200, 3, none⟩ = some (.int .i64 0) := (blk_cell BK200.out 3).trans rfl
                    have hcz21_4 : w14.cell? ⟨gb200, 4, none⟩ = some (.int .i64 0) := (blk_cell BK200.out 4).trans rfl
                    have hcz21_5 : w14.cell? ⟨gb200, 5, none⟩ = some (.int .i64 0) := (blk_cell BK200.out 5).trans rfl
                    have hfz21_0 := blk_frozen BK200.out 0
                    have hfz21_1 := blk_frozen BK200.out 1
                    have hfz21_2 := blk_frozen BK200.out 2
                    have hfz21_3 := blk_frozen BK200.out 3
                    have hfz21_4 := blk_frozen BK200.out 4
                    have hfz21_5 := blk_frozen BK200.out 5
                    go_wp2
                    repeat (go_quiet (fail); try go_wp2)
                    go_meet
                    case rel => exact ⟨_, (true), (by first | rfl | (simp; done) | (simp [*]; done)), H', ⟨by have := HK1.out; first | omega | exact Nat.le_refl _⟩, ⟨by (with_reducible repeat (first | apply Kd.R_alloc | apply Kd.R_drewN | apply Kd.R_drew)); exact Kd.R_mono (Kd.R_far (p := ⟨gb200, 5, none⟩) (Kd.R_far (p := ⟨gb200, 4, none⟩) (Kd.R_far (p := ⟨gb200, 3, none⟩) (Kd.R_far (p := ⟨gb200, 2, none⟩) (Kd.R_far (p := ⟨gb200, 1, none⟩) (Kd.R_far (p := ⟨gb200, 0, none⟩) (Kd.R_types HO_3.out BK200.out (by decide)) (fun _ hk => hk.2) (.int .i64 ((rd_T27 t192 x8_1).f0))) (fun _ hk => hk.2) (.int .i64 ((rd_T27 t192 x8_1).f1))) (fun _ hk => hk.2) (.int .i64 ((rd_T27 t192 x8_1).f2))) (fun _ hk => hk.2) (.int .i64 ((rd_T27 t192 x8_1).f3))) (fun _ hk => hk.2) (.int .i64 ((rd_T27 t192 x8_1).f4))) (fun _ hk => hk.2) (.int .i64 ((rd_T27 t192 x8_1).f5))) (fun _ hk => trivial)⟩, ⟨by (with_reducible repeat (first | apply Kd.R_alloc | apply Kd.R_drewN | apply Kd.R_drew)); exact Kd.R_mono (Kd.R_far (p := ⟨gb200, 5, none⟩) (Kd.R_far (p := ⟨gb200, 4, none⟩) (Kd.R_far (p := ⟨gb200, 3, none⟩) (Kd.R_far (p := ⟨gb200, 2, none⟩) (Kd.R_far (p := ⟨gb200, 1, none⟩) (Kd.R_far (p := ⟨gb200, 0, none⟩) (Kd.R_mono HO_4.out (fun k_ hk => (⟨hk, hk.2⟩ : _ ∧ k_ ≠ gb200))) (fun _ hk => hk.2) (.int .i64 ((rd_T27 t192 x8_1).f0))) (fun _ hk => hk.2) (.int .i64 ((rd_T27 t192 x8_1).f1))) (fun _ hk => hk.2) (.int .i64 ((rd_T27 t192 x8_1).f2))) (fun _ hk => hk.2) (.int .i64 ((rd_T27 t192 x8_1).f3))) (fun _ hk => hk.2) (.int .i64 ((rd_T27 t192 x8_1).f4))) (fun _ hk => hk.2) (.int .i64 ((rd_T27 t192 x8_1).f5))) (fun _ hk => hk.1.2)⟩, ⟨by (with_reducible repeat (first | refine blk_drewN ?_ _ | refine blk_drew ?_ | refine blk_alloc ?_ _)); refine blk_put (cs := #[.int .i64 ((rd_T27 t192 x8_1).f0), .int .i64 ((rd_T27 t192 x8_1).f1), .int .i64 ((rd_T27 t192 x8_1).f2), .int .i64 ((rd_T27 t192 x8_1).f3), .int .i64 ((rd_T27 t192 x8_1).f4), .int .i64 0]) ?_ 5 _ rfl; (with_reducible repeat (first | refine blk_drewN ?_ _ | refine blk_drew ?_ | refine blk_alloc ?_ _)); refine blk_put (cs := #[.int .i64 ((rd_T27 t192 x8_1).f0), .int .i64 ((rd_T27 t192 x8_1).f1), .int .i64 ((rd_T27 t192 x8_1).f2), .int .i64 ((rd_T27 t192 x8_1).f3), .int .i64 0, .int .i64 0]) ?_ 4 _ rfl; (with_reducible repeat (first | refine blk_drewN ?_ _ | refine blk_drew ?_ | refine blk_alloc ?_ _)); refine blk_put (cs := #[.int .i64 ((rd_T27 t192 x8_1).f0), .int .i64 ((rd_T27 t192 x8_1).f1), .int .i64 ((rd_T27 t192 x8_1).f2), .int .i64 0, .int .i64 0, .int .i64 0]) ?_ 3 _ rfl; (with_reducible repeat (first | refine blk_drewN ?_ _ | refine blk_drew ?_ | refine blk_alloc ?_ _)); refine blk_put (cs := #[.int .i64 ((rd_T27 t192 x8_1).f0), .int .i64 ((rd_T27 t192 x8_1).f1), .int .i64 0, .int .i64 0, .int .i64 0, .int .i64 0]) ?_ 2 _ rfl; (with_reducible repeat (first | refine blk_drewN ?_ _ | refine blk_drew ?_ | refine blk_alloc ?_ _)); refine blk_put (cs := #[.int .i64 ((rd_T27 t192 x8_1).f0), .int .i64 0, .int .i64 0, .int .i64 0, .int .i64 0, .int .i64 0]) ?_ 1 _ rfl; (with_reducible repeat (first | refine blk_drewN ?_ _ | refine blk_drew ?_ | refine blk_alloc ?_ _)); refine blk_put (cs := #[.int .i64 0, .int .i64 0, .int .i64 0, .int .i64 0, .int .i64 0, .int .i64 0]) ?_ 0 _ rfl; (with_reducible repeat (first | refine blk_drewN ?_ _ | refine blk_drew ?_ | refine blk_alloc ?_ _)); exact BK200.out⟩, ⟨by repeat (first | (with_reducible first | exact HB.out | apply below_alloc | apply pw_below_drewN | apply below_drew1 | refine below_set ?_ GE200.out) | exact HB.out)⟩⟩
                  · rw [if_neg c20] at H
                    have c20b0 : decide (((rd_T27 t192 x8_1).f1) < (-1)) = false := decide_eq_false c20
                    clear c20
                    by_cases c22 : ((rd_T27 t192 x8_1).f1) ≥ x8_1
                    · rw [if_pos c22] at H
                      have c22b0 : decide (x8_1 ≤ ((rd_T27 t192 x8_1).f1)) = true := decide_eq_true c22
                      clear c22
                      have H' := Aside0.mk H
                      clear H
                      have hcz23_0 : w14.cell? ⟨gb200, 0, none⟩ = some (.int .i64 0) := (blk_cell BK200.out 0).trans rfl
                      have hcz23_1 : w14.cell? ⟨gb200, 1, none⟩ = some (.int .i64 0) := (blk_cell BK200.out 1).trans rfl
                      have hcz23_2 : w14.cell? ⟨gb200, 2, none⟩ = some (.int .i64 0) := (blk_cell BK200.out 2).trans rfl
                      have hcz23_3 : w14.cell? ⟨gb200, 3, none⟩ = some (.int .i64 0) := (blk_cell BK200.out 3).trans rfl
                      have hcz23_4 : w14.cell? ⟨gb200, 4, none⟩ = some (.int .i64 0) := (blk_cell BK200.out 4).trans rfl
                      have hcz23_5 : w14.cell? ⟨gb200, 5, none⟩ = some (.int .i64 0) := (blk_cell BK200.out 5).trans rfl
                      have hfz23_0 := blk_frozen BK200.out 0
                      have hfz23_1 := blk_frozen BK200.out 1
                      have hfz23_2 := blk_frozen BK200.out 2
                      have hfz23_3 := blk_frozen BK200.out 3
                      have hfz23_4 := blk_frozen BK200.out 4
                      have hfz23_5 := blk_frozen BK200.out 5
                      go_wp2
                      repeat (go_quiet (fail); try go_wp2)
                      go_meet
                      case rel => exact ⟨_, (true), (by first | rfl | (simp; done) | (simp [*]; done)), H', ⟨by have := HK1.out; first | omega | exact Nat.le_refl _⟩, ⟨by (with_reducible repeat (first | apply Kd.R_alloc | apply Kd.R_drewN | apply Kd.R_drew)); exact Kd.R_mono (Kd.R_far (p := ⟨gb200, 5, none⟩) (Kd.R_far (p := ⟨gb200, 4, none⟩) (Kd.R_far (p := ⟨gb200, 3, none⟩) (Kd.R_far (p := ⟨gb200, 2, none⟩) (Kd.R_far (p := ⟨gb200, 1, none⟩) (Kd.R_far (p := ⟨gb200, 0, none⟩) (Kd.R_types HO_3.out BK200.out (by decide)) (fun _ hk => hk.2) (.int .i64 ((rd_T27 t192 x8_1).f0))) (fun _ hk => hk.2) (.int .i64 ((rd_T27 t192 x8_1).f1))) (fun _ hk => hk.2) (.int .i64 ((rd_T27 t192 x8_1).f2))) (fun _ hk => hk.2) (.int .i64 ((rd_T27 t192 x8_1).f3))) (fun _ hk => hk.2) (.int .i64 ((rd_T27 t192 x8_1).f4))) (fun _ hk => hk.2) (.int .i64 ((rd_T27 t192 x8_1).f5))) (fun _ hk => trivial)⟩, ⟨by (with_reducible repeat (first | apply Kd.R_alloc | apply Kd.R_drewN | apply Kd.R_drew)); exact Kd.R_mono (Kd.R_far (p := ⟨gb200, 5, none⟩) (Kd.R_far (p := ⟨gb200, 4, none⟩) (Kd.R_far (p := ⟨gb200, 3, none⟩) (Kd.R_far (p := ⟨gb200, 2, none⟩) (Kd.R_far (p := ⟨gb200, 1, none⟩) (Kd.R_far (p := ⟨gb200, 0, none⟩) (Kd.R_mono HO_4.out (fun k_ hk => (⟨hk, hk.2⟩ : _ ∧ k_ ≠ gb200))) (fun _ hk => hk.2) (.int .i64 ((rd_T27 t192 x8_1).f0))) (fun _ hk => hk.2) (.int .i64 ((rd_T27 t192 x8_1).f1))) (fun _ hk => hk.2) (.int .i64 ((rd_T27 t192 x8_1).f2))) (fun _ hk => hk.2) (.int .i64 ((rd_T27 t192 x8_1).f3))) (fun _ hk => hk.2) (.int .i64 ((rd_T27 t192 x8_1).f4))) (fun _ hk => hk.2) (.int .i64 ((rd_T27 t192 x8_1).f5))) (fun _ hk => hk.1.2)⟩, ⟨by (with_reducible repeat (first | refine blk_drewN ?_ _ | refine blk_drew ?_ | refine blk_alloc ?_ _)); refine blk_put (cs := #[.int .i64 ((rd_T27 t192 x8_1).f0), .int .i64 ((rd_T27 t192 x8_1).f1), .int .i64 ((rd_T27 t192 x8_1).f2), .int .i64 ((rd_T27 t192 x8_1).f3), .int .i64 ((rd_T27 t192 x8_1).f4), .int .i64 0]) ?_ 5 _ rfl; (with_reducible repeat (first | refine blk_drewN ?_ _ | refine blk_drew ?_ | refine blk_alloc ?_ _)); refine blk_put (cs := #[.int .i64 ((rd_T27 t192 x8_1).f0), .int .i64 ((rd_T27 t192 x8_1).f1), .int .i64 ((rd_T27 t192 x8_1).f2), .int .i64 ((rd_T27 t192 x8_1).f3), .int .i64 0, .int .i64 0]) ?_ 4 _ rfl; (with_reducible repeat (first | refine blk_drewN ?_ _ | refine blk_drew ?_ | refine blk_alloc ?_ _)); refine blk_put (cs := #[.int .i64 ((rd_T27 t192 x8_1).f0), .int .i64 ((rd_T27 t192 x8_1).f1), .int .i64 ((rd_T27 t192 x8_1).f2), .int .i64 0, .int .i64 0, .int .i64 0]) ?_ 3 _ rfl; (with_reducible repeat (first | refine blk_drewN ?_ _ | refine blk_drew ?_ | refine blk_alloc ?_ _)); refine blk_put (cs := #[.int .i64 ((rd_T27 t192 x8_1).f0), .int .i64 ((rd_T27 t192 x8_1).f1), .int .i64 0, .int .i64 0, .int .i64 0, .int .i64 0]) ?_ 2 _ rfl; (with_reducible repeat (first | refine blk_drewN ?_ _ | refine blk_drew ?_ | refine blk_alloc ?_ _)); refine blk_put (cs := #[.int .i64 ((rd_T27 t192 x8_1).f0), .int .i64 0, .int .i64 0, .int .i64 0, .int .i64 0, .int .i64 0]) ?_ 1 _ rfl; (with_reducible repeat (first | refine blk_drewN ?_ _ | refine blk_drew ?_ | refine blk_alloc ?_ _)); refine blk_put (cs := #[.int .i64 0, .int .i64 0, .int .i64 0, .int .i64 0, .int .i64 0, .int .i64 0]) ?_ 0 _ rfl; (with_reducible repeat (first | refine blk_drewN ?_ _ | refine blk_drew ?_ | refine blk_alloc ?_ _)); exact BK200.out⟩, ⟨by repeat (first | (with_reducible first | exact HB.out | apply below_alloc | apply pw_below_drewN | apply below_drew1 | refine below_set ?_ GE200.out) | exact HB.out)⟩⟩
                    · rw [if_neg c22] at H
                      have c22b0 : decide (x8_1 ≤ ((rd_T27 t192 x8_1).f1)) = false := decide_eq_false c22
                      clear c22
                      by_cases c24 : ((rd_T27 t192 x8_1).f2) = (-1)
                      · rw [if_pos c24] at H
                        have c24b0 : (((rd_T27 t192 x8_1).f2) == (-1)) = true := beq_iff_eq.mpr c24
                        have c24b1 : (((rd_T27 t192 x8_1).f2) != (-1)) = false := bne_eq_false_iff_eq.mpr c24
                        clear c24
                        by_cases c25 : ((rd_T27 t192 x8_1).f0) ≥ 0
                        · rw [if_pos c25] at H
                          have c25b0 : decide (0 ≤ ((rd_T27 t192 x8_1).f0)) = true := decide_eq_true c25
                          clear c25
                          by_cases c26 : 0 ≤ ((rd_T27 t192 x8_1).f0)
                          · rw [if_pos c26] at H
                            have c26b0 : decide (0 ≤ ((rd_T27 t192 x8_1).f0)) = true := decide_eq_true c26
                            clear c26
                            by_cases c27 : ((rd_T27 t192 x8_1).f0) < (t189.length : Int)
                            · rw [if_pos c27] at H
                              have c27b0 : decide (((rd_T27 t192 x8_1).f0) < (t189.length : Int)) = true := decide_eq_true c27
                              clear c27
                              by_cases c28 : x8_1 < (t189.length : Int)
                              · rw [if_pos c28] at H
                                have c28b0 : decide (x8_1 < (t189.length : Int)) = true := decide_eq_true c28
                                clear c28
                                have H' := Aside0.mk H
                                clear H
                                have hcz29_0 : w14.cell? ⟨gb200, 0, none⟩ = some (.int .i64 0) := (blk_cell BK200.out 0).trans rfl
                                have hcz29_1 : w14.cell? ⟨gb200, 1, none⟩ = some (.int .i64 0) := (blk_cell BK200.out 1).trans rfl
                                have hcz29_2 : w14.cell? ⟨gb200, 2, none⟩ = some (.int .i64 0) := (blk_cell BK200.out 2).trans rfl
                                have hcz29_3 : w14.cell? ⟨gb200, 3, none⟩ = some (.int .i64 0) := (blk_cell BK200.out 3).trans rfl
                                have hcz29_4 : w14.cell? ⟨gb200, 4, none⟩ = some (.int .i64 0) := (blk_cell BK200.out 4).trans rfl
                                have hcz29_5 : w14.cell? ⟨gb200, 5, none⟩ = some (.int .i64 0) := (blk_cell BK200.out 5).trans rfl
                                have hfz29_0 := blk_frozen BK200.out 0
                                have hfz29_1 := blk_frozen BK200.out 1
                                have hfz29_2 := blk_frozen BK200.out 2
                                have hfz29_3 := blk_frozen BK200.out 3
                                have hfz29_4 := blk_frozen BK200.out 4
                                have hfz29_5 := blk_frozen BK200.out 5
                                have p201 : 0 ≤ (((rd_T27 t192 x8_1).f0) : Int) := of_decide_eq_true (by first | (with_reducible assumption) | assumption)
                                have q201 : ((rd_T27 t192 x8_1).f0) < (t189.length : Int) := of_decide_eq_true (by first | (with_reducible assumption) | assumption)
                                obtain ⟨ad201, e201, hx201_0⟩ := Kd.at_int (Kd.R_reads' HO_3.out).2.2 ((rd_T27 t192 x8_1).f0) p201 q201
                                cases e201
                                have hn201_0 : ad201.block ≠ gb200 := Kd.own_blk (Kd.R_ne HO_3.out BK200.out (by decide))
                                have hn201_1 : ad201.block ≠ gb200 := Kd.own_blk (Kd.R_ne HO_3.out BK200.out (by decide))
                                have hn201_2 : ad201.block ≠ gb200 := Kd.own_blk (Kd.R_ne HO_3.out BK200.out (by decide))
                                have hn201_3 : ad201.block ≠ gb200 := Kd.own_blk (Kd.R_ne HO_3.out BK200.out (by decide))
                                have hn201_4 : ad201.block ≠ gb200 := Kd.own_blk (Kd.R_ne HO_3.out BK200.out (by decide))
                                have hn201_5 : ad201.block ≠ gb200 := Kd.own_blk (Kd.R_ne HO_3.out BK200.out (by decide))
                                replace hx201_0 := (cell_far (p := ⟨gb200, 0, none⟩) (by first | (rw [add_block]; exact hn201_0) | (show (Addr.add _ _).block ≠ _; rw [add_block]; exact hn201_0) | exact hn201_0) (.int .i64 ((rd_T27 t192 x8_1).f0))).trans hx201_0
                                replace hx201_0 := (cell_far (p := ⟨gb200, 1, none⟩) (by first | (rw [add_block]; exact hn201_1) | (show (Addr.add _ _).block ≠ _; rw [add_block]; exact hn201_1) | exact hn201_1) (.int .i64 ((rd_T27 t192 x8_1).f1))).trans hx201_0
                                replace hx201_0 := (cell_far (p := ⟨gb200, 2, none⟩) (by first | (rw [add_block]; exact hn201_2) | (show (Addr.add _ _).block ≠ _; rw [add_block]; exact hn201_2) | exact hn201_2) (.int .i64 ((rd_T27 t192 x8_1).f2))).trans hx201_0
                                replace hx201_0 := (cell_far (p := ⟨gb200, 3, none⟩) (by first | (rw [add_block]; exact hn201_3) | (show (Addr.add _ _).block ≠ _; rw [add_block]; exact hn201_3) | exact hn201_3) (.int .i64 ((rd_T27 t192 x8_1).f3))).trans hx201_0
                                replace hx201_0 := (cell_far (p := ⟨gb200, 4, none⟩) (by first | (rw [add_block]; exact hn201_4) | (show (Addr.add _ _).block ≠ _; rw [add_block]; exact hn201_4) | exact hn201_4) (.int .i64 ((rd_T27 t192 x8_1).f4))).trans hx201_0
                                replace hx201_0 := (cell_far (p := ⟨gb200, 5, none⟩) (by first | (rw [add_block]; exact hn201_5) | (show (Addr.add _ _).block ≠ _; rw [add_block]; exact hn201_5) | exact hn201_5) (.int .i64 ((rd_T27 t192 x8_1).f5))).trans hx201_0
                                (try have hy201_0 := fun (n_ : Nat) => (Go.Proofs.YtdoponngnjmkkaaM.cell_of (W := (((((((w14.drewN n_).setCell ⟨gb200, 0, none⟩ (.int .i64 ((rd_T27 t192 x8_1).f0))).setCell ⟨gb200, 1, none⟩ (.int .i64 ((rd_T27 t192 x8_1).f1))).setCell ⟨gb200, 2, none⟩ (.int .i64 ((rd_T27 t192 x8_1).f2))).setCell ⟨gb200, 3, none⟩ (.int .i64 ((rd_T27 t192 x8_1).f3))).setCell ⟨gb200, 4, none⟩ (.int .i64 ((rd_T27 t192 x8_1).f4))).setCell ⟨gb200, 5, none⟩ (.int .i64 ((rd_T27 t192 x8_1).f5)))) (by simp only [Go.Proofs.YtdoponngnjmkkaaM.set_drewN, World.heap_drewN]) hx201_0))
                                clear hn201_0
                                clear hn201_1
                                clear hn201_2
                                clear hn201_3
                                clear hn201_4
                                clear hn201_5
                                replace p201 := eq_true p201
                                replace q201 := eq_true q201
                                have p202 : 0 ≤ (x8_1 : Int) := of_decide_eq_true (by first | (with_reducible assumption) | assumption)
                                have q202 : x8_1 < (t189.length : Int) := of_decide_eq_true (by first | (with_reducible assumption) | assumption)
                                obtain ⟨ad202, e202, hx202_0⟩ := Kd.at_int (Kd.R_reads' HO_3.out).2.2 x8_1 p202 q202
                                obtain rfl : ad201 = ad202 := (by injection e202)
                                have hn202_0 : ad201.block ≠ gb200 := Kd.own_blk (Kd.R_ne HO_3.out BK200.out (by decide))
                                have hn202_1 : ad201.block ≠ gb200 := Kd.own_blk (Kd.R_ne HO_3.out BK200.out (by decide))
                                have hn202_2 : ad201.block ≠ gb200 := Kd.own_blk (Kd.R_ne HO_3.out BK200.out (by decide))
                                have hn202_3 : ad201.block ≠ gb200 := Kd.own_blk (Kd.R_ne HO_3.out BK200.out (by decide))
                                have hn202_4 : ad201.block ≠ gb200 := Kd.own_blk (Kd.R_ne HO_3.out BK200.out (by decide))
                                have hn202_5 : ad201.block ≠ gb200 := Kd.own_blk (Kd.R_ne HO_3.out BK200.out (by decide))
                                replace hx202_0 := (cell_far (p := ⟨gb200, 0, none⟩) (by first | (rw [add_block]; exact hn202_0) | (show (Addr.add _ _).block ≠ _; rw [add_block]; exact hn202_0) | exact hn202_0) (.int .i64 ((rd_T27 t192 x8_1).f0))).trans hx202_0
                                replace hx202_0 := (cell_far (p := ⟨gb200, 1, none⟩) (by first | (rw [add_block]; exact hn202_1) | (show (Addr.add _ _).block ≠ _; rw [add_block]; exact hn202_1) | exact hn202_1) (.int .i64 ((rd_T27 t192 x8_1).f1))).trans hx202_0
                                replace hx202_0 := (cell_far (p := ⟨gb200, 2, none⟩) (by first | (rw [add_block]; exact hn202_2) | (show (Addr.add _ _).block ≠ _; rw [add_block]; exact hn202_2) | exact hn202_2) (.int .i64 ((rd_T27 t192 x8_1).f2))).trans hx202_0
                                replace hx202_0 := (cell_far (p := ⟨gb200, 3, none⟩) (by first | (rw [add_block]; exact hn202_3) | (show (Addr.add _ _).block ≠ _; rw [add_block]; exact hn202_3) | exact hn202_3) (.int .i64 ((rd_T27 t192 x8_1).f3))).trans hx202_0
                                replace hx202_0 := (cell_far (p := ⟨gb200, 4, none⟩) (by first | (rw [add_block]; exact hn202_4) | (show (Addr.add _ _).block ≠ _; rw [add_block]; exact hn202_4) | exact hn202_4) (.int .i64 ((rd_T27 t192 x8_1).f4))).trans hx202_0
                                replace hx202_0 := (cell_far (p := ⟨gb200, 5, none⟩) (by first | (rw [add_block]; exact hn202_5) | (show (Addr.add _ _).block ≠ _; rw [add_block]; exact hn202_5) | exact hn202_5) (.int .i64 ((rd_T27 t192 x8_1).f5))).trans hx202_0
                                (try have hy202_0 := fun (n_ : Nat) => (Go.Proofs.YtdoponngnjmkkaaM.cell_of (W := (((((((w14.drewN n_).setCell ⟨gb200, 0, none⟩ (.int .i64 ((rd_T27 t192 x8_1).f0))).setCell ⟨gb200, 1, none⟩ (.int .i64 ((rd_T27 t192 x8_1).f1))).setCell ⟨gb200, 2, none⟩ (.int .i64 ((rd_T27 t192 x8_1).f2))).setCell ⟨gb200, 3, none⟩ (.int .i64 ((rd_T27 t192 x8_1).f3))).setCell ⟨gb200, 4, none⟩ (.int .i64 ((rd_T27 t192 x8_1).f4))).setCell ⟨gb200, 5, none⟩ (.int .i64 ((rd_T27 t192 x8_1).f5)))) (by simp only [Go.Proofs.YtdoponngnjmkkaaM.set_drewN, World.heap_drewN]) hx202_0))
                                clear hn202_0
                                clear hn202_1
                                clear hn202_2
                                clear hn202_3
                                clear hn202_4
                                clear hn202_5
                                replace p202 := eq_true p202
                                replace q202 := eq_true q202
                                go_wp2
                                repeat (go_quiet (fail); try go_wp2)
                                go_meet
                                case rel => exact ⟨_, (decide ((rd t189 ((rd_T27 t192 x8_1).f0)) ≥ (rd t189 x8_1))), (by first | rfl | (simp; done) | (simp [*]; done)), H', ⟨by have := HK1.out; first | omega | exact Nat.le_refl _⟩, ⟨by (with_reducible repeat (first | apply Kd.R_alloc | apply Kd.R_drewN | apply Kd.R_drew)); exact Kd.R_mono (Kd.R_far (p := ⟨gb200, 5, none⟩) (Kd.R_far (p := ⟨gb200, 4, none⟩) (Kd.R_far (p := ⟨gb200, 3, none⟩) (Kd.R_far (p := ⟨gb200, 2, none⟩) (Kd.R_far (p := ⟨gb200, 1, none⟩) (Kd.R_far (p := ⟨gb200, 0, none⟩) (Kd.R_types HO_3.out BK200.out (by decide)) (fun _ hk => hk.2) (.int .i64 ((rd_T27 t192 x8_1).f0))) (fun _ hk => hk.2) (.int .i64 ((rd_T27 t192 x8_1).f1))) (fun _ hk => hk.2) (.int .i64 ((rd_T27 t192 x8_1).f2))) (fun _ hk => hk.2) (.int .i64 ((rd_T27 t192 x8_1).f3))) (fun _ hk => hk.2) (.int .i64 ((rd_T27 t192 x8_1).f4))) (fun _ hk => hk.2) (.int .i64 ((rd_T27 t192 x8_1).f5))) (fun _ hk => trivial)⟩, ⟨by (with_reducible repeat (first | apply Kd.R_alloc | apply Kd.R_drewN | apply Kd.R_drew)); exact Kd.R_mono (Kd.R_far (p := ⟨gb200, 5, none⟩) (Kd.R_far (p := ⟨gb200, 4, none⟩) (Kd.R_far (p := ⟨gb200, 3, none⟩) (Kd.R_far (p := ⟨gb200, 2, none⟩) (Kd.R_far (p := ⟨gb200, 1, none⟩) (Kd.R_far (p := ⟨gb200, 0, none⟩) (Kd.R_mono HO_4.out (fun k_ hk => (⟨hk, hk.2⟩ : _ ∧ k_ ≠ gb200))) (fun _ hk => hk.2) (.int .i64 ((rd_T27 t192 x8_1).f0))) (fun _ hk => hk.2) (.int .i64 ((rd_T27 t192 x8_1).f1))) (fun _ hk => hk.2) (.int .i64 ((rd_T27 t192 x8_1).f2))) (fun _ hk => hk.2) (.int .i64 ((rd_T27 t192 x8_1).f3))) (fun _ hk => hk.2) (.int .i64 ((rd_T27 t192 x8_1).f4))) (fun _ hk => hk.2) (.int .i64 ((rd_T27 t192 x8_1).f5))) (fun _ hk => hk.1.2)⟩, ⟨by (with_reducible repeat (first | refine blk_drewN ?_ _ | refine blk_drew ?_ | refine blk_alloc ?_ _)); refine blk_put (cs := #[.int .i64 ((rd_T27 t192 x8_1).f0), .int .i64 ((rd_T27 t192 x8_1).f1), .int .i64 ((rd_T27 t192 x8_1).f2), .int .i64 ((rd_T27 t192 x8_1).f3), .int .i64 ((rd_T27 t192 x8_1).f4), .int .i64 0]) ?_ 5 _ rfl; (with_reducible repeat (first | refine blk_drewN ?_ _ | refine blk_drew ?_ | refine blk_alloc ?_ _)); refine blk_put (cs := #[.int .i64 ((rd_T27 t192 x8_1).f0), .int .i64 ((rd_T27 t192 x8_1).f1), .int .i64 ((rd_T27 t192 x8_1).f2), .int .i64 ((rd_T27 t192 x8_1).f3), .int .i64 0, .int .i64 0]) ?_ 4 _ rfl; (with_reducible repeat (first | refine blk_drewN ?_ _ | refine blk_drew ?_ | refine blk_alloc ?_ _)); refine blk_put (cs := #[.int .i64 ((rd_T27 t192 x8_1).f0), .int .i64 ((rd_T27 t192 x8_1).f1), .int .i64 ((rd_T27 t192 x8_1).f2), .int .i64 0, .int .i64 0, .int .i64 0]) ?_ 3 _ rfl; (with_reducible repeat (first | refine blk_drewN ?_ _ | refine blk_drew ?_ | refine blk_alloc ?_ _)); refine blk_put (cs := #[.int .i64 ((rd_T27 t192 x8_1).f0), .int .i64 ((rd_T27 t192 x8_1).f1), .int .i64 0, .int .i64 0, .int .i64 0, .int .i64 0]) ?_ 2 _ rfl; (with_reducible repeat (first | refine blk_drewN ?_ _ | refine blk_drew ?_ | refine blk_alloc ?_ _)); refine blk_put (cs := #[.int .i64 ((rd_T27 t192 x8_1).f0), .int .i64 0, .int .i64 0, .int .i64 0, .int .i64 0, .int .i64 0]) ?_ 1 _ rfl; (with_reducible repeat (first | refine blk_drewN ?_ _ | refine blk_drew ?_ | refine blk_alloc ?_ _)); refine blk_put (cs := #[.int .i64 0, .int .i64 0, .int .i64 0, .int .i64 0, .int .i64 0, .int .i64 0]) ?_ 0 _ rfl; (with_reducible repeat (first | refine blk_drewN ?_ _ | refine blk_drew ?_ | refine blk_alloc ?_ _)); exact BK200.out⟩, ⟨by repeat (first | (with_reducible first | exact HB.out | apply below_alloc | apply pw_below_drewN | apply below_drew1 | refine below_set ?_ GE200.out) | exact HB.out)⟩⟩
                              · rw [if_neg c28] at H
                                exact absurd H (by simp)
                            · rw [if_neg c27] at H
                              exact absurd H (by simp)
                          · rw [if_neg c26] at H
                            exact absurd H (by simp)
                        · rw [if_neg c25] at H
                          have c25b0 : decide (0 ≤ ((rd_T27 t192 x8_1).f0)) = false := decide_eq_false c25
                          clear c25
                          have H' := Aside0.mk H
                          clear H
                          have hcz30_0 : w14.cell? ⟨gb200, 0, none⟩ = some (.int .i64 0) := (blk_cell BK200.out 0).trans rfl
                          have hcz30_1 : w14.cell? ⟨gb200, 1, none⟩ = some (.int .i64 0) := (blk_cell BK200.out 1).trans rfl
                          have hcz30_2 : w14.cell? ⟨gb200, 2, none⟩ = some (.int .i64 0) := (blk_cell BK200.out 2).trans rfl
                          have hcz30_3 : w14.cell? ⟨gb200, 3, none⟩ = some (.int .i64 0) := (blk_cell BK200.out 3).trans rfl
                          have hcz30_4 : w14.cell? ⟨gb200, 4, none⟩ = some (.int .i64 0) := (blk_cell BK200.out 4).trans rfl
                          have hcz30_5 : w14.cell? ⟨gb200, 5, none⟩ = some (.int .i64 0) := (blk_cell BK200.out 5).trans rfl
                          have hfz30_0 := blk_frozen BK200.out 0
                          have hfz30_1 := blk_frozen BK200.out 1
                          have hfz30_2 := blk_frozen BK200.out 2
                          have hfz30_3 := blk_frozen BK200.out 3
                          have hfz30_4 := blk_frozen BK200.out 4
                          have hfz30_5 := blk_frozen BK200.out 5
                          go_wp2
                          repeat (go_quiet (fail); try go_wp2)
                          go_meet
                          case rel => exact ⟨_, (false), (by first | rfl | (simp; done) | (simp [*]; done)), H', ⟨by have := HK1.out; first | omega | exact Nat.le_refl _⟩, ⟨by (with_reducible repeat (first | apply Kd.R_alloc | apply Kd.R_drewN | apply Kd.R_drew)); exact Kd.R_mono (Kd.R_far (p := ⟨gb200, 5, none⟩) (Kd.R_far (p := ⟨gb200, 4, none⟩) (Kd.R_far (p := ⟨gb200, 3, none⟩) (Kd.R_far (p := ⟨gb200, 2, none⟩) (Kd.R_far (p := ⟨gb200, 1, none⟩) (Kd.R_far (p := ⟨gb200, 0, none⟩) (Kd.R_types HO_3.out BK200.out (by decide)) (fun _ hk => hk.2) (.int .i64 ((rd_T27 t192 x8_1).f0))) (fun _ hk => hk.2) (.int .i64 ((rd_T27 t192 x8_1).f1))) (fun _ hk => hk.2) (.int .i64 ((rd_T27 t192 x8_1).f2))) (fun _ hk => hk.2) (.int .i64 ((rd_T27 t192 x8_1).f3))) (fun _ hk => hk.2) (.int .i64 ((rd_T27 t192 x8_1).f4))) (fun _ hk => hk.2) (.int .i64 ((rd_T27 t192 x8_1).f5))) (fun _ hk => trivial)⟩, ⟨by (with_reducible repeat (first | apply Kd.R_alloc | apply Kd.R_drewN | apply Kd.R_drew)); exact Kd.R_mono (Kd.R_far (p := ⟨gb200, 5, none⟩) (Kd.R_far (p := ⟨gb200, 4, none⟩) (Kd.R_far (p := ⟨gb200, 3, none⟩) (Kd.R_far (p := ⟨gb200, 2, none⟩) (Kd.R_far (p := ⟨gb200, 1, none⟩) (Kd.R_far (p := ⟨gb200, 0, none⟩) (Kd.R_mono HO_4.out (fun k_ hk => (⟨hk, hk.2⟩ : _ ∧ k_ ≠ gb200))) (fun _ hk => hk.2) (.int .i64 ((rd_T27 t192 x8_1).f0))) (fun _ hk => hk.2) (.int .i64 ((rd_T27 t192 x8_1).f1))) (fun _ hk => hk.2) (.int .i64 ((rd_T27 t192 x8_1).f2))) (fun _ hk => hk.2) (.int .i64 ((rd_T27 t192 x8_1).f3))) (fun _ hk => hk.2) (.int .i64 ((rd_T27 t192 x8_1).f4))) (fun _ hk => hk.2) (.int .i64 ((rd_T27 t192 x8_1).f5))) (fun _ hk => hk.1.2)⟩, ⟨by (with_reducible repeat (first | refine blk_drewN ?_ _ | refine blk_drew ?_ | refine blk_alloc ?_ _)); refine blk_put (cs := #[.int .i64 ((rd_T27 t192 x8_1).f0), .int .i64 ((rd_T27 t192 x8_1).f1), .int .i64 ((rd_T27 t192 x8_1).f2), .int .i64 ((rd_T27 t192 x8_1).f3), .int .i64 ((rd_T27 t192 x8_1).f4), .int .i64 0]) ?_ 5 _ rfl; (with_reducible repeat (first | refine blk_drewN ?_ _ | refine blk_drew ?_ | refine blk_alloc ?_ _)); refine blk_put (cs := #[.int .i64 ((rd_T27 t192 x8_1).f0), .int .i64 ((rd_T27 t192 x8_1).f1), .int .i64 ((rd_T27 t192 x8_1).f2), .int .i64 ((rd_T27 t192 x8_1).f3), .int .i64 0, .int .i64 0]) ?_ 4 _ rfl; (with_reducible repeat (first | refine blk_drewN ?_ _ | refine blk_drew ?_ | refine blk_alloc ?_ _)); refine blk_put (cs := #[.int .i64 ((rd_T27 t192 x8_1).f0), .int .i64 ((rd_T27 t192 x8_1).f1), .int .i64 ((rd_T27 t192 x8_1).f2), .int .i64 0, .int .i64 0, .int .i64 0]) ?_ 3 _ rfl; (with_reducible repeat (first | refine blk_drewN ?_ _ | refine blk_drew ?_ | refine blk_alloc ?_ _)); refine blk_put (cs := #[.int .i64 ((rd_T27 t192 x8_1).f0), .int .i64 ((rd_T27 t192 x8_1).f1), .int .i64 0, .int .i64 0, .int .i64 0, .int .i64 0]) ?_ 2 _ rfl; (with_reducible repeat (first | refine blk_drewN ?_ _ | refine blk_drew ?_ | refine blk_alloc ?_ _)); refine blk_put (cs := #[.int .i64 ((rd_T27 t192 x8_1).f0), .int .i64 0, .int .i64 0, .int .i64 0, .int .i64 0, .int .i64 0]) ?_ 1 _ rfl; (with_reducible repeat (first | refine blk_drewN ?_ _ | refine blk_drew ?_ | refine blk_alloc ?_ _)); refine blk_put (cs := #[.int .i64 0, .int .i64 0, .int .i64 0, .int .i64 0, .int .i64 0, .int .i64 0]) ?_ 0 _ rfl; (with_reducible repeat (first | refine blk_drewN ?_ _ | refine blk_drew ?_ | refine blk_alloc ?_ _)); exact BK200.out⟩, ⟨by repeat (first | (with_reducible first | exact HB.out | apply below_alloc | apply pw_below_drewN | apply below_drew1 | refine below_set ?_ GE200.out) | exact HB.out)⟩⟩
                      · rw [if_neg c24] at H
                        have c24b0 : (((rd_T27 t192 x8_1).f2) == (-1)) = false := beq_eq_false_iff_ne.mpr c24
                        have c24b1 : (((rd_T27 t192 x8_1).f2) != (-1)) = true := bne_iff_ne.mpr c24
                        by_cases c31 : ((rd_T27 t192 x8_1).f2) ≤ x8_1
                        · rw [if_pos c31] at H
                          have c31b0 : decide (((rd_T27 t192 x8_1).f2) ≤ x8_1) = true := decide_eq_true c31
                          clear c31
                          have H' := Aside0.mk H
                          clear H
                          have hcz32_0 : w14.cell? ⟨gb200, 0, none⟩ = some (.int .i64 0) := (blk_cell BK200.out 0).trans rfl
                          have hcz32_1 : w14.cell? ⟨gb200, 1, none⟩ = some (.int .i64 0) := (blk_cell BK200.out 1).trans rfl
                          have hcz32_2 : w14.cell? ⟨gb200, 2, none⟩ = some (.int .i64 0) := (blk_cell BK200.out 2).trans rfl
                          have hcz32_3 : w14.cell? ⟨gb200, 3, none⟩ = some (.int .i64 0) := (blk_cell BK200.out 3).trans rfl
                          have hcz32_4 : w14.cell? ⟨gb200, 4, none⟩ = some (.int .i64 0) := (blk_cell BK200.out 4).trans rfl
                          have hcz32_5 : w14.cell? ⟨gb200, 5, none⟩ = some (.int .i64 0) := (blk_cell BK200.out 5).trans rfl
                          have hfz32_0 := blk_frozen BK200.out 0
                          have hfz32_1 := blk_frozen BK200.out 1
                          have hfz32_2 := blk_frozen BK200.out 2
                          have hfz32_3 := blk_frozen BK200.out 3
                          have hfz32_4 := blk_frozen BK200.out 4
                          have hfz32_5 := blk_frozen BK200.out 5
                          go_wp2
                          repeat (go_quiet (fail); try go_wp2)
                          go_meet
                          case rel => exact ⟨_, (true), (by first | rfl | (simp; done) | (simp [*]; done)), H', ⟨by have := HK1.out; first | omega | exact Nat.le_refl _⟩, ⟨by (with_reducible repeat (first | apply Kd.R_alloc | apply Kd.R_drewN | apply Kd.R_drew)); exact Kd.R_mono (Kd.R_far (p := ⟨gb200, 5, none⟩) (Kd.R_far (p := ⟨gb200, 4, none⟩) (Kd.R_far (p := ⟨gb200, 3, none⟩) (Kd.R_far (p := ⟨gb200, 2, none⟩) (Kd.R_far (p := ⟨gb200, 1, none⟩) (Kd.R_far (p := ⟨gb200, 0, none⟩) (Kd.R_types HO_3.out BK200.out (by decide)) (fun _ hk => hk.2) (.int .i64 ((rd_T27 t192 x8_1).f0))) (fun _ hk => hk.2) (.int .i64 ((rd_T27 t192 x8_1).f1))) (fun _ hk => hk.2) (.int .i64 ((rd_T27 t192 x8_1).f2))) (fun _ hk => hk.2) (.int .i64 ((rd_T27 t192 x8_1).f3))) (fun _ hk => hk.2) (.int .i64 ((rd_T27 t192 x8_1).f4))) (fun _ hk => hk.2) (.int .i64 ((rd_T27 t192 x8_1).f5))) (fun _ hk => trivial)⟩, ⟨by (with_reducible repeat (first | apply Kd.R_alloc | apply Kd.R_drewN | apply Kd.R_drew)); exact Kd.R_mono (Kd.R_far (p := ⟨gb200, 5, none⟩) (Kd.R_far (p := ⟨gb200, 4, none⟩) (Kd.R_far (p := ⟨gb200, 3, none⟩) (Kd.R_far (p := ⟨gb200, 2, none⟩) (Kd.R_far (p := ⟨gb200, 1, none⟩) (Kd.R_far (p := ⟨gb200, 0, none⟩) (Kd.R_mono HO_4.out (fun k_ hk => (⟨hk, hk.2⟩ : _ ∧ k_ ≠ gb200))) (fun _ hk => hk.2) (.int .i64 ((rd_T27 t192 x8_1).f0))) (fun _ hk => hk.2) (.int .i64 ((rd_T27 t192 x8_1).f1))) (fun _ hk => hk.2) (.int .i64 ((rd_T27 t192 x8_1).f2))) (fun _ hk => hk.2) (.int .i64 ((rd_T27 t192 x8_1).f3))) (fun _ hk => hk.2) (.int .i64 ((rd_T27 t192 x8_1).f4))) (fun _ hk => hk.2) (.int .i64 ((rd_T27 t192 x8_1).f5))) (fun _ hk => hk.1.2)⟩, ⟨by (with_reducible repeat (first | refine blk_drewN ?_ _ | refine blk_drew ?_ | refine blk_alloc ?_ _)); refine blk_put (cs := #[.int .i64 ((rd_T27 t192 x8_1).f0), .int .i64 ((rd_T27 t192 x8_1).f1), .int .i64 ((rd_T27 t192 x8_1).f2), .int .i64 ((rd_T27 t192 x8_1).f3), .int .i64 ((rd_T27 t192 x8_1).f4), .int .i64 0]) ?_ 5 _ rfl; (with_reducible repeat (first | refine blk_drewN ?_ _ | refine blk_drew ?_ | refine blk_alloc ?_ _)); refine blk_put (cs := #[.int .i64 ((rd_T27 t192 x8_1).f0), .int .i64 ((rd_T27 t192 x8_1).f1), .int .i64 ((rd_T27 t192 x8_1).f2), .int .i64 ((rd_T27 t192 x8_1).f3), .int .i64 0, .int .i64 0]) ?_ 4 _ rfl; (with_reducible repeat (first | refine blk_drewN ?_ _ | refine blk_drew ?_ | refine blk_alloc ?_ _)); refine blk_put (cs := #[.int .i64 ((rd_T27 t192 x8_1).f0), .int .i64 ((rd_T27 t192 x8_1).f1), .int .i64 ((rd_T27 t192 x8_1).f2), .int .i64 0, .int .i64 0, .int .i64 0]) ?_ 3 _ rfl; (with_reducible repeat (first | refine blk_drewN ?_ _ | refine blk_drew ?_ | refine blk_alloc ?_ _)); refine blk_put (cs := #[.int .i64 ((rd_T27 t192 x8_1).f0), .int .i64 ((rd_T27 t192 x8_1).f1), .int .i64 0, .int .i64 0, .int .i64 0, .int .i64 0]) ?_ 2 _ rfl; (with_reducible repeat (first | refine blk_drewN ?_ _ | refine blk_drew ?_ | refine blk_alloc ?_ _)); refine blk_put (cs := #[.int .i64 ((rd_T27 t192 x8_1).f0), .int .i64 0, .int .i64 0, .int .i64 0, .int .i64 0, .int .i64 0]) ?_ 1 _ rfl; (with_reducible repeat (first | refine blk_drewN ?_ _ | refine blk_drew ?_ | refine blk_alloc ?_ _)); refine blk_put (cs := #[.int .i64 0, .int .i64 0, .int .i64 0, .int .i64 0, .int .i64 0, .int .i64 0]) ?_ 0 _ rfl; (with_reducible repeat (first | refine blk_drewN ?_ _ | refine blk_drew ?_ | refine blk_alloc ?_ _)); exact BK200.out⟩, ⟨by repeat (first | (with_reducible first | exact HB.out | apply below_alloc | apply pw_below_drewN | apply below_drew1 | refine below_set ?_ GE200.out) | exact HB.out)⟩⟩
                        · rw [if_neg c31] at H
                          have c31b0 : decide (((rd_T27 t192 x8_1).f2) ≤ x8_1) = false := decide_eq_false c31
                          clear c31
                          by_cases c33 : ((rd_T27 t192 x8_1).f2) ≥ (t192.length : Int)
                          · rw [if_pos c33] at H
                            have c33b0 : decide ((t192.length : Int) ≤ ((rd_T27 t192 x8_1).f2)) = true := decide_eq_true c33
                            clear c33
                            have H' := Aside0.mk H
                            clear H
                            have hcz34_0 : w14.cell? ⟨gb200, 0, none⟩ = some (.int .i64 0) := (blk_cell BK200.out 0).trans rfl
                            have hcz34_1 : w14.cell? ⟨gb200, 1, none⟩ = some (.int .i64 0) := (blk_cell BK200.out 1).trans rfl
                            have hcz34_2 : w14.cell? ⟨gb200, 2, none⟩ = some (.int .i64 0) := (blk_cell BK200.out 2).trans rfl
                            have hcz34_3 : w14.cell? ⟨gb200, 3, none⟩ = some (.int .i64 0) := (blk_cell BK200.out 3).trans rfl
                            have hcz34_4 : w14.cell? ⟨gb200, 4, none⟩ = some (.int .i64 0) := (blk_cell BK200.out 4).trans rfl
                            have hcz34_5 : w14.cell? ⟨gb200, 5, none⟩ = some (.int .i64 0) := (blk_cell BK200.out 5).trans rfl
                            have hfz34_0 := blk_frozen BK200.out 0
                            have hfz34_1 := blk_frozen BK200.out 1
                            have hfz34_2 := blk_frozen BK200.out 2
                            have hfz34_3 := blk_frozen BK200.out 3
                            have hfz34_4 := blk_frozen BK200.out 4
                            have hfz34_5 := blk_frozen BK200.out 5
                            go_wp2
                            repeat (go_quiet (fail); try go_wp2)
                            go_meet
                            case rel => exact ⟨_, (true), (by first | rfl | (simp; done) | (simp [*]; done)), H', ⟨by have := HK1.out; first | omega | exact Nat.le_refl _⟩, ⟨by (with_reducible repeat (first | apply Kd.R_alloc | apply Kd.R_drewN | apply Kd.R_drew)); exact Kd.R_mono (Kd.R_far (p := ⟨gb200, 5, none⟩) (Kd.R_far (p := ⟨gb200, 4, none⟩) (Kd.R_far (p := ⟨gb200, 3, none⟩) (Kd.R_far (p := ⟨gb200, 2, none⟩) (Kd.R_far (p := ⟨gb200, 1, none⟩) (Kd.R_far (p := ⟨gb200, 0, none⟩) (Kd.R_types HO_3.out BK200.out (by decide)) (fun _ hk => hk.2) (.int .i64 ((rd_T27 t192 x8_1).f0))) (fun _ hk => hk.2) (.int .i64 ((rd_T27 t192 x8_1).f1))) (fun _ hk => hk.2) (.int .i64 ((rd_T27 t192 x8_1).f2))) (fun _ hk => hk.2) (.int .i64 ((rd_T27 t192 x8_1).f3))) (fun _ hk => hk.2) (.int .i64 ((rd_T27 t192 x8_1).f4))) (fun _ hk => hk.2) (.int .i64 ((rd_T27 t192 x8_1).f5))) (fun _ hk => trivial)⟩, ⟨by (with_reducible repeat (first | apply Kd.R_alloc | apply Kd.R_drewN | apply Kd.R_drew)); exact Kd.R_mono (Kd.R_far (p := ⟨gb200, 5, none⟩) (Kd.R_far (p := ⟨gb200, 4, none⟩) (Kd.R_far (p := ⟨gb200, 3, none⟩) (Kd.R_far (p := ⟨gb200, 2, none⟩) (Kd.R_far (p := ⟨gb200, 1, none⟩) (Kd.R_far (p := ⟨gb200, 0, none⟩) (Kd.R_mono HO_4.out (fun k_ hk => (⟨hk, hk.2⟩ : _ ∧ k_ ≠ gb200))) (fun _ hk => hk.2) (.int .i64 ((rd_T27 t192 x8_1).f0))) (fun _ hk => hk.2) (.int .i64 ((rd_T27 t192 x8_1).f1))) (fun _ hk => hk.2) (.int .i64 ((rd_T27 t192 x8_1).f2))) (fun _ hk => hk.2) (.int .i64 ((rd_T27 t192 x8_1).f3))) (fun _ hk => hk.2) (.int .i64 ((rd_T27 t192 x8_1).f4))) (fun _ hk => hk.2) (.int .i64 ((rd_T27 t192 x8_1).f5))) (fun _ hk => hk.1.2)⟩, ⟨by (with_reducible repeat (first | refine blk_drewN ?_ _ | refine blk_drew ?_ | refine blk_alloc ?_ _)); refine blk_put (cs := #[.int .i64 ((rd_T27 t192 x8_1).f0), .int .i64 ((rd_T27 t192 x8_1).f1), .int .i64 ((rd_T27 t192 x8_1).f2), .int .i64 ((rd_T27 t192 x8_1).f3), .int .i64 ((rd_T27 t192 x8_1).f4), .int .i64 0]) ?_ 5 _ rfl; (with_reducible repeat (first | refine blk_drewN ?_ _ | refine blk_drew ?_ | refine blk_alloc ?_ _)); refine blk_put (cs := #[.int .i64 ((rd_T27 t192 x8_1).f0), .int .i64 ((rd_T27 t192 x8_1).f1), .int .i64 ((rd_T27 t192 x8_1).f2), .int .i64 ((rd_T27 t192 x8_1).f3), .int .i64 0, .int .i64 0]) ?_ 4 _ rfl; (with_reducible repeat (first | refine blk_drewN ?_ _ | refine blk_drew ?_ | refine blk_alloc ?_ _)); refine blk_put (cs := #[.int .i64 ((rd_T27 t192 x8_1).f0), .int .i64 ((rd_T27 t192 x8_1).f1), .int .i64 ((rd_T27 t192 x8_1).f2), .int .i64 0, .int .i64 0, .int .i64 0]) ?_ 3 _ rfl; (with_reducible repeat (first | refine blk_drewN ?_ _ | refine blk_drew ?_ | refine blk_alloc ?_ _)); refine blk_put (cs := #[.int .i64 ((rd_T27 t192 x8_1).f0), .int .i64 ((rd_T27 t192 x8_1).f1), .int .i64 0, .int .i64 0, .int .i64 0, .int .i64 0]) ?_ 2 _ rfl; (with_reducible repeat (first | refine blk_drewN ?_ _ | refine blk_drew ?_ | refine blk_alloc ?_ _)); refine blk_put (cs := #[.int .i64 ((rd_T27 t192 x8_1).f0), .int .i64 0, .int .i64 0, .int .i64 0, .int .i64 0, .int .i64 0]) ?_ 1 _ rfl; (with_reducible repeat (first | refine blk_drewN ?_ _ | refine blk_drew ?_ | refine blk_alloc ?_ _)); refine blk_put (cs := #[.int .i64 0, .int .i64 0, .int .i64 0, .int .i64 0, .int .i64 0, .int .i64 0]) ?_ 0 _ rfl; (with_reducible repeat (first | refine blk_drewN ?_ _ | refine blk_drew ?_ | refine blk_alloc ?_ _)); exact BK200.out⟩, ⟨by repeat (first | (with_reducible first | exact HB.out | apply below_alloc | apply pw_below_drewN | apply below_drew1 | refine below_set ?_ GE200.out) | exact HB.out)⟩⟩
                          · rw [if_neg c33] at H
                            have c33b0 : decide ((t192.length : Int) ≤ ((rd_T27 t192 x8_1).f2)) = false := decide_eq_false c33
                            clear c33
                            by_cases c35 : ((rd_T27 t192 x8_1).f0) ≥ 0
                            · rw [if_pos c35] at H
                              have c35b0 : decide (0 ≤ ((rd_T27 t192 x8_1).f0)) = true := decide_eq_true c35
                              clear c35
                              by_cases c36 : 0 ≤ ((rd_T27 t192 x8_1).f0)
                              · rw [if_pos c36] at H
                                have c36b0 : decide (0 ≤ ((rd_T27 t192 x8_1).f0)) = true := decide_eq_true c36
                                clear c36
                                by_cases c37 : ((rd_T27 t192 x8_1).f0) < (t189.length : Int)
                                · rw [if_pos c37] at H
                                  have c37b0 : decide (((rd_T27 t192 x8_1).f0) < (t189.length : Int)) = true := decide_eq_true c37
                                  clear c37
                                  by_cases c38 : x8_1 < (t189.length : Int)
                                  · rw [if_pos c38] at H
                                    have c38b0 : decide (x8_1 < (t189.length : Int)) = true := decide_eq_true c38
                                    clear c38
                                    have H' := Aside0.mk H
                                    clear H
                                    have hcz39_0 : w14.cell? ⟨gb200, 0, none⟩ = some (.int .i64 0) := (blk_cell BK200.out 0).trans rfl
                                    have hcz39_1 : w14.cell? ⟨gb200, 1, none⟩ = some (.int .i64 0) := (blk_cell BK200.out 1).trans rfl
                                    have hcz39_2 : w14.cell? ⟨gb200, 2, none⟩ = some (.int .i64 0) := (blk_cell BK200.out 2).trans rfl
                                    have hcz39_3 : w14.cell? ⟨gb200, 3, none⟩ = some (.int .i64 0) := (blk_cell BK200.out 3).trans rfl
                                    have hcz39_4 : w14.cell? ⟨gb200, 4, none⟩ = some (.int .i64 0) := (blk_cell BK200.out 4).trans rfl
                                    have hcz39_5 : w14.cell? ⟨gb200, 5, none⟩ = some (.int .i64 0) := (blk_cell BK200.out 5).trans rfl
                                    have hfz39_0 := blk_frozen BK200.out 0
                                    have hfz39_1 := blk_frozen BK200.out 1
                                    have hfz39_2 := blk_frozen BK200.out 2
                                    have hfz39_3 := blk_frozen BK200.out 3
                                    have hfz39_4 := blk_frozen BK200.out 4
                                    have hfz39_5 := blk_frozen BK200.out 5
                                    have p203 : 0 ≤ (((rd_T27 t192 x8_1).f0) : Int) := of_decide_eq_true (by first | (with_reducible assumption) | assumption)
                                    have q203 : ((rd_T27 t192 x8_1).f0) < (t189.length : Int) := of_decide_eq_true (by first | (with_reducible assumption) | assumption)
                                    obtain ⟨ad203, e203, hx203_0⟩ := Kd.at_int (Kd.R_reads' HO_3.out).2.2 ((rd_T27 t192 x8_1).f0) p203 q203
                                    cases e203
                                    have hn203_0 : ad203.block ≠ gb200 := Kd.own_blk (Kd.R_ne HO_3.out BK200.out (by decide))
                                    have hn203_1 : ad203.block ≠ gb200 := Kd.own_blk (Kd.R_ne HO_3.out BK200.out (by decide))
                                    have hn203_2 : ad203.block ≠ gb200 := Kd.own_blk (Kd.R_ne HO_3.out BK200.out (by decide))
                                    have hn203_3 : ad203.block ≠ gb200 := Kd.own_blk (Kd.R_ne HO_3.out BK200.out (by decide))
                                    have hn203_4 : ad203.block ≠ gb200 := Kd.own_blk (Kd.R_ne HO_3.out BK200.out (by decide))
                                    have hn203_5 : ad203.block ≠ gb200 := Kd.own_blk (Kd.R_ne HO_3.out BK200.out (by decide))
                                    replace hx203_0 := (cell_far (p := ⟨gb200, 0, none⟩) (by first | (rw [add_block]; exact hn203_0) | (show (Addr.add _ _).block ≠ _; rw [add_block]; exact hn203_0) | exact hn203_0) (.int .i64 ((rd_T27 t192 x8_1).f0))).trans hx203_0
                                    replace hx203_0 := (cell_far (p := ⟨gb200, 1, none⟩) (by first | (rw [add_block]; exact hn203_1) | (show (Addr.add _ _).block ≠ _; rw [add_block]; exact hn203_1) | exact hn203_1) (.int .i64 ((rd_T27 t192 x8_1).f1))).trans hx203_0
                                    replace hx203_0 := (cell_far (p := ⟨gb200, 2, none⟩) (by first | (rw [add_block]; exact hn203_2) | (show (Addr.add _ _).block ≠ _; rw [add_block]; exact hn203_2) | exact hn203_2) (.int .i64 ((rd_T27 t192 x8_1).f2))).trans hx203_0
                                    replace hx203_0 := (cell_far (p := ⟨gb200, 3, none⟩) (by first | (rw [add_block]; exact hn203_3) | (show (Addr.add _ _).block ≠ _; rw [add_block]; exact hn203_3) | exact hn203_3) (.int .i64 ((rd_T27 t192 x8_1).f3))).trans hx203_0
                                    replace hx203_0 := (cell_far (p := ⟨gb200, 4, none⟩) (by first | (rw [add_block]; exact hn203_4) | (show (Addr.add _ _).block ≠ _; rw [add_block]; exact hn203_4) | exact hn203_4) (.int .i64 ((rd_T27 t192 x8_1).f4))).trans hx203_0
                                    replace hx203_0 := (cell_far (p := ⟨gb200, 5, none⟩) (by first | (rw [add_block]; exact hn203_5) | (show (Addr.add _ _).block ≠ _; rw [add_block]; exact hn203_5) | exact hn203_5) (.int .i64 ((rd_T27 t192 x8_1).f5))).trans hx203_0
                                    (try have hy203_0 := fun (n_ : Nat) => (Go.Proofs.YtdoponngnjmkkaaM.cell_of (W := (((((((w14.drewN n_).setCell ⟨gb200, 0, none⟩ (.int .i64 ((rd_T27 t192 x8_1).f0))).setCell ⟨gb200, 1, none⟩ (.int .i64 ((rd_T27 t192 x8_1).f1))).setCell ⟨gb200, 2, none⟩ (.int .i64 ((rd_T27 t192 x8_1).f2))).setCell ⟨gb200, 3, none⟩ (.int .i64 ((rd_T27 t192 x8_1).f3))).setCell ⟨gb200, 4, none⟩ (.int .i64 ((rd_T27 t192 x8_1).f4))).setCell ⟨gb200, 5, none⟩ (.int .i64 ((rd_T27 t192 x8_1).f5)))) (by simp only [Go.Proofs.YtdoponngnjmkkaaM.set_drewN, World.heap_drewN]) hx203_0))
                                    clear hn203_0
                                    clear hn203_1
                                    clear hn203_2
                                    clear hn203_3
                                    clear hn203_4
                                    clear hn203_5
                                    replace p203 := eq_true p203
                                    replace q203 := eq_true q203
                                    have p204 : 0 ≤ (x8_1 : Int) := of_decide_eq_true (by first | (with_reducible assumption) | assumption)
                                    have q204 : x8_1 < (t189.length : Int) := of_decide_eq_true (by first | (with_reducible assumption) | assumption)
                                    obtain ⟨ad204, e204, hx204_0⟩ := Kd.at_int (Kd.R_reads' HO_3.out).2.2 x8_1 p204 q204
                                    obtain rfl : ad203 = ad204 := (by injection e204)
                                    have hn204_0 : ad203.block ≠ gb200 := Kd.own_blk (Kd.R_ne HO_3.out BK200.out (by decide))
                                    have hn204_1 : ad203.block ≠ gb200 := Kd.own_blk (Kd.R_ne HO_3.out BK200.out (by decide))
                                    have hn204_2 : ad203.block ≠ gb200 := Kd.own_blk (Kd.R_ne HO_3.out BK200.out (by decide))
                                    have hn204_3 : ad203.block ≠ gb200 := Kd.own_blk (Kd.R_ne HO_3.out BK200.out (by decide))
                                    have hn204_4 : ad203.block ≠ gb200 := Kd.own_blk (Kd.R_ne HO_3.out BK200.out (by decide))
                                    have hn204_5 : ad203.block ≠ gb200 := Kd.own_blk (Kd.R_ne HO_3.out BK200.out (by decide))
                                    replace hx204_0 := (cell_far (p := ⟨gb200, 0, none⟩) (by first | (rw [add_block]; exact hn204_0) | (show (Addr.add _ _).block ≠ _; rw [add_block]; exact hn204_0) | exact hn204_0) (.int .i64 ((rd_T27 t192 x8_1).f0))).trans hx204_0
                                    replace hx204_0 := (cell_far (p := ⟨gb200, 1, none⟩) (by first | (rw [add_block]; exact hn204_1) | (show (Addr.add _ _).block ≠ _; rw [add_block]; exact hn204_1) | exact hn204_1) (.int .i64 ((rd_T27 t192 x8_1).f1))).trans hx204_0
                                    replace hx204_0 := (cell_far (p := ⟨gb200, 2, none⟩) (by first | (rw [add_block]; exact hn204_2) | (show (Addr.add _ _).block ≠ _; rw [add_block]; exact hn204_2) | exact hn204_2) (.int .i64 ((rd_T27 t192 x8_1).f2))).trans hx204_0
                                    replace hx204_0 := (cell_far (p := ⟨gb200, 3, none⟩) (by first | (rw [add_block]; exact hn204_3) | (show (Addr.add _ _).block ≠ _; rw [add_block]; exact hn204_3) | exact hn204_3) (.int .i64 ((rd_T27 t192 x8_1).f3))).trans hx204_0
                                    replace hx204_0 := (cell_far (p := ⟨gb200, 4, none⟩) (by first | (rw [add_block]; exact hn204_4) | (show (Addr.add _ _).block ≠ _; rw [add_block]; exact hn204_4) | exact hn204_4) (.int .i64 ((rd_T27 t192 x8_1).f4))).trans hx204_0
                                    replace hx204_0 := (cell_far (p := ⟨gb200, 5, none⟩) (by first | (rw [add_block]; exact hn204_5) | (show (Addr.add _ _).block ≠ _; rw [add_block]; exact hn204_5) | exact hn204_5) (.int .i64 ((rd_T27 t192 x8_1).f5))).trans hx204_0
                                    (try have hy204_0 := fun (n_ : Nat) => (Go.Proofs.YtdoponngnjmkkaaM.cell_of (W := (((((((w14.drewN n_).setCell ⟨gb200, 0, none⟩ (.int .i64 ((rd_T27 t192 x8_1).f0))).setCell ⟨gb200, 1, none⟩ (.int .i64 ((rd_T27 t192 x8_1).f1))).setCell ⟨gb200, 2, none⟩ (.int .i64 ((rd_T27 t192 x8_1).f2))).setCell ⟨gb200, 3, none⟩ (.int .i64 ((rd_T27 t192 x8_1).f3))).setCell ⟨gb200, 4, none⟩ (.int .i64 ((rd_T27 t192 x8_1).f4))).setCell ⟨gb200, 5, none⟩ (.int .i64 ((rd_T27 t192 x8_1).f5)))) (by simp only [Go.Proofs.YtdoponngnjmkkaaM.set_drewN, World.heap_drewN]) hx204_0))
                                    clear hn204_0
                                    clear hn204_1
                                    clear hn204_2
                                    clear hn204_3
                                    clear hn204_4
                                    clear hn204_5
                                    replace p204 := eq_true p204
                                    replace q204 := eq_true q204
                                    go_wp2
                                    repeat (go_quiet (fail); try go_wp2)
                                    go_meet
                                    case rel => exact ⟨_, (decide ((rd t189 ((rd_T27 t192 x8_1).f0)) ≥ (rd t189 x8_1))), (by first | rfl | (simp; done) | (simp [*]; done)), H', ⟨by have := HK1.out; first | omega | exact Nat.le_refl _⟩, ⟨by (with_reducible repeat (first | apply Kd.R_alloc | apply Kd.R_drewN | apply Kd.R_drew)); exact Kd.R_mono (Kd.R_far (p := ⟨gb200, 5, none⟩) (Kd.R_far (p := ⟨gb200, 4, none⟩) (Kd.R_far (p := ⟨gb200, 3, none⟩) (Kd.R_far (p := ⟨gb200, 2, none⟩) (Kd.R_far (p := ⟨gb200, 1, none⟩) (Kd.R_far (p := ⟨gb200, 0, none⟩) (Kd.R_types HO_3.out BK200.out (by decide)) (fun _ hk => hk.2) (.int .i64 ((rd_T27 t192 x8_1).f0))) (fun _ hk => hk.2) (.int .i64 ((rd_T27 t192 x8_1).f1))) (fun _ hk => hk.2) (.int .i64 ((rd_T27 t192 x8_1).f2))) (fun _ hk => hk.2) (.int .i64 ((rd_T27 t192 x8_1).f3))) (fun _ hk => hk.2) (.int .i64 ((rd_T27 t192 x8_1).f4))) (fun _ hk => hk.2) (.int .i64 ((rd_T27 t192 x8_1).f5))) (fun _ hk => trivial)⟩, ⟨by (with_reducible repeat (first | apply Kd.R_alloc | apply Kd.R_drewN | apply Kd.R_drew)); exact Kd.R_mono (Kd.R_far (p := ⟨gb200, 5, none⟩) (Kd.R_far (p := ⟨gb200, 4, none⟩) (Kd.R_far (p := ⟨gb200, 3, none⟩) (Kd.R_far (p := ⟨gb200, 2, none⟩) (Kd.R_far (p := ⟨gb200, 1, none⟩) (Kd.R_far (p := ⟨gb200, 0, none⟩) (Kd.R_mono HO_4.out (fun k_ hk => (⟨hk, hk.2⟩ : _ ∧ k_ ≠ gb200))) (fun _ hk => hk.2) (.int .i64 ((rd_T27 t192 x8_1).f0))) (fun _ hk => hk.2) (.int .i64 ((rd_T27 t192 x8_1).f1))) (fun _ hk => hk.2) (.int .i64 ((rd_T27 t192 x8_1).f2))) (fun _ hk => hk.2) (.int .i64 ((rd_T27 t192 x8_1).f3))) (fun _ hk => hk.2) (.int .i64 ((rd_T27 t192 x8_1).f4))) (fun _ hk => hk.2) (.int .i64 ((rd_T27 t192 x8_1).f5))) (fun _ hk => hk.1.2)⟩, ⟨by (with_reducible repeat (first | refine blk_drewN ?_ _ | refine blk_drew ?_ | refine blk_alloc ?_ _)); refine blk_put (cs := #[.int .i64 ((rd_T27 t192 x8_1).f0), .int .i64 ((rd_T27 t192 x8_1).f1), .int .i64 ((rd_T27 t192 x8_1).f2), .int .i64 ((rd_T27 t192 x8_1).f3), .int .i64 ((rd_T27 t192 x8_1).f4), .int .i64 0]) ?_ 5 _ rfl; (with_reducible repeat (first | refine blk_drewN ?_ _ | refine blk_drew ?_ | refine blk_alloc ?_ _)); refine blk_put (cs := #[.int .i64 ((rd_T27 t192 x8_1).f0), .int .i64 ((rd_T27 t192 x8_1).f1), .int .i64 ((rd_T27 t192 x8_1).f2), .int .i64 ((rd_T27 t192 x8_1).f3), .int .i64 0, .int .i64 0]) ?_ 4 _ rfl; (with_reducible repeat (first | refine blk_drewN ?_ _ | refine blk_drew ?_ | refine blk_alloc ?_ _)); refine blk_put (cs := #[.int .i64 ((rd_T27 t192 x8_1).f0), .int .i64 ((rd_T27 t192 x8_1).f1), .int .i64 ((rd_T27 t192 x8_1).f2), .int .i64 0, .int .i64 0, .int .i64 0]) ?_ 3 _ rfl; (with_reducible repeat (first | refine blk_drewN ?_ _ | refine blk_drew ?_ | refine blk_alloc ?_ _)); refine blk_put (cs := #[.int .i64 ((rd_T27 t192 x8_1).f0), .int .i64 ((rd_T27 t192 x8_1).f1), .int .i64 0, .int .i64 0, .int .i64 0, .int .i64 0]) ?_ 2 _ rfl; (with_reducible repeat (first | refine blk_drewN ?_ _ | refine blk_drew ?_ | refine blk_alloc ?_ _)); refine blk_put (cs := #[.int .i64 ((rd_T27 t192 x8_1).f0), .int .i64 0, .int .i64 0, .int .i64 0, .int .i64 0, .int .i64 0]) ?_ 1 _ rfl; (with_reducible repeat (first | refine blk_drewN ?_ _ | refine blk_drew ?_ | refine blk_alloc ?_ _)); refine blk_put (cs := #[.int .i64 0, .int .i64 0, .int .i64 0, .int .i64 0, .int .i64 0, .int .i64 0]) ?_ 0 _ rfl; (with_reducible repeat (first | refine blk_drewN ?_ _ | refine blk_drew ?_ | refine blk_alloc ?_ _)); exact BK200.out⟩, ⟨by repeat (first | (with_reducible first | exact HB.out | apply below_alloc | apply pw_below_drewN | apply below_drew1 | refine below_set ?_ GE200.out) | exact HB.out)⟩⟩
                                  · rw [if_neg c38] at H
                                    exact absurd H (by simp)
                                · rw [if_neg c37] at H
                                  exact absurd H (by simp)
                              · rw [if_neg c36] at H
                                exact absurd H (by simp)
                            · rw [if_neg c35] at H
                              have c35b0 : decide (0 ≤ ((rd_T27 t192 x8_1).f0)) = false := decide_eq_false c35
                              clear c35
                              have H' := Aside0.mk H
                              clear H
                              have hcz40_0 : w14.cell? ⟨gb200, 0, none⟩ = some (.int .i64 0) := (blk_cell BK200.out 0).trans rfl
                              have hcz40_1 : w14.cell? ⟨gb200, 1, none⟩ = some (.int .i64 0) := (blk_cell BK200.out 1).trans rfl
                              have hcz40_2 : w14.cell? ⟨gb200, 2, none⟩ = some (.int .i64 0) := (blk_cell BK200.out 2).trans rfl
                              have hcz40_3 : w14.cell? ⟨gb200, 3, none⟩ = some (.int .i64 0) := (blk_cell BK200.out 3).trans rfl
                              have hcz40_4 : w14.cell? ⟨gb200, 4, none⟩ = some (.int .i64 0) := (blk_cell BK200.out 4).trans rfl
                              have hcz40_5 : w14.cell? ⟨gb200, 5, none⟩ = some (.int .i64 0) := (blk_cell BK200.out 5).trans rfl
                              have hfz40_0 := blk_frozen BK200.out 0
                              have hfz40_1 := blk_frozen BK200.out 1
                              have hfz40_2 := blk_frozen BK200.out 2
                              have hfz40_3 := blk_frozen BK200.out 3
                              have hfz40_4 := blk_frozen BK200.out 4
                              have hfz40_5 := blk_frozen BK200.out 5
                              go_wp2
                              repeat (go_quiet (fail); try go_wp2)
                              go_meet
                              case rel => exact ⟨_, (false), (by first | rfl | (simp; done) | (simp [*]; done)), H', ⟨by have := HK1.out; first | omega | exact Nat.le_refl _⟩, ⟨by (with_reducible repeat (first | apply Kd.R_alloc | apply Kd.R_drewN | apply Kd.R_drew)); exact Kd.R_mono (Kd.R_far (p := ⟨gb200, 5, none⟩) (Kd.R_far (p := ⟨gb200, 4, none⟩) (Kd.R_far (p := ⟨gb200, 3, none⟩) (Kd.R_far (p := ⟨gb200, 2, none⟩) (Kd.R_far (p := ⟨gb200, 1, none⟩) (Kd.R_far (p := ⟨gb200, 0, none⟩) (Kd.R_types HO_3.out BK200.out (by decide)) (fun _ hk => hk.2) (.int .i64 ((rd_T27 t192 x8_1).f0))) (fun _ hk => hk.2) (.int .i64 ((rd_T27 t192 x8_1).f1))) (fun _ hk => hk.2) (.int .i64 ((rd_T27 t192 x8_1).f2))) (fun _ hk => hk.2) (.int .i64 ((rd_T27 t192 x8_1).f3))) (fun _ hk => hk.2) (.int .i64 ((rd_T27 t192 x8_1).f4))) (fun _ hk => hk.2) (.int .i64 ((rd_T27 t192 x8_1).f5))) (fun _ hk => trivial)⟩, ⟨by (with_reducible repeat (first | apply Kd.R_alloc | apply Kd.R_drewN | apply Kd.R_drew)); exact Kd.R_mono (Kd.R_far (p := ⟨gb200, 5, none⟩) (Kd.R_far (p := ⟨gb200, 4, none⟩) (Kd.R_far (p := ⟨gb200, 3, none⟩) (Kd.R_far (p := ⟨gb200, 2, none⟩) (Kd.R_far (p := ⟨gb200, 1, none⟩) (Kd.R_far (p := ⟨gb200, 0, none⟩) (Kd.R_mono HO_4.out (fun k_ hk => (⟨hk, hk.2⟩ : _ ∧ k_ ≠ gb200))) (fun _ hk => hk.2) (.int .i64 ((rd_T27 t192 x8_1).f0))) (fun _ hk => hk.2) (.int .i64 ((rd_T27 t192 x8_1).f1))) (fun _ hk => hk.2) (.int .i64 ((rd_T27 t192 x8_1).f2))) (fun _ hk => hk.2) (.int .i64 ((rd_T27 t192 x8_1).f3))) (fun _ hk => hk.2) (.int .i64 ((rd_T27 t192 x8_1).f4))) (fun _ hk => hk.2) (.int .i64 ((rd_T27 t192 x8_1).f5))) (fun _ hk => hk.1.2)⟩, ⟨by (with_reducible repeat (first | refine blk_drewN ?_ _ | refine blk_drew ?_ | refine blk_alloc ?_ _)); refine blk_put (cs := #[.int .i64 ((rd_T27 t192 x8_1).f0), .int .i64 ((rd_T27 t192 x8_1).f1), .int .i64 ((rd_T27 t192 x8_1).f2), .int .i64 ((rd_T27 t192 x8_1).f3), .int .i64 ((rd_T27 t192 x8_1).f4), .int .i64 0]) ?_ 5 _ rfl; (with_reducible repeat (first | refine blk_drewN ?_ _ | refine blk_drew ?_ | refine blk_alloc ?_ _)); refine blk_put (cs := #[.int .i64 ((rd_T27 t192 x8_1).f0), .int .i64 ((rd_T27 t192 x8_1).f1), .int .i64 ((rd_T27 t192 x8_1).f2), .int .i64 ((rd_T27 t192 x8_1).f3), .int .i64 0, .int .i64 0]) ?_ 4 _ rfl; (with_reducible repeat (first | refine blk_drewN ?_ _ | refine blk_drew ?_ | refine blk_alloc ?_ _)); refine blk_put (cs := #[.int .i64 ((rd_T27 t192 x8_1).f0), .int .i64 ((rd_T27 t192 x8_1).f1), .int .i64 ((rd_T27 t192 x8_1).f2), .int .i64 0, .int .i64 0, .int .i64 0]) ?_ 3 _ rfl; (with_reducible repeat (first | refine blk_drewN ?_ _ | refine blk_drew ?_ | refine blk_alloc ?_ _)); refine blk_put (cs := #[.int .i64 ((rd_T27 t192 x8_1).f0), .int .i64 ((rd_T27 t192 x8_1).f1), .int .i64 0, .int .i64 0, .int .i64 0, .int .i64 0]) ?_ 2 _ rfl; (with_reducible repeat (first | refine blk_drewN ?_ _ | refine blk_drew ?_ | refine blk_alloc ?_ _)); refine blk_put (cs := #[.int .i64 ((rd_T27 t192 x8_1).f0), .int .i64 0, .int .i64 0, .int .i64 0, .int .i64 0, .int .i64 0]) ?_ 1 _ rfl; (with_reducible repeat (first | refine blk_drewN ?_ _ | refine blk_drew ?_ | refine blk_alloc ?_ _)); refine blk_put (cs := #[.int .i64 0, .int .i64 0, .int .i64 0, .int .i64 0, .int .i64 0, .int .i64 0]) ?_ 0 _ rfl; (with_reducible repeat (first | refine blk_drewN ?_ _ | refine blk_drew ?_ | refine blk_alloc ?_ _)); exact BK200.out⟩, ⟨by repeat (first | (with_reducible first | exact HB.out | apply below_alloc | apply pw_below_drewN | apply below_drew1 | refine below_set ?_ GE200.out) | exact HB.out)⟩⟩
            case rest =>
              clear HC13
              try clear c1
              try clear p1
              try clear q1
              try clear hx1
              try clear c2
              try clear p2
              try clear q2
              try clear hx2
              try clear c3
              try clear c5
              try clear c5b0
              try clear c5b1
              try clear c5b2
              try clear c11
              try clear c11b0
              try clear c12
              try clear c12b0
              try clear c16
              try clear c16b0
              try clear c18
              try clear c18b0
              try clear p19
              try clear q19
              try clear hx19
              try clear c20
              try clear c20b0
              try clear p20
              try clear q20
              try clear hx20
              try clear c22
              try clear c22b0
              try clear c24
              try clear c24b0
              try clear c24b1
              try clear c25
              try clear c25b0
              try clear c26
              try clear c26b0
              try clear c27
              try clear c27b0
              try clear c28
              try clear c28b0
              try clear c31
              try clear c31b0
              try clear c33
              try clear c33b0
              try clear c35
              try clear c35b0
              try clear c36
              try clear c36b0
              try clear c37
              try clear c37b0
              try clear c38
              try clear c38b0
              try clear hcz15_0
              try clear hcz15_1
              try clear hcz15_2
              try clear hcz15_3
              try clear hcz15_4
              try clear hcz15_5
              try clear hcz17_0
              try clear hcz17_1
              try clear hcz17_2
              try clear hcz17_3
              try clear hcz17_4
              try clear hcz17_5
              try clear hcz19_0
              try clear hcz19_1
              try clear hcz19_2
              try clear hcz19_3
              try clear hcz19_4
              try clear hcz19_5
              try clear hcz21_0
              try clear hcz21_1
              try clear hcz21_2
              try clear hcz21_3
              try clear hcz21_4
              try clear hcz21_5
              try clear hcz23_0
              try clear hcz23_1
              try clear hcz23_2
              try clear hcz23_3
              try clear hcz23_4
              try clear hcz23_5
              try clear hcz29_0
              try clear hcz29_1
              try clear hcz29_2
              try clear hcz29_3
              try clear hcz29_4
              try clear hcz29_5
              try clear hcz30_0
              try clear hcz30_1
              try clear hcz30_2
              try clear hcz30_3
              try clear hcz30_4
              try clear hcz30_5
              try clear hcz32_0
              try clear hcz32_1
              try clear hcz32_2
              try clear hcz32_3
              try clear hcz32_4
              try clear hcz32_5
              try clear hcz34_0
              try clear hcz34_1
              try clear hcz34_2
              try clear hcz34_3
              try clear hcz34_4
              try clear hcz34_5
              try clear hcz39_0
              try clear hcz39_1
              try clear hcz39_2
              try clear hcz39_3
              try clear hcz39_4
              try clear hcz39_5
              try clear hcz40_0
              try clear hcz40_1
              try clear hcz40_2
              try clear hcz40_3
              try clear hcz40_4
              try clear hcz40_5
              try clear hfz15_0
              try clear hfz15_1
              try clear hfz15_2
              try clear hfz15_3
              try clear hfz15_4
              try clear hfz15_5
              try clear hfz17_0
              try clear hfz17_1
              try clear hfz17_2
              try clear hfz17_3
              try clear hfz17_4
              try clear hfz17_5
              try clear hfz19_0
              try clear hfz19_1
              try clear hfz19_2
              try clear hfz19_3
              try clear hfz19_4
              try clear hfz19_5
              try clear hfz21_0
              try clear hfz21_1
              try clear hfz21_2
              try clear hfz21_3
              try clear hfz21_4
              try clear hfz21_5
              try clear hfz23_0
              try clear hfz23_1
              try clear hfz23_2
              try clear hfz23_3
              try clear hfz23_4
              try clear hfz23_5
              try clear hfz29_0
              try clear hfz29_1
              try clear hfz29_2
              try clear hfz29_3
              try clear hfz29_4
              try clear hfz29_5
              try clear hfz30_0
              try clear hfz30_1
              try clear hfz30_2
              try clear hfz30_3
              try clear hfz30_4
              try clear hfz30_5
              try clear hfz32_0
              try clear hfz32_1
              try clear hfz32_2
              try clear hfz32_3
              try clear hfz32_4
              try clear hfz32_5
              try clear hfz34_0
              try clear hfz34_1
              try clear hfz34_2
              try clear hfz34_3
              try clear hfz34_4
              try clear hfz34_5
              try clear hfz39_0
              try clear hfz39_1
              try clear hfz39_2
              try clear hfz39_3
              try clear hfz39_4
              try clear hfz39_5
              try clear hfz40_0
              try clear hfz40_1
              try clear hfz40_2
              try clear hfz40_3
              try clear hfz40_4
              try clear hfz40_5
              try clear hx199_0
              try clear hx199_1
              try clear hx199_2
              try clear hx199_3
              try clear hx199_4
              try clear hx199_5
              try clear hx201_0
              try clear hx202_0
              try clear hx203_0
              try clear hx204_0
              try clear p199
              try clear p2
              try clear p201
              try clear p202
              try clear p203
              try clear p204
              try clear q199
              try clear q201
              try clear q202
              try clear q203
              try clear q204
              obtain ⟨kq, x91_12, rfl, HA, HJ12, HO_3, HO_4, BK200, HB⟩ := hcut
              cases kq with
              | zero => exact absurd HA.out (by simp [colophonlaw29_AnchorsBoth.j1])
              | succ kj12 =>
                have H := HA.out
                clear HA
                simp only [colophonlaw29_AnchorsBoth.j1] at H
                by_cases c41 : x91_12 = true
                · subst c41
                  have H1 : (some false) = some r := by rw [if_pos rfl] at H; exact H
                  clear H
                  have H := H1
                  clear H1
                  obtain rfl := Option.some.inj H
                  go_wp2
                  repeat (go_quiet (fail); try go_wp2)
                  go_ret
                  exact ⟨by first | rfl | (simp [errW_none, errW_some] <;> rfl) | (simp [*, errW_none, errW_some] <;> rfl), by repeat (first | (with_reducible first | exact HB.out | apply below_alloc | apply pw_below_drewN | apply below_drew1 | refine below_set ?_ GE200.out) | exact HB.out)⟩
                · replace c41 := Bool.eq_false_iff.mpr c41
                  subst c41
                  have H1 : (if ((rd_T27 t192 x8_1).f2) = (-1) then (colophonlaw29_AnchorsBoth.j2 kj12 t189 t192 t195 t196 x8_1 false ((rd_T27 t192 x8_1).f0) ((rd_T27 t192 x8_1).f1) ((rd_T27 t192 x8_1).f2) ((rd_T27 t192 x8_1).f3) ((rd_T27 t192 x8_1).f4) ((rd_T27 t192 x8_1).f5)) else (if 0 ≤ ((rd_T27 t192 x8_1).f2) then (if ((rd_T27 t192 x8_1).f2) < (t192.length : Int) then (if ((rd_T27 t192 ((rd_T27 t192 x8_1).f2)).f1) = x8_1 then (colophonlaw29_AnchorsBoth.j2 kj12 t189 t192 t195 t196 x8_1 (((rd_T27 t192 ((rd_T27 t192 x8_1).f2)).f0) != ((rd_T27 t192 x8_1).f0)) ((rd_T27 t192 x8_1).f0) ((rd_T27 t192 x8_1).f1) ((rd_T27 t192 x8_1).f2) ((rd_T27 t192 x8_1).f3) ((rd_T27 t192 x8_1).f4) ((rd_T27 t192 x8_1).f5)) else (colophonlaw29_AnchorsBoth.j2 kj12 t189 t192 t195 t196 x8_1 true ((rd_T27 t192 x8_1).f0) ((rd_T27 t192 x8_1).f1) ((rd_T27 t192 x8_1).f2) ((rd_T27 t192 x8_1).f3) ((rd_T27 t192 x8_1).f4) ((rd_T27 t192 x8_1).f5))) else (none)) else (none))) = some r := by rw [if_neg (show ¬ (false = true) by decide)] at H; exact H
                  clear H
                  have H := H1
                  clear H1
                  have HC42 := Aside0.mk H
                  clear H
                  go_upto_region 12 with (fail)
                  repeat (go_quiet (fail); go_upto_region 12 with (fail))
                  go_cut [115] (fun v115 wc => ∃ (kq : Nat) (x115_41 : Bool), v115 = .bool x115_41 ∧ Aside0 (colophonlaw29_AnchorsBoth.j2 kq t189 t192 t195 t196 x8_1 x115_41 ((rd_T27 t192 x8_1).f0) ((rd_T27 t192 x8_1).f1) ((rd_T27 t192 x8_1).f2) ((rd_T27 t192 x8_1).f3) ((rd_T27 t192 x8_1).f4) ((rd_T27 t192 x8_1).f5) = some r) ∧ Aside0 (kq ≤ kj12) ∧ Aside0 (Kd.R (Kd.int .i64) 3 wc w.heap.size (fun _ => True) (.slice Ao7 t189.length co7) t189) ∧ Aside0 (Kd.R k27 27 wc w.heap.size (fun k_ => k_ ≠ gb200) (.slice (some ad199) t192.length co10) t192) ∧ Aside0 (wc.heap[gb200]? = some (.cells #[.int .i64 ((rd_T27 t192 x8_1).f0), .int .i64 ((rd_T27 t192 x8_1).f1), .int .i64 ((rd_T27 t192 x8_1).f2), .int .i64 ((rd_T27 t192 x8_1).f3), .int .i64 ((rd_T27 t192 x8_1).f4), .int .i64 ((rd_T27 t192 x8_1).f5)] 27 (0, 0))) ∧ Aside0 (Below w.heap.size w wc))
                  case first =>
                    have H := HC42.out
                    clear HC42
                    by_cases c43 : ((rd_T27 t192 x8_1).f2) = (-1)
                    · rw [if_pos c43] at H
                      have c43b0 : (((rd_T27 t192 x8_1).f2) == (-1)) = true := beq_iff_eq.mpr c43
                      have c43b1 : (((rd_T27 t192 x8_1).f2) != (-1)) = false := bne_eq_false_iff_eq.mpr c43
                      clear c43
                      (first | rw [c43b0] | (simp only [i64_w, i32_w]; rw [c43b0]) | skip)
                      have H' := Aside0.mk H
                      clear H
                      have hcz44_0 : wc.cell? ⟨gb200, 0, none⟩ = some (.int .i64 ((rd_T27 t192 x8_1).f0)) := (blk_cell BK200.out 0).trans rfl
                      have hcz44_1 : wc.cell? ⟨gb200, 1, none⟩ = some (.int .i64 ((rd_T27 t192 x8_1).f1)) := (blk_cell BK200.out 1).trans rfl
                      have hcz44_2 : wc.cell? ⟨gb200, 2, none⟩ = some (.int .i64 ((rd_T27 t192 x8_1).f2)) := (blk_cell BK200.out 2).trans rfl
                      have hcz44_3 : wc.cell? ⟨gb200, 3, none⟩ = some (.int .i64 ((rd_T27 t192 x8_1).f3)) := (blk_cell BK200.out 3).trans rfl
                      have hcz44_4 : wc.cell? ⟨gb200, 4, none⟩ = some (.int .i64 ((rd_T27 t192 x8_1).f4)) := (blk_cell BK200.out 4).trans rfl
                      have hcz44_5 : wc.cell? ⟨gb200, 5, none⟩ = some (.int .i64 ((rd_T27 t192 x8_1).f5)) := (blk_cell BK200.out 5).trans rfl
                      have hfz44_0 := blk_frozen BK200.out 0
                      have hfz44_1 := blk_frozen BK200.out 1
                      have hfz44_2 := blk_frozen BK200.out 2
                      have hfz44_3 := blk_frozen BK200.out 3
                      have hfz44_4 := blk_frozen BK200.out 4
                      have hfz44_5 := blk_frozen BK200.out 5
                      go_wp2
                      repeat (go_quiet (fail); try go_wp2)
                      go_meet
                      case rel => exact ⟨_, (false), (by first | rfl | (simp; done) | (simp [*]; done)), H', ⟨by have := HK1.out; have := HJ12.out; first | omega | exact Nat.le_refl _⟩, ⟨by (with_reducible repeat (first | apply Kd.R_alloc | apply Kd.R_drewN | apply Kd.R_drew)); exact HO_3.out⟩, ⟨by (with_reducible repeat (first | apply Kd.R_alloc | apply Kd.R_drewN | apply Kd.R_drew)); exact HO_4.out⟩, ⟨by (with_reducible repeat (first | refine blk_drewN ?_ _ | refine blk_drew ?_ | refine blk_alloc ?_ _)); exact BK200.out⟩, ⟨by repeat (first | (with_reducible first | exact HB.out | apply below_alloc | apply pw_below_drewN | apply below_drew1 | refine below_set ?_ GE200.out) | exact HB.out)⟩⟩
                    · rw [if_neg c43] at H
                      have c43b0 : (((rd_T27 t192 x8_1).f2) == (-1)) = false := beq_eq_false_iff_ne.mpr c43
                      have c43b1 : (((rd_T27 t192 x8_1).f2) != (-1)) = true := bne_iff_ne.mpr c43
                      (first | rw [c43b0] | (simp only [i64_w, i32_w]; rw [c43b0]) | skip)
                      by_cases c45 : 0 ≤ ((rd_T27 t192 x8_1).f2)
                      · rw [if_pos c45] at H
                        have c45b0 : decide (0 ≤ ((rd_T27 t192 x8_1).f2)) = true := decide_eq_true c45
                        clear c45
                        by_cases c46 : ((rd_T27 t192 x8_1).f2) < (t192.length : Int)
                        · rw [if_pos c46] at H
                          have c46b0 : decide (((rd_T27 t192 x8_1).f2) < (t192.length : Int)) = true := decide_eq_true c46
                          clear c46
                          by_cases c47 : ((rd_T27 t192 ((rd_T27 t192 x8_1).f2)).f1) = x8_1
                          · rw [if_pos c47] at H
                            have c47b0 : (((rd_T27 t192 ((rd_T27 t192 x8_1).f2)).f1) == x8_1) = true := beq_iff_eq.mpr c47
                            have c47b1 : (((rd_T27 t192 ((rd_T27 t192 x8_1).f2)).f1) != x8_1) = false := bne_eq_false_iff_eq.mpr c47
                            clear c47
                            have H' := Aside0.mk H
                            clear H
                            have hcz48_0 : wc.cell? ⟨gb200, 0, none⟩ = some (.int .i64 ((rd_T27 t192 x8_1).f0)) := (blk_cell BK200.out 0).trans rfl
                            have hcz48_1 : wc.cell? ⟨gb200, 1, none⟩ = some (.int .i64 ((rd_T27 t192 x8_1).f1)) := (blk_cell BK200.out 1).trans rfl
                            have hcz48_2 : wc.cell? ⟨gb200, 2, none⟩ = some (.int .i64 ((rd_T27 t192 x8_1).f2)) := (blk_cell BK200.out 2).trans rfl
                            have hcz48_3 : wc.cell? ⟨gb200, 3, none⟩ = some (.int .i64 ((rd_T27 t192 x8_1).f3)) := (blk_cell BK200.out 3).trans rfl
                            have hcz48_4 : wc.cell? ⟨gb200, 4, none⟩ = some (.int .i64 ((rd_T27 t192 x8_1).f4)) := (blk_cell BK200.out 4).trans rfl
                            have hcz48_5 : wc.cell? ⟨gb200, 5, none⟩ = some (.int .i64 ((rd_T27 t192 x8_1).f5)) := (blk_cell BK200.out 5).trans rfl
                            have hfz48_0 := blk_frozen BK200.out 0
                            have hfz48_1 := blk_frozen BK200.out 1
                            have hfz48_2 := blk_frozen BK200.out 2
                            have hfz48_3 := blk_frozen BK200.out 3
                            have hfz48_4 := blk_frozen BK200.out 4
                            have hfz48_5 := blk_frozen BK200.out 5
                            have p205 : 0 ≤ (((rd_T27 t192 x8_1).f2) : Int) := of_decide_eq_true (by first | (with_reducible assumption) | assumption)
                            have q205 : ((rd_T27 t192 x8_1).f2) < (t192.length : Int) := of_decide_eq_true (by first | (with_reducible assumption) | assumption)
                            obtain ⟨ad205, e205, hx205_0, hx205_1, hx205_2, hx205_3, hx205_4, hx205_5⟩ := at_T27 (Kd.R_reads' HO_4.out).2.2 ((rd_T27 t192 x8_1).f2) p205 q205
                            obtain rfl : ad199 = ad205 := (by injection e205)
                            replace p205 := eq_true p205
                            replace q205 := eq_true q205
                            have p206 : 0 ≤ (((rd_T27 t192 x8_1).f2) : Int) := of_decide_eq_true (by first | (with_reducible assumption) | assumption)
                            have q206 : ((rd_T27 t192 x8_1).f2) < (t192.length : Int) := of_decide_eq_true (by first | (with_reducible assumption) | assumption)
                            obtain ⟨ad206, e206, hx206_0, hx206_1, hx206_2, hx206_3, hx206_4, hx206_5⟩ := at_T27 (Kd.R_reads' HO_4.out).2.2 ((rd_T27 t192 x8_1).f2) p206 q206
                            obtain rfl : ad199 = ad206 := (by injection e206)
                            replace p206 := eq_true p206
                            replace q206 := eq_true q206
                            go_wp2
                            repeat (go_quiet (fail); try go_wp2)
                            go_meet
                            case rel => exact ⟨_, ((((rd_T27 t192 ((rd_T27 t192 x8_1).f2)).f0) != ((rd_T27 t192 x8_1).f0))), (by first | rfl | (simp; done) | (simp [*]; done)), H', ⟨by have := HK1.out; have := HJ12.out; first | omega | exact Nat.le_refl _⟩, ⟨by (with_reducible repeat (first | apply Kd.R_alloc | apply Kd.R_drewN | apply Kd.R_drew)); exact HO_3.out⟩, ⟨by (with_reducible repeat (first | apply Kd.R_alloc | apply Kd.R_drewN | apply Kd.R_drew)); exact HO_4.out⟩, ⟨by (with_reducible repeat (first | refine blk_drewN ?_ _ | refine blk_drew ?_ | refine blk_alloc ?_ _)); exact BK200.out⟩, ⟨by repeat (first | (with_reducible first | exact HB.out | apply below_alloc | apply pw_below_drewN | apply below_drew1 | refine below_set ?_ GE200.out) | exact HB.out)⟩⟩
                          · rw [if_neg c47] at H
                            have c47b0 : (((rd_T27 t192 ((rd_T27 t192 x8_1).f2)).f1) == x8_1) = false := beq_eq_false_iff_ne.mpr c47
                            have c47b1 : (((rd_T27 t192 ((rd_T27 t192 x8_1).f2)).f1) != x8_1) = true := bne_iff_ne.mpr c47
                            have H' := Aside0.mk H
                            clear H
                            have hcz49_0 : wc.cell? ⟨gb200, 0, none⟩ = some (.int .i64 ((rd_T27 t192 x8_1).f0)) := (blk_cell BK200.out 0).trans rfl
                            have hcz49_1 : wc.cell? ⟨gb200, 1, none⟩ = some (.int .i64 ((rd_T27 t192 x8_1).f1)) := (blk_cell BK200.out 1).trans rfl
                            have hcz49_2 : wc.cell? ⟨gb200, 2, none⟩ = some (.int .i64 ((rd_T27 t192 x8_1).f2)) := (blk_cell BK200.out 2).trans rfl
                            have hcz49_3 : wc.cell? ⟨gb200, 3, none⟩ = some (.int .i64 ((rd_T27 t192 x8_1).f3)) := (blk_cell BK200.out 3).trans rfl
                            have hcz49_4 : wc.cell? ⟨gb200, 4, none⟩ = some (.int .i64 ((rd_T27 t192 x8_1).f4)) := (blk_cell BK200.out 4).trans rfl
                            have hcz49_5 : wc.cell? ⟨gb200, 5, none⟩ = some (.int .i64 ((rd_T27 t192 x8_1).f5)) := (blk_cell BK200.out 5).trans rfl
                            have hfz49_0 := blk_frozen BK200.out 0
                            have hfz49_1 := blk_frozen BK200.out 1
                            have hfz49_2 := blk_frozen BK200.out 2
                            have hfz49_3 := blk_frozen BK200.out 3
                            have hfz49_4 := blk_frozen BK200.out 4
                            have hfz49_5 := blk_frozen BK200.out 5
                            have p205 : 0 ≤ (((rd_T27 t192 x8_1).f2) : Int) := of_decide_eq_true (by first | (with_reducible assumption) | assumption)
                            have q205 : ((rd_T27 t192 x8_1).f2) < (t192.length : Int) := of_decide_eq_true (by first | (with_reducible assumption) | assumption)
                            obtain ⟨ad205, e205, hx205_0, hx205_1, hx205_2, hx205_3, hx205_4, hx205_5⟩ := at_T27 (Kd.R_reads' HO_4.out).2.2 ((rd_T27 t192 x8_1).f2) p205 q205
                            obtain rfl : ad199 = ad205 := (by injection e205)
                            replace p205 := eq_true p205
                            replace q205 := eq_true q205
                            go_wp2
                            repeat (go_quiet (fail); try go_wp2)
                            go_meet
                            case rel => exact ⟨_, (true), (by first | rfl | (simp; done) | (simp [*]; done)), H', ⟨by have := HK1.out; have := HJ12.out; first | omega | exact Nat.le_refl _⟩, ⟨by (with_reducible repeat (first | apply Kd.R_alloc | apply Kd.R_drewN | apply Kd.R_drew)); exact HO_3.out⟩, ⟨by (with_reducible repeat (first | apply Kd.R_alloc | apply Kd.R_drewN | apply Kd.R_drew)); exact HO_4.out⟩, ⟨by (with_reducible repeat (first | refine blk_drewN ?_ _ | refine blk_drew ?_ | refine blk_alloc ?_ _)); exact BK200.out⟩, ⟨by repeat (first | (with_reducible first | exact HB.out | apply below_alloc | apply pw_below_drewN | apply below_drew1 | refine below_set ?_ GE200.out) | exact HB.out)⟩⟩
                        · rw [if_neg c46] at H
                          exact absurd H (by simp)
                      · rw [if_neg c45] at H
                        exact absurd H (by simp)
                  case rest =>
                    clear HC42
                    try clear c1
                    try clear p1
                    try clear q1
                    try clear hx1
                    try clear c2
                    try clear p2
                    try clear q2
                    try clear hx2
                    try clear c3
                    try clear c4
                    try clear c5
                    try clear c5b0
                    try clear c5b1
                    try clear c5b2
                    try clear c11
                    try clear c11b0
                    try clear c12
                    try clear c12b0
                    try clear c16
                    try clear c16b0
                    try clear c18
                    try clear c18b0
                    try clear p19
                    try clear q19
                    try clear hx19
                    try clear c20
                    try clear c20b0
                    try clear p20
                    try clear q20
                    try clear hx20
                    try clear c22
                    try clear c22b0
                    try clear c24
                    try clear c24b0
                    try clear c24b1
                    try clear c25
                    try clear c25b0
                    try clear c26
                    try clear c26b0
                    try clear c27
                    try clear c27b0
                    try clear c28
                    try clear c28b0
                    try clear c31
                    try clear c31b0
                    try clear c33
                    try clear c33b0
                    try clear c35
                    try clear c35b0
                    try clear c36
                    try clear c36b0
                    try clear c37
                    try clear c37b0
                    try clear c38
                    try clear c38b0
                    try clear c41
                    try clear c43
                    try clear c43b0
                    try clear c43b1
                    try clear c45
                    try clear c45b0
                    try clear c46
                    try clear c46b0
                    try clear c47
                    try clear c47b0
                    try clear c47b1
                    try clear hcz15_0
                    try clear hcz15_1
                    try clear hcz15_2
                    try clear hcz15_3
                    try clear hcz15_4
                    try clear hcz15_5
                    try clear hcz17_0
                    try clear hcz17_1
                    try clear hcz17_2
                    try clear hcz17_3
                    try clear hcz17_4
                    try clear hcz17_5
                    try clear hcz19_0
                    try clear hcz19_1
                    try clear hcz19_2
                    try clear hcz19_3
                    try clear hcz19_4
                    try clear hcz19_5
                    try clear hcz21_0
                    try clear hcz21_1
                    try clear hcz21_2
                    try clear hcz21_3
                    try clear hcz21_4
                    try clear hcz21_5
                    try clear hcz23_0
                    try clear hcz23_1
                    try clear hcz23_2
                    try clear hcz23_3
                    try clear hcz23_4
                    try clear hcz23_5
                    try clear hcz29_0
                    try clear hcz29_1
                    try clear hcz29_2
                    try clear hcz29_3
                    try clear hcz29_4
                    try clear hcz29_5
                    try clear hcz30_0
                    try clear hcz30_1
                    try clear hcz30_2
                    try clear hcz30_3
                    try clear hcz30_4
                    try clear hcz30_5
                    try clear hcz32_0
                    try clear hcz32_1
                    try clear hcz32_2
                    try clear hcz32_3
                    try clear hcz32_4
                    try clear hcz32_5
                    try clear hcz34_0
                    try clear hcz34_1
                    try clear hcz34_2
                    try clear hcz34_3
                    try clear hcz34_4
                    try clear hcz34_5
                    try clear hcz39_0
                    try clear hcz39_1
                    try clear hcz39_2
                    try clear hcz39_3
                    try clear hcz39_4
                    try clear hcz39_5
                    try clear hcz40_0
                    try clear hcz40_1
                    try clear hcz40_2
                    try clear hcz40_3
                    try clear hcz40_4
                    try clear hcz40_5
                    try clear hcz44_0
                    try clear hcz44_1
                    try clear hcz44_2
                    try clear hcz44_3
                    try clear hcz44_4
                    try clear hcz44_5
                    try clear hcz48_0
                    try clear hcz48_1
                    try clear hcz48_2
                    try clear hcz48_3
                    try clear hcz48_4
                    try clear hcz48_5
                    try clear hcz49_0
                    try clear hcz49_1
                    try clear hcz49_2
                    try clear hcz49_3
                    try clear hcz49_4
                    try clear hcz49_5
                    try clear hfz15_0
                    try clear hfz15_1
                    try clear hfz15_2
                    try clear hfz15_3
                    try clear hfz15_4
                    try clear hfz15_5
                    try clear hfz17_0
                    try clear hfz17_1
                    try clear hfz17_2
                    try clear hfz17_3
                    try clear hfz17_4
                    try clear hfz17_5
                    try clear hfz19_0
                    try clear hfz19_1
                    try clear hfz19_2
                    try clear hfz19_3
                    try clear hfz19_4
                    try clear hfz19_5
                    try clear hfz21_0
                    try clear hfz21_1
                    try clear hfz21_2
                    try clear hfz21_3
                    try clear hfz21_4
                    try clear hfz21_5
                    try clear hfz23_0
                    try clear hfz23_1
                    try clear hfz23_2
                    try clear hfz23_3
                    try clear hfz23_4
                    try clear hfz23_5
                    try clear hfz29_0
                    try clear hfz29_1
                    try clear hfz29_2
                    try clear hfz29_3
                    try clear hfz29_4
                    try clear hfz29_5
                    try clear hfz30_0
                    try clear hfz30_1
                    try clear hfz30_2
                    try clear hfz30_3
                    try clear hfz30_4
                    try clear hfz30_5
                    try clear hfz32_0
                    try clear hfz32_1
                    try clear hfz32_2
                    try clear hfz32_3
                    try clear hfz32_4
                    try clear hfz32_5
                    try clear hfz34_0
                    try clear hfz34_1
                    try clear hfz34_2
                    try clear hfz34_3
                    try clear hfz34_4
                    try clear hfz34_5
                    try clear hfz39_0
                    try clear hfz39_1
                    try clear hfz39_2
                    try clear hfz39_3
                    try clear hfz39_4
                    try clear hfz39_5
                    try clear hfz40_0
                    try clear hfz40_1
                    try clear hfz40_2
                    try clear hfz40_3
                    try clear hfz40_4
                    try clear hfz40_5
                    try clear hfz44_0
                    try clear hfz44_1
                    try clear hfz44_2
                    try clear hfz44_3
                    try clear hfz44_4
                    try clear hfz44_5
                    try clear hfz48_0
                    try clear hfz48_1
                    try clear hfz48_2
                    try clear hfz48_3
                    try clear hfz48_4
                    try clear hfz48_5
                    try clear hfz49_0
                    try clear hfz49_1
                    try clear hfz49_2
                    try clear hfz49_3
                    try clear hfz49_4
                    try clear hfz49_5
                    try clear hx199_0
                    try clear hx199_1
                    try clear hx199_2
                    try clear hx199_3
                    try clear hx199_4
                    try clear hx199_5
                    try clear hx201_0
                    try clear hx202_0
                    try clear hx203_0
                    try clear hx204_0
                    try clear hx205_0
                    try clear hx205_1
                    try clear hx205_2
                    try clear hx205_3
                    try clear hx205_4
                    try clear hx205_5
                    try clear hx206_0
                    try clear hx206_1
                    try clear hx206_2
                    try clear hx206_3
                    try clear hx206_4
                    try clear hx206_5
                    try clear p1
                    try clear p19
                    try clear p199
                    try clear p2
                    try clear p20
                    try clear p201
                    try clear p202
                    try clear p203
                    try clear p204
                    try clear p205
                    try clear p206
                    try clear q1
                    try clear q19
                    try clear q199
                    try clear q2
                    try clear q20
                    try clear q201
                    try clear q202
                    try clear q203
                    try clear q204
                    try clear q205
                    try clear q206
                    obtain ⟨kq, x115_41, rfl, HA, HJ41, HO_3, HO_4, BK200, HB⟩ := hcut
                    cases kq with
                    | zero => exact absurd HA.out (by simp [colophonlaw29_AnchorsBoth.j2])
                    | succ kj41 =>
                      have H := HA.out
                      clear HA
                      simp only [colophonlaw29_AnchorsBoth.j2] at H
                      by_cases c50 : x115_41 = true
                      · subst c50
                        have H1 : (some false) = some r := by rw [if_pos rfl] at H; exact H
                        clear H
                        have H := H1
                        clear H1
                        obtain rfl := Option.some.inj H
                        go_wp2
                        repeat (go_quiet (fail); try go_wp2)
                        go_ret
                        exact ⟨by first | rfl | (simp [errW_none, errW_some] <;> rfl) | (simp [*, errW_none, errW_some] <;> rfl), by repeat (first | (with_reducible first | exact HB.out | apply below_alloc | apply pw_below_drewN | apply below_drew1 | refine below_set ?_ GE200.out) | exact HB.out)⟩
                      · replace c50 := Bool.eq_false_iff.mpr c50
                        subst c50
                        have H1 : (if ((rd_T27 t192 x8_1).f0) ≥ 0 then (if 0 ≤ ((rd_T27 t192 x8_1).f0) then (if ((rd_T27 t192 x8_1).f0) < (t192.length : Int) then (if ((((rd_T27 t192 x8_1).f1) == (-1)) != (((rd_T27 t192 ((rd_T27 t192 x8_1).f0)).f3) == x8_1)) = true then (some false) else (if ((((rd_T27 t192 x8_1).f2) == (-1)) != (((rd_T27 t192 ((rd_T27 t192 x8_1).f0)).f4) == x8_1)) = true then (some false) else (if ((((rd_T27 t192 x8_1).f3) == (-1)) != (((rd_T27 t192 x8_1).f5) == 0)) = true then (some false) else (colophonlaw29_AnchorsBoth.l0 kj41 t189 t192 t195 t196 (wrap64 (x8_1 + 1)))))) else (none)) else (none)) else (if ((((rd_T27 t192 x8_1).f1) == (-1)) != (t195 == x8_1)) = true then (some false) else (if ((((rd_T27 t192 x8_1).f2) == (-1)) != (t196 == x8_1)) = true then (some false) else (if ((((rd_T27 t192 x8_1).f3) == (-1)) != (((rd_T27 t192 x8_1).f5) == 0)) = true then (some false) else (colophonlaw29_AnchorsBoth.l0 kj41 t189 t192 t195 t196 (wrap64 (x8_1 + 1))))))) = some r := by rw [if_neg (show ¬ (false = true) by decide)] at H; exact H
                        clear H
                        have H := H1
                        clear H1
                        by_cases c51 : ((rd_T27 t192 x8_1).f0) ≥ 0
                        · rw [if_pos c51] at H
                          have c51b0 : decide (0 ≤ ((rd_T27 t192 x8_1).f0)) = true := decide_eq_true c51
                          clear c51
                          by_cases c52 : 0 ≤ ((rd_T27 t192 x8_1).f0)
                          · rw [if_pos c52] at H
                            have c52b0 : decide (0 ≤ ((rd_T27 t192 x8_1).f0)) = true := decide_eq_true c52
                            clear c52
                            by_cases c53 : ((rd_T27 t192 x8_1).f0) < (t192.length : Int)
                            · rw [if_pos c53] at H
                              have c53b0 : decide (((rd_T27 t192 x8_1).f0) < (t192.length : Int)) = true := decide_eq_true c53
                              clear c53
                              by_cases c54 : ((((rd_T27 t192 x8_1).f1) == (-1)) != (((rd_T27 t192 ((rd_T27 t192 x8_1).f0)).f3) == x8_1)) = true
                              · rw [if_pos c54] at H
                                have c54b0 : ((((rd_T27 t192 x8_1).f1) == (-1)) != (((rd_T27 t192 ((rd_T27 t192 x8_1).f0)).f3) == x8_1)) = true := c54
                                (try (have c54b1 : decide ((((rd_T27 t192 x8_1).f1) == (-1)) = (((rd_T27 t192 ((rd_T27 t192 x8_1).f0)).f3) == x8_1)) = false := by simpa using c54))
                                (try (have c54b2 : ((((rd_T27 t192 x8_1).f1) == (-1)) == (((rd_T27 t192 ((rd_T27 t192 x8_1).f0)).f3) == x8_1)) = false := by simpa using c54))
                                (try (have c54b3 : ¬ ((((rd_T27 t192 x8_1).f1) == (-1)) = (((rd_T27 t192 ((rd_T27 t192 x8_1).f0)).f3) == x8_1)) := by simpa using c54))
                                clear c54
                                obtain rfl := Option.some.inj H
                                have hcz55_0 : wc.cell? ⟨gb200, 0, none⟩ = some (.int .i64 ((rd_T27 t192 x8_1).f0)) := (blk_cell BK200.out 0).trans rfl
                                have hcz55_1 : wc.cell? ⟨gb200, 1, none⟩ = some (.int .i64 ((rd_T27 t192 x8_1).f1)) := (blk_cell BK200.out 1).trans rfl
                                have hcz55_2 : wc.cell? ⟨gb200, 2, none⟩ = some (.int .i64 ((rd_T27 t192 x8_1).f2)) := (blk_cell BK200.out 2).trans rfl
                                have hcz55_3 : wc.cell? ⟨gb200, 3, none⟩ = some (.int .i64 ((rd_T27 t192 x8_1).f3)) := (blk_cell BK200.out 3).trans rfl
                                have hcz55_4 : wc.cell? ⟨gb200, 4, none⟩ = some (.int .i64 ((rd_T27 t192 x8_1).f4)) := (blk_cell BK200.out 4).trans rfl
                                have hcz55_5 : wc.cell? ⟨gb200, 5, none⟩ = some (.int .i64 ((rd_T27 t192 x8_1).f5)) := (blk_cell BK200.out 5).trans rfl
                                have hfz55_0 := blk_frozen BK200.out 0
                                have hfz55_1 := blk_frozen BK200.out 1
                                have hfz55_2 := blk_frozen BK200.out 2
                                have hfz55_3 := blk_frozen BK200.out 3
                                have hfz55_4 := blk_frozen BK200.out 4
                                have hfz55_5 := blk_frozen BK200.out 5
                                have p207 : 0 ≤ (((rd_T27 t192 x8_1).f0) : Int) := of_decide_eq_true (by first | (with_reducible assumption) | assumption)
                                have q207 : ((rd_T27 t192 x8_1).f0) < (t192.length : Int) := of_decide_eq_true (by first | (with_reducible assumption) | assumption)
                                obtain ⟨ad207, e207, hx207_0, hx207_1, hx207_2, hx207_3, hx207_4, hx207_5⟩ := at_T27 (Kd.R_reads' HO_4.out).2.2 ((rd_T27 t192 x8_1).f0) p207 q207
                                obtain rfl : ad199 = ad207 := (by injection e207)
                                replace p207 := eq_true p207
                                replace q207 := eq_true q207
                                have p208 : 0 ≤ (((rd_T27 t192 x8_1).f0) : Int) := of_decide_eq_true (by first | (with_reducible assumption) | assumption)
                                have q208 : ((rd_T27 t192 x8_1).f0) < (t192.length : Int) := of_decide_eq_true (by first | (with_reducible assumption) | assumption)
                                obtain ⟨ad208, e208, hx208_0, hx208_1, hx208_2, hx208_3, hx208_4, hx208_5⟩ := at_T27 (Kd.R_reads' HO_4.out).2.2 ((rd_T27 t192 x8_1).f0) p208 q208
                                obtain rfl : ad199 = ad208 := (by injection e208)
                                replace p208 := eq_true p208
                                replace q208 := eq_true q208
                                go_wp2
                                repeat (go_quiet (fail); try go_wp2)
                                go_ret
                                exact ⟨by first | rfl | (simp [errW_none, errW_some] <;> rfl) | (simp [*, errW_none, errW_some] <;> rfl), by repeat (first | (with_reducible first | exact HB.out | apply below_alloc | apply pw_below_drewN | apply below_drew1 | refine below_set ?_ GE200.out) | exact HB.out)⟩
                              · rw [if_neg c54] at H
                                have c54b0 : ((((rd_T27 t192 x8_1).f1) == (-1)) != (((rd_T27 t192 ((rd_T27 t192 x8_1).f0)).f3) == x8_1)) = false := by simpa using c54
                                (try (have c54b1 : decide ((((rd_T27 t192 x8_1).f1) == (-1)) = (((rd_T27 t192 ((rd_T27 t192 x8_1).f0)).f3) == x8_1)) = true := by simpa using c54))
                                (try (have c54b2 : ((((rd_T27 t192 x8_1).f1) == (-1)) == (((rd_T27 t192 ((rd_T27 t192 x8_1).f0)).f3) == x8_1)) = true := by simpa using c54))
                                clear c54
                                by_cases c56 : ((((rd_T27 t192 x8_1).f2) == (-1)) != (((rd_T27 t192 ((rd_T27 t192 x8_1).f0)).f4) == x8_1)) = true
                                · rw [if_pos c56] at H
                                  have c56b0 : ((((rd_T27 t192 x8_1).f2) == (-1)) != (((rd_T27 t192 ((rd_T27 t192 x8_1).f0)).f4) == x8_1)) = true := c56
                                  (try (have c56b1 : decide ((((rd_T27 t192 x8_1).f2) == (-1)) = (((rd_T27 t192 ((rd_T27 t192 x8_1).f0)).f4) == x8_1)) = false := by simpa using c56))
                                  (try (have c56b2 : ((((rd_T27 t192 x8_1).f2) == (-1)) == (((rd_T27 t192 ((rd_T27 t192 x8_1).f0)).f4) == x8_1)) = false := by simpa using c56))
                                  (try (have c56b3 : ¬ ((((rd_T27 t192 x8_1).f2) == (-1)) = (((rd_T27 t192 ((rd_T27 t192 x8_1).f0)).f4) == x8_1)) := by simpa using c56))
                                  clear c56
                                  obtain rfl := Option.some.inj H
                                  have hcz57_0 : wc.cell? ⟨gb200, 0, none⟩ = some (.int .i64 ((rd_T27 t192 x8_1).f0)) := (blk_cell BK200.out 0).trans rfl
                                  have hcz57_1 : wc.cell? ⟨gb200, 1, none⟩ = some (.int .i64 ((rd_T27 t192 x8_1).f1)) := (blk_cell BK200.out 1).trans rfl
                                  have hcz57_2 : wc.cell? ⟨gb200, 2, none⟩ = some (.int .i64 ((rd_T27 t192 x8_1).f2)) := (blk_cell BK200.out 2).trans rfl
                                  have hcz57_3 : wc.cell? ⟨gb200, 3, none⟩ = some (.int .i64 ((rd_T27 t192 x8_1).f3)) := (blk_cell BK200.out 3).trans rfl
                                  have hcz57_4 : wc.cell? ⟨gb200, 4, none⟩ = some (.int .i64 ((rd_T27 t192 x8_1).f4)) := (blk_cell BK200.out 4).trans rfl
                                  have hcz57_5 : wc.cell? ⟨gb200, 5, none⟩ = some (.int .i64 ((rd_T27 t192 x8_1).f5)) := (blk_cell BK200.out 5).trans rfl
                                  have hfz57_0 := blk_frozen BK200.out 0
                                  have hfz57_1 := blk_frozen BK200.out 1
                                  have hfz57_2 := blk_frozen BK200.out 2
                                  have hfz57_3 := blk_frozen BK200.out 3
                                  have hfz57_4 := blk_frozen BK200.out 4
                                  have hfz57_5 := blk_frozen BK200.out 5
                                  have p207 : 0 ≤ (((rd_T27 t192 x8_1).f0) : Int) := of_decide_eq_true (by first | (with_reducible assumption) | assumption)
                                  have q207 : ((rd_T27 t192 x8_1).f0) < (t192.length : Int) := of_decide_eq_true (by first | (with_reducible assumption) | assumption)
                                  obtain ⟨ad207, e207, hx207_0, hx207_1, hx207_2, hx207_3, hx207_4, hx207_5⟩ := at_T27 (Kd.R_reads' HO_4.out).2.2 ((rd_T27 t192 x8_1).f0) p207 q207
                                  obtain rfl : ad199 = ad207 := (by injection e207)
                                  replace p207 := eq_true p207
                                  replace q207 := eq_true q207
                                  have p208 : 0 ≤ (((rd_T27 t192 x8_1).f0) : Int) := of_decide_eq_true (by first | (with_reducible assumption) | assumption)
                                  have q208 : ((rd_T27 t192 x8_1).f0) < (t192.length : Int) := of_decide_eq_true (by first | (with_reducible assumption) | assumption)
                                  obtain ⟨ad208, e208, hx208_0, hx208_1, hx208_2, hx208_3, hx208_4, hx208_5⟩ := at_T27 (Kd.R_reads' HO_4.out).2.2 ((rd_T27 t192 x8_1).f0) p208 q208
                                  obtain rfl : ad199 = ad208 := (by injection e208)
                                  replace p208 := eq_true p208
                                  replace q208 := eq_true q208
                                  go_wp2
                                  repeat (go_quiet (fail); try go_wp2)
                                  go_ret
                                  exact ⟨by first | rfl | (simp [errW_none, errW_some] <;> rfl) | (simp [*, errW_none, errW_some] <;> rfl), by repeat (first | (with_reducible first | exact HB.out | apply below_alloc | apply pw_below_drewN | apply below_drew1 | refine below_set ?_ GE200.out) | exact HB.out)⟩
                                · rw [if_neg c56] at H
                                  have c56b0 : ((((rd_T27 t192 x8_1).f2) == (-1)) != (((rd_T27 t192 ((rd_T27 t192 x8_1).f0)).f4) == x8_1)) = false := by simpa using c56
                                  (try (have c56b1 : decide ((((rd_T27 t192 x8_1).f2) == (-1)) = (((rd_T27 t192 ((rd_T27 t192 x8_1).f0)).f4) == x8_1)) = true := by simpa using c56))
                                  (try (have c56b2 : ((((rd_T27 t192 x8_1).f2) == (-1)) == (((rd_T27 t192 ((rd_T27 t192 x8_1).f0)).f4) == x8_1)) = true := by simpa using c56))
                                  clear c56
                                  by_cases c58 : ((((rd_T27 t192 x8_1).f3) == (-1)) != (((rd_T27 t192 x8_1).f5) == 0)) = true
                                  · rw [if_pos c58] at H
                                    have c58b0 : ((((rd_T27 t192 x8_1).f3) == (-1)) != (((rd_T27 t192 x8_1).f5) == 0)) = true := c58
                                    (try (have c58b1 : decide ((((rd_T27 t192 x8_1).f3) == (-1)) = (((rd_T27 t192 x8_1).f5) == 0)) = false := by simpa using c58))
                                    (try (have c58b2 : ((((rd_T27 t192 x8_1).f3) == (-1)) == (((rd_T27 t192 x8_1).f5) == 0)) = false := by simpa using c58))
                                    (try (have c58b3 : ¬ ((((rd_T27 t192 x8_1).f3) == (-1)) = (((rd_T27 t192 x8_1).f5) == 0)) := by simpa using c58))
                                    clear c58
                                    obtain rfl := Option.some.inj H
                                    have hcz59_0 : wc.cell? ⟨gb200, 0, none⟩ = some (.int .i64 ((rd_T27 t192 x8_1).f0)) := (blk_cell BK200.out 0).trans rfl
                                    have hcz59_1 : wc.cell? ⟨gb200, 1, none⟩ = some (.int .i64 ((rd_T27 t192 x8_1).f1)) := (blk_cell BK200.out 1).trans rfl
                                    have hcz59_2 : wc.cell? ⟨gb200, 2, none⟩ = some (.int .i64 ((rd_T27 t192 x8_1).f2)) := (blk_cell BK200.out 2).trans rfl
                                    have hcz59_3 : wc.cell? ⟨gb200, 3, none⟩ = some (.int .i64 ((rd_T27 t192 x8_1).f3)) := (blk_cell BK200.out 3).trans rfl
                                    have hcz59_4 : wc.cell? ⟨gb200, 4, none⟩ = some (.int .i64 ((rd_T27 t192 x8_1).f4)) := (blk_cell BK200.out 4).trans rfl
                                    have hcz59_5 : wc.cell? ⟨gb200, 5, none⟩ = some (.int .i64 ((rd_T27 t192 x8_1).f5)) := (blk_cell BK200.out 5).trans rfl
                                    have hfz59_0 := blk_frozen BK200.out 0
                                    have hfz59_1 := blk_frozen BK200.out 1
                                    have hfz59_2 := blk_frozen BK200.out 2
                                    have hfz59_3 := blk_frozen BK200.out 3
                                    have hfz59_4 := blk_frozen BK200.out 4
                                    have hfz59_5 := blk_frozen BK200.out 5
                                    have p207 : 0 ≤ (((rd_T27 t192 x8_1).f0) : Int) := of_decide_eq_true (by first | (with_reducible assumption) | assumption)
                                    have q207 : ((rd_T27 t192 x8_1).f0) < (t192.length : Int) := of_decide_eq_true (by first | (with_reducible assumption) | assumption)
                                    obtain ⟨ad207, e207, hx207_0, hx207_1, hx207_2, hx207_3, hx207_4, hx207_5⟩ := at_T27 (Kd.R_reads' HO_4.out).2.2 ((rd_T27 t192 x8_1).f0) p207 q207
                                    obtain rfl : ad199 = ad207 := (by injection e207)
                                    replace p207 := eq_true p207
                                    replace q207 := eq_true q207
                                    have p208 : 0 ≤ (((rd_T27 t192 x8_1).f0) : Int) := of_decide_eq_true (by first | (with_reducible assumption) | assumption)
                                    have q208 : ((rd_T27 t192 x8_1).f0) < (t192.length : Int) := of_decide_eq_true (by first | (with_reducible assumption) | assumption)
                                    obtain ⟨ad208, e208, hx208_0, hx208_1, hx208_2, hx208_3, hx208_4, hx208_5⟩ := at_T27 (Kd.R_reads' HO_4.out).2.2 ((rd_T27 t192 x8_1).f0) p208 q208
                                    obtain rfl : ad199 = ad208 := (by injection e208)
                                    replace p208 := eq_true p208
                                    replace q208 := eq_true q208
                                    go_wp2
                                    repeat (go_quiet (fail); try go_wp2)
                                    go_ret
                                    exact ⟨by first | rfl | (simp [errW_none, errW_some] <;> rfl) | (simp [*, errW_none, errW_some] <;> rfl), by repeat (first | (with_reducible first | exact HB.out | apply below_alloc | apply pw_below_drewN | apply below_drew1 | refine below_set ?_ GE200.out) | exact HB.out)⟩
                                  · rw [if_neg c58] at H
                                    have c58b0 : ((((rd_T27 t192 x8_1).f3) == (-1)) != (((rd_T27 t192 x8_1).f5) == 0)) = false := by simpa using c58
                                    (try (have c58b1 : decide ((((rd_T27 t192 x8_1).f3) == (-1)) = (((rd_T27 t192 x8_1).f5) == 0)) = true := by simpa using c58))
                                    (try (have c58b2 : ((((rd_T27 t192 x8_1).f3) == (-1)) == (((rd_T27 t192 x8_1).f5) == 0)) = true := by simpa using c58))
                                    clear c58
                                    have H' := Aside0.mk H
                                    clear H
                                    have hcz60_0 : wc.cell? ⟨gb200, 0, none⟩ = some (.int .i64 ((rd_T27 t192 x8_1).f0)) := (blk_cell BK200.out 0).trans rfl
                                    have hcz60_1 : wc.cell? ⟨gb200, 1, none⟩ = some (.int .i64 ((rd_T27 t192 x8_1).f1)) := (blk_cell BK200.out 1).trans rfl
                                    have hcz60_2 : wc.cell? ⟨gb200, 2, none⟩ = some (.int .i64 ((rd_T27 t192 x8_1).f2)) := (blk_cell BK200.out 2).trans rfl
                                    have hcz60_3 : wc.cell? ⟨gb200, 3, none⟩ = some (.int .i64 ((rd_T27 t192 x8_1).f3)) := (blk_cell BK200.out 3).trans rfl
                                    have hcz60_4 : wc.cell? ⟨gb200, 4, none⟩ = some (.int .i64 ((rd_T27 t192 x8_1).f4)) := (blk_cell BK200.out 4).trans rfl
                                    have hcz60_5 : wc.cell? ⟨gb200, 5, none⟩ = some (.int .i64 ((rd_T27 t192 x8_1).f5)) := (blk_cell BK200.out 5).trans rfl
                                    have hfz60_0 := blk_frozen BK200.out 0
                                    have hfz60_1 := blk_frozen BK200.out 1
                                    have hfz60_2 := blk_frozen BK200.out 2
                                    have hfz60_3 := blk_frozen BK200.out 3
                                    have hfz60_4 := blk_frozen BK200.out 4
                                    have hfz60_5 := blk_frozen BK200.out 5
                                    have p207 : 0 ≤ (((rd_T27 t192 x8_1).f0) : Int) := of_decide_eq_true (by first | (with_reducible assumption) | assumption)
                                    have q207 : ((rd_T27 t192 x8_1).f0) < (t192.length : Int) := of_decide_eq_true (by first | (with_reducible assumption) | assumption)
                                    obtain ⟨ad207, e207, hx207_0, hx207_1, hx207_2, hx207_3, hx207_4, hx207_5⟩ := at_T27 (Kd.R_reads' HO_4.out).2.2 ((rd_T27 t192 x8_1).f0) p207 q207
                                    obtain rfl : ad199 = ad207 := (by injection e207)
                                    replace p207 := eq_true p207
                                    replace q207 := eq_true q207
                                    have p208 : 0 ≤ (((rd_T27 t192 x8_1).f0) : Int) := of_decide_eq_true (by first | (with_reducible assumption) | assumption)
                                    have q208 : ((rd_T27 t192 x8_1).f0) < (t192.length : Int) := of_decide_eq_true (by first | (with_reducible assumption) | assumption)
                                    obtain ⟨ad208, e208, hx208_0, hx208_1, hx208_2, hx208_3, hx208_4, hx208_5⟩ := at_T27 (Kd.R_reads' HO_4.out).2.2 ((rd_T27 t192 x8_1).f0) p208 q208
                                    obtain rfl : ad199 = ad208 := (by injection e208)
                                    replace p208 := eq_true p208
                                    replace q208 := eq_true q208
                                    go_wp2
                                    repeat (go_quiet (fail); try go_wp2)
                                    go_roundg kj41
                                    case measure => have := HK1.out; have := HJ12.out; have := HJ41.out; omega
                                    case rel => exact ⟨(wrap64 (x8_1 + 1)), (by first | rfl | (simp; done) | (simp [*]; done)), H', ⟨by have := HK1.out; have := HJ12.out; have := HJ41.out; omega⟩, ⟨by (with_reducible repeat (first | apply Kd.R_alloc | apply Kd.R_drewN | apply Kd.R_drew)); exact HO_3.out⟩, ⟨by (with_reducible repeat (first | apply Kd.R_alloc | apply Kd.R_drewN | apply Kd.R_drew)); exact Kd.R_mono HO_4.out (fun _ hk => trivial)⟩, ⟨by repeat (first | (with_reducible first | exact HB.out | apply below_alloc | apply pw_below_drewN | apply below_drew1 | refine below_set ?_ GE200.out) | exact HB.out)⟩⟩
                            · rw [if_neg c53] at H
                              exact absurd H (by simp)
                          · rw [if_neg c52] at H
                            exact absurd H (by simp)
                        · rw [if_neg c51] at H
                          have c51b0 : decide (0 ≤ ((rd_T27 t192 x8_1).f0)) = false := decide_eq_false c51
                          clear c51
                          by_cases c61 : ((((rd_T27 t192 x8_1).f1) == (-1)) != (t195 == x8_1)) = true
                          · rw [if_pos c61] at H
                            have c61b0 : ((((rd_T27 t192 x8_1).f1) == (-1)) != (t195 == x8_1)) = true := c61
                            (try (have c61b1 : decide ((((rd_T27 t192 x8_1).f1) == (-1)) = (t195 == x8_1)) = false := by simpa using c61))
                            (try (have c61b2 : ((((rd_T27 t192 x8_1).f1) == (-1)) == (t195 == x8_1)) = false := by simpa using c61))
                            (try (have c61b3 : ¬ ((((rd_T27 t192 x8_1).f1) == (-1)) = (t195 == x8_1)) := by simpa using c61))
                            clear c61
                            obtain rfl := Option.some.inj H
                            have hcz62_0 : wc.cell? ⟨gb200, 0, none⟩ = some (.int .i64 ((rd_T27 t192 x8_1).f0)) := (blk_cell BK200.out 0).trans rfl
                            have hcz62_1 : wc.cell? ⟨gb200, 1, none⟩ = some (.int .i64 ((rd_T27 t192 x8_1).f1)) := (blk_cell BK200.out 1).trans rfl
                            have hcz62_2 : wc.cell? ⟨gb200, 2, none⟩ = some (.int .i64 ((rd_T27 t192 x8_1).f2)) := (blk_cell BK200.out 2).trans rfl
                            have hcz62_3 : wc.cell? ⟨gb200, 3, none⟩ = some (.int .i64 ((rd_T27 t192 x8_1).f3)) := (blk_cell BK200.out 3).trans rfl
                            have hcz62_4 : wc.cell? ⟨gb200, 4, none⟩ = some (.int .i64 ((rd_T27 t192 x8_1).f4)) := (blk_cell BK200.out 4).trans rfl
                            have hcz62_5 : wc.cell? ⟨gb200, 5, none⟩ = some (.int .i64 ((rd_T27 t192 x8_1).f5)) := (blk_cell BK200.out 5).trans rfl
                            have hfz62_0 := blk_frozen BK200.out 0
                            have hfz62_1 := blk_frozen BK200.out 1
                            have hfz62_2 := blk_frozen BK200.out 2
                            have hfz62_3 := blk_frozen BK200.out 3
                            have hfz62_4 := blk_frozen BK200.out 4
                            have hfz62_5 := blk_frozen BK200.out 5
                            go_wp2
                            repeat (go_quiet (fail); try go_wp2)
                            go_ret
                            exact ⟨by first | rfl | (simp [errW_none, errW_some] <;> rfl) | (simp [*, errW_none, errW_some] <;> rfl), by repeat (first | (with_reducible first | exact HB.out | apply below_alloc | apply pw_below_drewN | apply below_drew1 | refine below_set ?_ GE200.out) | exact HB.out)⟩
                          · rw [if_neg c61] at H
                            have c61b0 : ((((rd_T27 t192 x8_1).f1) == (-1)) != (t195 == x8_1)) = false := by simpa using c61
                            (try (have c61b1 : decide ((((rd_T27 t192 x8_1).f1) == (-1)) = (t195 == x8_1)) = true := by simpa using c61))
                            (try (have c61b2 : ((((rd_T27 t192 x8_1).f1) == (-1)) == (t195 == x8_1)) = true := by simpa using c61))
                            clear c61
                            by_cases c63 : ((((rd_T27 t192 x8_1).f2) == (-1)) != (t196 == x8_1)) = true
                            · rw [if_pos c63] at H
                              have c63b0 : ((((rd_T27 t192 x8_1).f2) == (-1)) != (t196 == x8_1)) = true := c63
                              (try (have c63b1 : decide ((((rd_T27 t192 x8_1).f2) == (-1)) = (t196 == x8_1)) = false := by simpa using c63))
                              (try (have c63b2 : ((((rd_T27 t192 x8_1).f2) == (-1)) == (t196 == x8_1)) = false := by simpa using c63))
                              (try (have c63b3 : ¬ ((((rd_T27 t192 x8_1).f2) == (-1)) = (t196 == x8_1)) := by simpa using c63))
                              clear c63
                              obtain rfl := Option.some.inj H
                              have hcz64_0 : wc.cell? ⟨gb200, 0, none⟩ = some (.int .i64 ((rd_T27 t192 x8_1).f0)) := (blk_cell BK200.out 0).trans rfl
                              have hcz64_1 : wc.cell? ⟨gb200, 1, none⟩ = some (.int .i64 ((rd_T27 t192 x8_1).f1)) := (blk_cell BK200.out 1).trans rfl
                              have hcz64_2 : wc.cell? ⟨gb200, 2, none⟩ = some (.int .i64 ((rd_T27 t192 x8_1).f2)) := (blk_cell BK200.out 2).trans rfl
                              have hcz64_3 : wc.cell? ⟨gb200, 3, none⟩ = some (.int .i64 ((rd_T27 t192 x8_1).f3)) := (blk_cell BK200.out 3).trans rfl
                              have hcz64_4 : wc.cell? ⟨gb200, 4, none⟩ = some (.int .i64 ((rd_T27 t192 x8_1).f4)) := (blk_cell BK200.out 4).trans rfl
                              have hcz64_5 : wc.cell? ⟨gb200, 5, none⟩ = some (.int .i64 ((rd_T27 t192 x8_1).f5)) := (blk_cell BK200.out 5).trans rfl
                              have hfz64_0 := blk_frozen BK200.out 0
                              have hfz64_1 := blk_frozen BK200.out 1
                              have hfz64_2 := blk_frozen BK200.out 2
                              have hfz64_3 := blk_frozen BK200.out 3
                              have hfz64_4 := blk_frozen BK200.out 4
                              have hfz64_5 := blk_frozen BK200.out 5
                              go_wp2
                              repeat (go_quiet (fail); try go_wp2)
                              go_ret
                              exact ⟨by first | rfl | (simp [errW_none, errW_some] <;> rfl) | (simp [*, errW_none, errW_some] <;> rfl), by repeat (first | (with_reducible first | exact HB.out | apply below_alloc | apply pw_below_drewN | apply below_drew1 | refine below_set ?_ GE200.out) | exact HB.out)⟩
                            · rw [if_neg c63] at H
                              have c63b0 : ((((rd_T27 t192 x8_1).f2) == (-1)) != (t196 == x8_1)) = false := by simpa using c63
                              (try (have c63b1 : decide ((((rd_T27 t192 x8_1).f2) == (-1)) = (t196 == x8_1)) = true := by simpa using c63))
                              (try (have c63b2 : ((((rd_T27 t192 x8_1).f2) == (-1)) == (t196 == x8_1)) = true := by simpa using c63))
                              clear c63
                              by_cases c65 : ((((rd_T27 t192 x8_1).f3) == (-1)) != (((rd_T27 t192 x8_1).f5) == 0)) = true
                              · rw [if_pos c65] at H
                                have c65b0 : ((((rd_T27 t192 x8_1).f3) == (-1)) != (((rd_T27 t192 x8_1).f5) == 0)) = true := c65
                                (try (have c65b1 : decide ((((rd_T27 t192 x8_1).f3) == (-1)) = (((rd_T27 t192 x8_1).f5) == 0)) = false := by simpa using c65))
                                (try (have c65b2 : ((((rd_T27 t192 x8_1).f3) == (-1)) == (((rd_T27 t192 x8_1).f5) == 0)) = false := by simpa using c65))
                                (try (have c65b3 : ¬ ((((rd_T27 t192 x8_1).f3) == (-1)) = (((rd_T27 t192 x8_1).f5) == 0)) := by simpa using c65))
                                clear c65
                                obtain rfl := Option.some.inj H
                                have hcz66_0 : wc.cell? ⟨gb200, 0, none⟩ = some (.int .i64 ((rd_T27 t192 x8_1).f0)) := (blk_cell BK200.out 0).trans rfl
                                have hcz66_1 : wc.cell? ⟨gb200, 1, none⟩ = some (.int .i64 ((rd_T27 t192 x8_1).f1)) := (blk_cell BK200.out 1).trans rfl
                                have hcz66_2 : wc.cell? ⟨gb200, 2, none⟩ = some (.int .i64 ((rd_T27 t192 x8_1).f2)) := (blk_cell BK200.out 2).trans rfl
                                have hcz66_3 : wc.cell? ⟨gb200, 3, none⟩ = some (.int .i64 ((rd_T27 t192 x8_1).f3)) := (blk_cell BK200.out 3).trans rfl
                                have hcz66_4 : wc.cell? ⟨gb200, 4, none⟩ = some (.int .i64 ((rd_T27 t192 x8_1).f4)) := (blk_cell BK200.out 4).trans rfl
                                have hcz66_5 : wc.cell? ⟨gb200, 5, none⟩ = some (.int .i64 ((rd_T27 t192 x8_1).f5)) := (blk_cell BK200.out 5).trans rfl
                                have hfz66_0 := blk_frozen BK200.out 0
                                have hfz66_1 := blk_frozen BK200.out 1
                                have hfz66_2 := blk_frozen BK200.out 2
                                have hfz66_3 := blk_frozen BK200.out 3
                                have hfz66_4 := blk_frozen BK200.out 4
                                have hfz66_5 := blk_frozen BK200.out 5
                                go_wp2
                                repeat (go_quiet (fail); try go_wp2)
                                go_ret
                                exact ⟨by first | rfl | (simp [errW_none, errW_some] <;> rfl) | (simp [*, errW_none, errW_some] <;> rfl), by repeat (first | (with_reducible first | exact HB.out | apply below_alloc | apply pw_below_drewN | apply below_drew1 | refine below_set ?_ GE200.out) | exact HB.out)⟩
                              · rw [if_neg c65] at H
                                have c65b0 : ((((rd_T27 t192 x8_1).f3) == (-1)) != (((rd_T27 t192 x8_1).f5) == 0)) = false := by simpa using c65
                                (try (have c65b1 : decide ((((rd_T27 t192 x8_1).f3) == (-1)) = (((rd_T27 t192 x8_1).f5) == 0)) = true := by simpa using c65))
                                (try (have c65b2 : ((((rd_T27 t192 x8_1).f3) == (-1)) == (((rd_T27 t192 x8_1).f5) == 0)) = true := by simpa using c65))
                                clear c65
                                have H' := Aside0.mk H
                                clear H
                                have hcz67_0 : wc.cell? ⟨gb200, 0, none⟩ = some (.int .i64 ((rd_T27 t192 x8_1).f0)) := (blk_cell BK200.out 0).trans rfl
                                have hcz67_1 : wc.cell? ⟨gb200, 1, none⟩ = some (.int .i64 ((rd_T27 t192 x8_1).f1)) := (blk_cell BK200.out 1).trans rfl
                                have hcz67_2 : wc.cell? ⟨gb200, 2, none⟩ = some (.int .i64 ((rd_T27 t192 x8_1).f2)) := (blk_cell BK200.out 2).trans rfl
                                have hcz67_3 : wc.cell? ⟨gb200, 3, none⟩ = some (.int .i64 ((rd_T27 t192 x8_1).f3)) := (blk_cell BK200.out 3).trans rfl
                                have hcz67_4 : wc.cell? ⟨gb200, 4, none⟩ = some (.int .i64 ((rd_T27 t192 x8_1).f4)) := (blk_cell BK200.out 4).trans rfl
                                have hcz67_5 : wc.cell? ⟨gb200, 5, none⟩ = some (.int .i64 ((rd_T27 t192 x8_1).f5)) := (blk_cell BK200.out 5).trans rfl
                                have hfz67_0 := blk_frozen BK200.out 0
                                have hfz67_1 := blk_frozen BK200.out 1
                                have hfz67_2 := blk_frozen BK200.out 2
                                have hfz67_3 := blk_frozen BK200.out 3
                                have hfz67_4 := blk_frozen BK200.out 4
                                have hfz67_5 := blk_frozen BK200.out 5
                                go_wp2
                                repeat (go_quiet (fail); try go_wp2)
                                go_roundg kj41
                                case measure => have := HK1.out; have := HJ12.out; have := HJ41.out; omega
                                case rel => exact ⟨(wrap64 (x8_1 + 1)), (by first | rfl | (simp; done) | (simp [*]; done)), H', ⟨by have := HK1.out; have := HJ12.out; have := HJ41.out; omega⟩, ⟨by (with_reducible repeat (first | apply Kd.R_alloc | apply Kd.R_drewN | apply Kd.R_drew)); exact HO_3.out⟩, ⟨by (with_reducible repeat (first | apply Kd.R_alloc | apply Kd.R_drewN | apply Kd.R_drew)); exact Kd.R_mono HO_4.out (fun _ hk => trivial)⟩, ⟨by repeat (first | (with_reducible first | exact HB.out | apply below_alloc | apply pw_below_drewN | apply below_drew1 | refine below_set ?_ GE200.out) | exact HB.out)⟩⟩
          · rw [if_neg c12] at H
            exact absurd H (by simp)
        · rw [if_neg c11] at H
          have c11b0 : decide (x8_1 < (t192.length : Int)) = false := decide_eq_false c11
          clear c11
          replace H := Option.bind_eq_some_iff.mp H
          obtain ⟨t198, A680, H⟩ := H
          replace H : (some t198) = some r := H
          have A68 := Aside0.mk A680
          clear A680
          obtain rfl := Option.some.inj H
          go_wp2_with (first | (go_at_call 16; (with_reducible refine (colophonlaw29_wakes.calls k1  t198 _ A68.out).mono ?_); rintro e w69 ⟨rfl, hb⟩; have n0_ := Aside0.mk (Kd.R_below (by (with_reducible repeat (first | apply Kd.R_alloc | apply Kd.R_drewN | apply Kd.R_drew)); exact HO_3.out) hb); have n1_ := Aside0.mk (Kd.R_below (by (with_reducible repeat (first | apply Kd.R_alloc | apply Kd.R_drewN | apply Kd.R_drew)); exact HO_4.out) hb); have n2_ := Aside0.mk (below_step (by repeat (first | (with_reducible first | exact HB.out | apply below_alloc | apply pw_below_drewN | apply below_drew1) | exact HB.out)) hb); clear HO_3; clear HO_4; clear HB; have HO_3 := n0_; have HO_4 := n1_; have HB := n2_; clear n0_ n1_ n2_; (try clear hb); (try clear hb2); (try clear hk); (try clear hi)))
          repeat (go_quiet (first | (go_at_call 16; (with_reducible refine (colophonlaw29_wakes.calls k1  t198 _ A68.out).mono ?_); rintro e w69 ⟨rfl, hb⟩; have n0_ := Aside0.mk (Kd.R_below (by (with_reducible repeat (first | apply Kd.R_alloc | apply Kd.R_drewN | apply Kd.R_drew)); exact HO_3.out) hb); have n1_ := Aside0.mk (Kd.R_below (by (with_reducible repeat (first | apply Kd.R_alloc | apply Kd.R_drewN | apply Kd.R_drew)); exact HO_4.out) hb); have n2_ := Aside0.mk (below_step (by repeat (first | (with_reducible first | exact HB.out | apply below_alloc | apply pw_below_drewN | apply below_drew1) | exact HB.out)) hb); clear HO_3; clear HO_4; clear HB; have HO_3 := n0_; have HO_4 := n1_; have HB := n2_; clear n0_ n1_ n2_; (try clear hb); (try clear hb2); (try clear hk); (try clear hi))); try go_wp2_with (first | (go_at_call 16; (with_reducible refine (colophonlaw29_wakes.calls k1  t198 _ A68.out).mono ?_); rintro e w69 ⟨rfl, hb⟩; have n0_ := Aside0.mk (Kd.R_below (by (with_reducible repeat (first | apply Kd.R_alloc | apply Kd.R_drewN | apply Kd.R_drew)); exact HO_3.out) hb); have n1_ := Aside0.mk (Kd.R_below (by (with_reducible repeat (first | apply Kd.R_alloc | apply Kd.R_drewN | apply Kd.R_drew)); exact HO_4.out) hb); have n2_ := Aside0.mk (below_step (by repeat (first | (with_reducible first | exact HB.out | apply below_alloc | apply pw_below_drewN | apply below_drew1) | exact HB.out)) hb); clear HO_3; clear HO_4; clear HB; have HO_3 := n0_; have HO_4 := n1_; have HB := n2_; clear n0_ n1_ n2_; (try clear hb); (try clear hb2); (try clear hk); (try clear hi))))
          go_ret
          exact ⟨by first | rfl | (simp [errW_none, errW_some] <;> rfl) | (simp [*, errW_none, errW_some] <;> rfl), by repeat (first | (with_reducible first | exact HB.out | apply below_alloc | apply pw_below_drewN | apply below_drew1) | exact HB.out)⟩
  · rw [if_neg c5] at H
    have c5b0 : ((t192.length : Int) == (t189.length : Int)) = false := beq_eq_false_iff_ne.mpr c5
    have c5b1 : ((t192.length : Int) != (t189.length : Int)) = true := bne_iff_ne.mpr c5
    have c5b2 : (t192.length == t189.length) = false := by first | simpa using c5 | (simp at c5 ⊢; omega)
    obtain rfl := Option.some.inj H
    go_enter Try.func5, Try.ntmps5
    go_wp2_with (first | (go_at_call 8; (with_reducible refine (colophonkeep_Ints.calls _ _ l0 60 t189 _ ?side1 ?side2 A2.out).mono ?_); (case side1 => repeat (first | exact HR0.out | (with_reducible refine Kd.C_alloc ?_ _) | (with_reducible refine Kd.C_drewN ?_ _) | (with_reducible refine Kd.C_drew ?_))); (case side2 => exact HC0.out); rintro e w70 ⟨v190, rfl, ho0, hb⟩; have n0_ := Aside0.mk (Kd.R_lower ho0 (below_size (by repeat (first | (with_reducible first | exact HB.out | apply below_alloc | apply pw_below_drewN | apply below_drew1) | exact HB.out)))); have n1_ := Aside0.mk (below_step (by repeat (first | (with_reducible first | exact HB.out | apply below_alloc | apply pw_below_drewN | apply below_drew1) | exact HB.out)) hb); clear HB; have HO191 := n0_; have HB := n1_; clear n0_ n1_; (try clear hb); (try clear hb2); (try clear hk); (try clear hi); (try clear ho0); obtain ⟨Ao71, co71, eo71⟩ := Kd.R_slice HO191.out; subst eo71) | (go_at_call 9; (with_reducible refine (anchors_Knots.calls k _ _ t189 t192 _ ?side1 ?side2 A3.out).mono ?_); (case side1 => repeat (first | exact (Kd.R_reads' HO191.out).2.2 | (with_reducible refine Kd.C_alloc ?_ _) | (with_reducible refine Kd.C_drewN ?_ _) | (with_reducible refine Kd.C_drew ?_))); (case side2 => exact (Kd.R_reads' HO191.out).2.1); rintro e w72 ⟨v193, rfl, ho0, hb⟩; have n0_ := Aside0.mk (Kd.R_below (by (with_reducible repeat (first | apply Kd.R_alloc | apply Kd.R_drewN | apply Kd.R_drew)); exact HO191.out) hb); have n1_ := Aside0.mk (Kd.R_lower ho0 (below_size (by repeat (first | (with_reducible first | exact HB.out | apply below_alloc | apply pw_below_drewN | apply below_drew1) | exact HB.out)))); have n2_ := Aside0.mk (below_step (by repeat (first | (with_reducible first | exact HB.out | apply below_alloc | apply pw_below_drewN | apply below_drew1) | exact HB.out)) hb); clear HO191; clear HB; have HO191 := n0_; have HO194 := n1_; have HB := n2_; clear n0_ n1_ n2_; (try clear hb); (try clear hb2); (try clear hk); (try clear hi); (try clear ho0)) | (go_at_call 11; (with_reducible refine (anchors_Roots.calls k _ _ t189 t195 t196 t197 _ ?side1 ?side2 A4.out).mono ?_); (case side1 => repeat (first | exact (Kd.R_reads' HO191.out).2.2 | (with_reducible refine Kd.C_alloc ?_ _) | (with_reducible refine Kd.C_drewN ?_ _) | (with_reducible refine Kd.C_drew ?_))); (case side2 => exact (Kd.R_reads' HO191.out).2.1); rintro e w73 ⟨rfl, hb⟩; have n0_ := Aside0.mk (Kd.R_below (by (with_reducible repeat (first | apply Kd.R_alloc | apply Kd.R_drewN | apply Kd.R_drew)); exact HO191.out) hb); have n1_ := Aside0.mk (Kd.R_below (by (with_reducible repeat (first | apply Kd.R_alloc | apply Kd.R_drewN | apply Kd.R_drew)); exact HO194.out) hb); have n2_ := Aside0.mk (below_step (by repeat (first | (with_reducible first | exact HB.out | apply below_alloc | apply pw_below_drewN | apply below_drew1) | exact HB.out)) hb); clear HO191; clear HO194; clear HB; have HO191 := n0_; have HO194 := n1_; have HB := n2_; clear n0_ n1_ n2_; (try clear hb); (try clear hb2); (try clear hk); (try clear hi); obtain ⟨Ao74, co74, eo74⟩ := Kd.R_slice HO194.out; subst eo74))
    repeat (go_quiet (first | (go_at_call 8; (with_reducible refine (colophonkeep_Ints.calls _ _ l0 60 t189 _ ?side1 ?side2 A2.out).mono ?_); (case side1 => repeat (first | exact HR0.out | (with_reducible refine Kd.C_alloc ?_ _) | (with_reducible refine Kd.C_drewN ?_ _) | (with_reducible refine Kd.C_drew ?_))); (case side2 => exact HC0.out); rintro e w70 ⟨v190, rfl, ho0, hb⟩; have n0_ := Aside0.mk (Kd.R_lower ho0 (below_size (by repeat (first | (with_reducible first | exact HB.out | apply below_alloc | apply pw_below_drewN | apply below_drew1) | exact HB.out)))); have n1_ := Aside0.mk (below_step (by repeat (first | (with_reducible first | exact HB.out | apply below_alloc | apply pw_below_drewN | apply below_drew1) | exact HB.out)) hb); clear HB; have HO191 := n0_; have HB := n1_; clear n0_ n1_; (try clear hb); (try clear hb2); (try clear hk); (try clear hi); (try clear ho0); obtain ⟨Ao71, co71, eo71⟩ := Kd.R_slice HO191.out; subst eo71) | (go_at_call 9; (with_reducible refine (anchors_Knots.calls k _ _ t189 t192 _ ?side1 ?side2 A3.out).mono ?_); (case side1 => repeat (first | exact (Kd.R_reads' HO191.out).2.2 | (with_reducible refine Kd.C_alloc ?_ _) | (with_reducible refine Kd.C_drewN ?_ _) | (with_reducible refine Kd.C_drew ?_))); (case side2 => exact (Kd.R_reads' HO191.out).2.1); rintro e w72 ⟨v193, rfl, ho0, hb⟩; have n0_ := Aside0.mk (Kd.R_below (by (with_reducible repeat (first | apply Kd.R_alloc | apply Kd.R_drewN | apply Kd.R_drew)); exact HO191.out) hb); have n1_ := Aside0.mk (Kd.R_lower ho0 (below_size (by repeat (first | (with_reducible first | exact HB.out | apply below_alloc | apply pw_below_drewN | apply below_drew1) | exact HB.out)))); have n2_ := Aside0.mk (below_step (by repeat (first | (with_reducible first | exact HB.out | apply below_alloc | apply pw_below_drewN | apply below_drew1) | exact HB.out)) hb); clear HO191; clear HB; have HO191 := n0_; have HO194 := n1_; have HB := n2_; clear n0_ n1_ n2_; (try clear hb); (try clear hb2); (try clear hk); (try clear hi); (try clear ho0)) | (go_at_call 11; (with_reducible refine (anchors_Roots.calls k _ _ t189 t195 t196 t197 _ ?side1 ?side2 A4.out).mono ?_); (case side1 => repeat (first | exact (Kd.R_reads' HO191.out).2.2 | (with_reducible refine Kd.C_alloc ?_ _) | (with_reducible refine Kd.C_drewN ?_ _) | (with_reducible refine Kd.C_drew ?_))); (case side2 => exact (Kd.R_reads' HO191.out).2.1); rintro e w73 ⟨rfl, hb⟩; have n0_ := Aside0.mk (Kd.R_below (by (with_reducible repeat (first | apply Kd.R_alloc | apply Kd.R_drewN | apply Kd.R_drew)); exact HO191.out) hb); have n1_ := Aside0.mk (Kd.R_below (by (with_reducible repeat (first | apply Kd.R_alloc | apply Kd.R_drewN | apply Kd.R_drew)); exact HO194.out) hb); have n2_ := Aside0.mk (below_step (by repeat (first | (with_reducible first | exact HB.out | apply below_alloc | apply pw_below_drewN | apply below_drew1) | exact HB.out)) hb); clear HO191; clear HO194; clear HB; have HO191 := n0_; have HO194 := n1_; have HB := n2_; clear n0_ n1_ n2_; (try clear hb); (try clear hb2); (try clear hk); (try clear hi); obtain ⟨Ao74, co74, eo74⟩ := Kd.R_slice HO194.out; subst eo74)); try go_wp2_with (first | (go_at_call 8; (with_reducible refine (colophonkeep_Ints.calls _ _ l0 60 t189 _ ?side1 ?side2 A2.out).mono ?_); (case side1 => repeat (first | exact HR0.out | (with_reducible refine Kd.C_alloc ?_ _) | (with_reducible refine Kd.C_drewN ?_ _) | (with_reducible refine Kd.C_drew ?_))); (case side2 => exact HC0.out); rintro e w70 ⟨v190, rfl, ho0, hb⟩; have n0_ := Aside0.mk (Kd.R_lower ho0 (below_size (by repeat (first | (with_reducible first | exact HB.out | apply below_alloc | apply pw_below_drewN | apply below_drew1) | exact HB.out)))); have n1_ := Aside0.mk (below_step (by repeat (first | (with_reducible first | exact HB.out | apply below_alloc | apply pw_below_drewN | apply below_drew1) | exact HB.out)) hb); clear HB; have HO191 := n0_; have HB := n1_; clear n0_ n1_; (try clear hb); (try clear hb2); (try clear hk); (try clear hi); (try clear ho0); obtain ⟨Ao71, co71, eo71⟩ := Kd.R_slice HO191.out; subst eo71) | (go_at_call 9; (with_reducible refine (anchors_Knots.calls k _ _ t189 t192 _ ?side1 ?side2 A3.out).mono ?_); (case side1 => repeat (first | exact (Kd.R_reads' HO191.out).2.2 | (with_reducible refine Kd.C_alloc ?_ _) | (with_reducible refine Kd.C_drewN ?_ _) | (with_reducible refine Kd.C_drew ?_))); (case side2 => exact (Kd.R_reads' HO191.out).2.1); rintro e w72 ⟨v193, rfl, ho0, hb⟩; have n0_ := Aside0.mk (Kd.R_below (by (with_reducible repeat (first | apply Kd.R_alloc | apply Kd.R_drewN | apply Kd.R_drew)); exact HO191.out) hb); have n1_ := Aside0.mk (Kd.R_lower ho0 (below_size (by repeat (first | (with_reducible first | exact HB.out | apply below_alloc | apply pw_below_drewN | apply below_drew1) | exact HB.out)))); have n2_ := Aside0.mk (below_step (by repeat (first | (with_reducible first | exact HB.out | apply below_alloc | apply pw_below_drewN | apply below_drew1) | exact HB.out)) hb); clear HO191; clear HB; have HO191 := n0_; have HO194 := n1_; have HB := n2_; clear n0_ n1_ n2_; (try clear hb); (try clear hb2); (try clear hk); (try clear hi); (try clear ho0)) | (go_at_call 11; (with_reducible refine (anchors_Roots.calls k _ _ t189 t195 t196 t197 _ ?side1 ?side2 A4.out).mono ?_); (case side1 => repeat (first | exact (Kd.R_reads' HO191.out).2.2 | (with_reducible refine Kd.C_alloc ?_ _) | (with_reducible refine Kd.C_drewN ?_ _) | (with_reducible refine Kd.C_drew ?_))); (case side2 => exact (Kd.R_reads' HO191.out).2.1); rintro e w73 ⟨rfl, hb⟩; have n0_ := Aside0.mk (Kd.R_below (by (with_reducible repeat (first | apply Kd.R_alloc | apply Kd.R_drewN | apply Kd.R_drew)); exact HO191.out) hb); have n1_ := Aside0.mk (Kd.R_below (by (with_reducible repeat (first | apply Kd.R_alloc | apply Kd.R_drewN | apply Kd.R_drew)); exact HO194.out) hb); have n2_ := Aside0.mk (below_step (by repeat (first | (with_reducible first | exact HB.out | apply below_alloc | apply pw_below_drewN | apply below_drew1) | exact HB.out)) hb); clear HO191; clear HO194; clear HB; have HO191 := n0_; have HO194 := n1_; have HB := n2_; clear n0_ n1_ n2_; (try clear hb); (try clear hb2); (try clear hk); (try clear hi); obtain ⟨Ao74, co74, eo74⟩ := Kd.R_slice HO194.out; subst eo74)))
    go_ret
    exact ⟨by first | rfl | (simp [errW_none, errW_some] <;> rfl) | (simp [*, errW_none, errW_some] <;> rfl), by repeat (first | (with_reducible first | exact HB.out | apply below_alloc | apply pw_below_drewN | apply below_drew1) | exact HB.out)⟩

/-- THE ONE PURE STATEMENT of colophonlaw29_AnchorsBoth: yours. -/
def colophonlaw29_AnchorsBoth.Pure : Prop := ∀ (l0 : List Int), l0.length ≤ maxLen → l0.length * 8 ≤ 140737488351232 → (∀ x ∈ l0, (Lit.int .i64 x).wf = true) → ∃ k, colophonlaw29_AnchorsBoth.f k l0 = some true
theorem colophonlaw29_AnchorsBoth.walk (P : colophonlaw29_AnchorsBoth.Pure) (a0 : Option Addr) (len0 cap0 : Nat) (z0 : List Int) (w : World) (w0 : (a0 = none ∧ len0 = 0 ∧ cap0 = 0 ∧ z0 = []) ∨ ∃ x, a0 = some x ∧ len0 ≤ cap0 ∧ cap0 ≤ maxLen ∧ z0.length = cap0 ∧ (∀ i, i < z0.length → w.cell? (x.add i) = some (.int .i64 (z0.getD i 0))) ∧ ∀ n ∈ z0, (Lit.int .i64 n).wf = true) (y0 : len0 * 8 ≤ 140737488351232) :
    Calls Try.prog 5 #[.slice a0 len0 cap0] w fun e w' => e = .returned (.bool true) ∧ Below w.heap.size w w' := by
  obtain ⟨l0, rfl, hr0, hm0, hw0, hc0⟩ := ReadsInt.ofRowC w0
  obtain ⟨k, h⟩ := P l0 hm0 y0 hw0
  refine (colophonlaw29_AnchorsBoth.calls k _ _ l0 true w (Kd.C_of_reads (d := (0 : Int)) (h1 := fun _ => rfl) hr0) hc0 h).mono ?_
  rintro e w' ⟨rfl, hd⟩
  exact ⟨rfl, hd⟩

end Go.Proofs.Ytdoponngnjmkkaa.PAnchorsBoth
