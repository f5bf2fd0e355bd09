/- law21: the reference's Points, walked on the set in memory. -/
import Derived.Test.YtenhfmlkdcfbbaaDoorRefB
namespace Go.Proofs.YtenhfmlkdcfbbaaDoor.PHyphenPoints
open Go.RowKit Go.Proofs.YtenhfmlkdcfbbaaDoorW.PrintWords Go.Proofs.YtenhfmlkdcfbbaaDoorW.PrintLast Go.Proofs.YtenhfmlkdcfbbaaDoorW.PrintMore
attribute [local go_sem] max2_int min2_int max_two min_two max_three min_three max_four min_four
set_option linter.unusedVariables false
set_option linter.unusedSimpArgs false
mutual
def colophonref21_Set_Points.l0 : Nat → List (S72) → List Int → List Int → Int → Option (List Int)
 | 0, _, _, _, _ => none
 | k + 1, x0, x5, x6, x7 => if x7 < (x0.length : Int) then (if 0 ≤ x7 then (if (((rd_T72 x0 x7).f0).length : Int) = (x6.length : Int) then ((colophonref21_fits.f k x6 ((rd_T72 x0 x7).f0) 0).bind fun t285 => (if t285 = true then ((some (([] : List Int) : List Int)).bind fun y286 => (if y286.length + ((rd_T72 x0 x7).f1).length < 17592186044416 then (some (y286 ++ ((rd_T72 x0 x7).f1))) else (none))) else (colophonref21_Set_Points.l0 k x0 x5 x6 (wrap64 (x7 + 1))))) else (colophonref21_Set_Points.l0 k x0 x5 x6 (wrap64 (x7 + 1)))) else (none)) else (colophonref21_Set_Points.l1 k x5 x6 ([] : List Int) 2)
def colophonref21_Set_Points.l1 : Nat → List Int → List Int → List Int → Int → Option (List Int)
 | 0, _, _, _, _ => none
 | k + 1, x5, x6, x8, x9 => if x9 ≤ (wrap64 ((x6.length : Int) - 3)) then (if (x6.length : Int) ≥ 5 then (if 0 ≤ x9 then (if x9 < (x5.length : Int) then (if (Int.tmod (rd x5 x9) 2) = 1 then (if x8.length < 17592186044416 then (colophonref21_Set_Points.l1 k x5 x6 (x8 ++ [x9]) (wrap64 (x9 + 1))) else (none)) else (colophonref21_Set_Points.l1 k x5 x6 x8 (wrap64 (x9 + 1)))) else (none)) else (none)) else (colophonref21_Set_Points.l1 k x5 x6 x8 (wrap64 (x9 + 1)))) else (some x8)
end
def colophonref21_Set_Points.f (k : Nat) (l0 : List (S72)) (l1 : List Int) (l2 : List (S66)) : Option (List Int) := (colophonref21_Set_Levels.f k l2 l1).bind fun t277 => (if (t277.length : Int) = 0 then (some ([] : List Int)) else ((colophonref04_Lowers.f k l1).bind fun t280 => (colophonref21_Set_Points.l0 k l0 t277 t280 0)))
theorem colophonref21_Set_Points.mono_l : ∀ k, (∀ y0 y1 y2 y3, LeO (colophonref21_Set_Points.l0 k y0 y1 y2 y3) (colophonref21_Set_Points.l0 (k + 1) y0 y1 y2 y3)) ∧ (∀ y0 y1 y2 y3, LeO (colophonref21_Set_Points.l1 k y0 y1 y2 y3) (colophonref21_Set_Points.l1 (k + 1) y0 y1 y2 y3))
 | 0 => ⟨fun _ _ _ _ r h => by simp [colophonref21_Set_Points.l0] at h, fun _ _ _ _ r h => by simp [colophonref21_Set_Points.l1] at h⟩
 | k + 1 => by
  obtain ⟨ih0, ih1⟩ := colophonref21_Set_Points.mono_l k
  refine ⟨?_, ?_⟩
  ·intro y0 y1 y2 y3
   unfold colophonref21_Set_Points.l0
   repeat' first
   |(with_reducible exact ih0 _ _ _ _)
   |(with_reducible exact ih1 _ _ _ _)
   |(with_reducible exact colophonref04_Lowers.mono _ _)
   |(with_reducible exact colophonref21_Set_Levels.mono _ _ _)
   |(with_reducible exact colophonref21_fits.mono _ _ _ _)
   |(with_reducible exact LeO.refl _)
   |(with_reducible exact LeO.none _)
   |(with_reducible refine LeO.ite ?_ ?_)
   |(with_reducible refine LeO.bind ?_ (fun _ => ?_))
   | exact ih0 _ _ _ _
   | exact ih1 _ _ _ _
   | exact colophonref04_Lowers.mono _ _
   | exact colophonref21_Set_Levels.mono _ _ _
   | exact colophonref21_fits.mono _ _ _ _
   | exact LeO.none _
   | refine LeO.ite ?_ ?_
   | refine LeO.bind ?_ (fun _ => ?_)
  ·intro y0 y1 y2 y3
   unfold colophonref21_Set_Points.l1
   repeat' first
   |(with_reducible exact ih0 _ _ _ _)
   |(with_reducible exact ih1 _ _ _ _)
   |(with_reducible exact colophonref04_Lowers.mono _ _)
   |(with_reducible exact colophonref21_Set_Levels.mono _ _ _)
   |(with_reducible exact colophonref21_fits.mono _ _ _ _)
   |(with_reducible exact LeO.refl _)
   |(with_reducible exact LeO.none _)
   |(with_reducible refine LeO.ite ?_ ?_)
   |(with_reducible refine LeO.bind ?_ (fun _ => ?_))
   | exact ih0 _ _ _ _
   | exact ih1 _ _ _ _
   | exact colophonref04_Lowers.mono _ _
   | exact colophonref21_Set_Levels.mono _ _ _
   | exact colophonref21_fits.mono _ _ _ _
   | exact LeO.none _
   | refine LeO.ite ?_ ?_
   | refine LeO.bind ?_ (fun _ => ?_)
theorem colophonref21_Set_Points.mono : ∀ a0 a1 a2 k, LeO (colophonref21_Set_Points.f k a0 a1 a2) (colophonref21_Set_Points.f (k + 1) a0 a1 a2) := by
 intro a0 a1 a2 k
 obtain ⟨ih0, ih1⟩ := colophonref21_Set_Points.mono_l k
 unfold colophonref21_Set_Points.f
 repeat' first
   |(with_reducible exact ih0 _ _ _ _)
   |(with_reducible exact ih1 _ _ _ _)
   |(with_reducible exact colophonref04_Lowers.mono _ _)
   |(with_reducible exact colophonref21_Set_Levels.mono _ _ _)
   |(with_reducible exact colophonref21_fits.mono _ _ _ _)
   |(with_reducible exact LeO.refl _)
   |(with_reducible exact LeO.none _)
   |(with_reducible refine LeO.ite ?_ ?_)
   |(with_reducible refine LeO.bind ?_ (fun _ => ?_))
   | exact ih0 _ _ _ _
   | exact ih1 _ _ _ _
   | exact colophonref04_Lowers.mono _ _
   | exact colophonref21_Set_Levels.mono _ _ _
   | exact colophonref21_fits.mono _ _ _ _
   | exact LeO.none _
   | refine LeO.ite ?_ ?_
   | refine LeO.bind ?_ (fun _ => ?_)
set_option maxHeartbeats 8000000 in
set_option maxRecDepth 100000 in
theorem colophonref21_Set_Points.calls (k : Nat) (A0 : Option Addr) (c0 : Nat) (l0 : List (S72)) (A1 : Option Addr) (c1 : Nat) (l1 : List Int) (A2 : Option Addr) (c2 : Nat) (l2 : List (S66)) (r : List Int) (w : World) (hr0 : Kd.C k72 w A0 l0.length l0) (hc0 : l0.length ≤ c0) (hr1 : Kd.C (Kd.int .i64) w A1 l1.length l1) (hc1 : l1.length ≤ c1) (hr2 : Kd.C k66 w A2 l2.length l2) (hc2 : l2.length ≤ c2) (h : colophonref21_Set_Points.f k l0 l1 l2 = some r) (Rb : Nat) (hRb : w.heap[Rb]? = some (.cells #[.slice A2 l2.length c2, .slice A0 l0.length c0] 62 (0, 0))) :
  Calls Tryd.prog 20 #[.pointer (some ⟨Rb, 0, none⟩), .slice A1 l1.length c1] w fun e w' => ∃ v0_ : Value, e = .returned (v0_) ∧ Kd.R (Kd.int .i64) 3 w' w.heap.size (fun _ => True) v0_ r ∧ Below w.heap.size w w' := by
 have HR0 := Aside0.mk hr0
 have HC0 := Aside0.mk hc0
 clear hr0 hc0
 have HR1 := Aside0.mk hr1
 have HC1 := Aside0.mk hc1
 clear hr1 hc1
 have HR2 := Aside0.mk hr2
 have HC2 := Aside0.mk hc2
 clear hr2 hc2
 have HB := Aside0.mk (Below.refl w.heap.size w)
 have HRB : Aside0 (∀ W, Below w.heap.size w W → W.cell? ⟨Rb, 1, none⟩ = some (.slice A0 l0.length c0)) := ⟨fun W hb => (blk_cell ((hb.block _ (blk_lt hRb)).trans hRb) 1).trans rfl⟩
 have HRh : Aside0 (∀ W, Below w.heap.size w W → W.heap[Rb]? = some (.cells #[.slice A2 l2.length c2, .slice A0 l0.length c0] 62 (0, 0))) := ⟨fun W hb => (hb.block _ (blk_lt hRb)).trans hRb⟩
 clear hRb
 have hs0 := HRB.out w (Below.refl _ _)
 have hs1 := fun o => HRB.out _ (below_alloc (Below.refl w.heap.size w) o)
 have H : ((colophonref21_Set_Levels.f k l2 l1).bind fun t277 => (if (t277.length : Int) = 0 then (some ([] : List Int)) else ((colophonref04_Lowers.f k l1).bind fun t280 => (colophonref21_Set_Points.l0 k l0 t277 t280 0)))) = some r := h
 clear h
 replace H := Option.bind_eq_some_iff.mp H
 obtain ⟨t277, A40, H⟩ := H
 replace H : (if (t277.length : Int) = 0 then (some ([] : List Int)) else ((colophonref04_Lowers.f k l1).bind fun t280 => (colophonref21_Set_Points.l0 k l0 t277 t280 0))) = some r := H
 have A4 := Aside0.mk A40
 clear A40
 by_cases c5 : (t277.length : Int) = 0
 ·rw [if_pos c5] at H
  have c5b0 : ((t277.length : Int) == 0) = true := beq_iff_eq.mpr c5
  have c5b1 : ((t277.length : Int) != 0) = false := bne_eq_false_iff_eq.mpr c5
  clear c5
  obtain rfl := Option.some.inj H
  go_enter Tryd.func20, Tryd.ntmps20
  go_wp2_with (first | ((with_reducible refine gate_callee (f := 18) rfl ?_); refine goesL_ (some 12) rfl rfl Tryd.func18 (by kernel_rfl) rfl #[.pointer (some ⟨Rb, 0, none⟩), .slice A1 l1.length c1] rfl (by (try simp only [List.map_toArray, List.map_cons, List.map_nil]); first | done | rfl | (simp only [List.length_drop, List.length_take]; rfl)) ?_; (with_reducible refine (colophonref21_Set_Levels.calls k _ _ l2 _ _ l1 t277 _ ?side1 ?side2 ?side3 ?side4 A4.out Rb _ (HRh.out _ HB.out)).mono ?_); (case side1 => repeat (first | exact HR2.out | (with_reducible refine Kd.C_alloc ?_ _) | (with_reducible refine Kd.C_drewN ?_ _) | (with_reducible refine Kd.C_drew ?_))); (case side2 => exact HC2.out); (case side3 => repeat (first | exact HR1.out | (with_reducible refine Kd.C_alloc ?_ _) | (with_reducible refine Kd.C_drewN ?_ _) | (with_reducible refine Kd.C_drew ?_))); (case side4 => exact HC1.out); rintro e w6 ⟨v278, rfl, ho0, hb⟩; refine ⟨_, rfl, ?_⟩; have n0_ := Aside0.mk (Kd.R_lower ho0 (below_size (by repeat (first | (with_reducible first | exact HB.out | apply below_alloc | apply pw_below_drewN | apply below_drew1) | exact HB.out)))); have n1_ := Aside0.mk (below_step (by repeat (first | (with_reducible first | exact HB.out | apply below_alloc | apply pw_below_drewN | apply below_drew1) | exact HB.out)) hb); clear HB; have HO279 := n0_; have HB := n1_; have hs0 := HRB.out _ HB.out; have hs1 := fun o => HRB.out _ (below_alloc HB.out o); clear n0_ n1_; (try clear hb); (try clear hb2); (try clear hk); (try clear hi); (try clear ho0); obtain ⟨Ao7, co7, eo7⟩ := Kd.R_slice HO279.out; subst eo7))
  go_ret
  exact ⟨_, by first | rfl | (simp [errW_none, errW_some] <;> rfl) | (simp [*, errW_none, errW_some] <;> rfl), by first | exact Kd.R_nil _ _ _ _ _ | exact Kd.N_nil _ _ _ _ _ | exact Kd.V_nil _ _ _ _ _ | exact Kd.Q_nil _ _ _ _ _ | exact Kd.S_nil _ _ _ _ _, by repeat (first | (with_reducible first | exact HB.out | apply below_alloc | apply pw_below_drewN | apply below_drew1) | exact HB.out)⟩
 ·rw [if_neg c5] at H
  have c5b0 : ((t277.length : Int) == 0) = false := beq_eq_false_iff_ne.mpr c5
  have c5b1 : ((t277.length : Int) != 0) = true := bne_iff_ne.mpr c5
  have c5b2 : ¬ (t277 = []) := fun h_ => c5 (by rw [h_]; rfl)
  replace H := Option.bind_eq_some_iff.mp H
  obtain ⟨t280, A80, H⟩ := H
  replace H : (colophonref21_Set_Points.l0 k l0 t277 t280 0) = some r := H
  have A8 := Aside0.mk A80
  clear A80
  have H' := Aside0.mk H
  clear H
  go_enter Tryd.func20, Tryd.ntmps20
  go_wp2_with (first | ((with_reducible refine gate_callee (f := 18) rfl ?_); refine goesL_ (some 12) rfl rfl Tryd.func18 (by kernel_rfl) rfl #[.pointer (some ⟨Rb, 0, none⟩), .slice A1 l1.length c1] rfl (by (try simp only [List.map_toArray, List.map_cons, List.map_nil]); first | done | rfl | (simp only [List.length_drop, List.length_take]; rfl)) ?_; (with_reducible refine (colophonref21_Set_Levels.calls k _ _ l2 _ _ l1 t277 _ ?side1 ?side2 ?side3 ?side4 A4.out Rb _ (HRh.out _ HB.out)).mono ?_); (case side1 => repeat (first | exact HR2.out | (with_reducible refine Kd.C_alloc ?_ _) | (with_reducible refine Kd.C_drewN ?_ _) | (with_reducible refine Kd.C_drew ?_))); (case side2 => exact HC2.out); (case side3 => repeat (first | exact HR1.out | (with_reducible refine Kd.C_alloc ?_ _) | (with_reducible refine Kd.C_drewN ?_ _) | (with_reducible refine Kd.C_drew ?_))); (case side4 => exact HC1.out); rintro e w9 ⟨v278, rfl, ho0, hb⟩; refine ⟨_, rfl, ?_⟩; have n0_ := Aside0.mk (Kd.R_lower ho0 (below_size (by repeat (first | (with_reducible first | exact HB.out | apply below_alloc | apply pw_below_drewN | apply below_drew1) | exact HB.out)))); have n1_ := Aside0.mk (below_step (by repeat (first | (with_reducible first | exact HB.out | apply below_alloc | apply pw_below_drewN | apply below_drew1) | exact HB.out)) hb); clear HB; have HO279 := n0_; have HB := n1_; have hs0 := HRB.out _ HB.out; have hs1 := fun o => HRB.out _ (below_alloc HB.out o); clear n0_ n1_; (try clear hb); (try clear hb2); (try clear hk); (try clear hi); (try clear ho0); obtain ⟨Ao10, co10, eo10⟩ := Kd.R_slice HO279.out; subst eo10) | ((with_reducible refine gate_callee (f := 38) rfl ?_); refine goesL_ (some 17) rfl rfl Tryd.func38 (by kernel_rfl) rfl #[.slice A1 l1.length c1] rfl (by (try simp only [List.map_toArray, List.map_cons, List.map_nil]); first | done | rfl | (simp only [List.length_drop, List.length_take]; rfl)) ?_; (with_reducible refine (colophonref04_Lowers.calls k _ _ l1 t280 _ ?side1 ?side2 A8.out).mono ?_); (case side1 => repeat (first | exact (Kd.C_below HR1.out HB.out) | (with_reducible refine Kd.C_alloc ?_ _) | (with_reducible refine Kd.C_drewN ?_ _) | (with_reducible refine Kd.C_drew ?_))); (case side2 => exact HC1.out); rintro e w11 ⟨v281, rfl, ho0, hb⟩; refine ⟨_, rfl, ?_⟩; have n0_ := Aside0.mk (Kd.R_elder' (by (with_reducible repeat (first | apply Kd.R_alloc | apply Kd.R_drewN | apply Kd.R_drew)); exact HO279.out) (Kd.R_base ho0) hb); have n1_ := Aside0.mk (Kd.R_lower (Kd.R_new' ho0 (Kd.R_lt (by (with_reducible repeat (first | apply Kd.R_alloc | apply Kd.R_drewN | apply Kd.R_drew)); exact HO279.out))) (below_size (by repeat (first | (with_reducible first | exact HB.out | apply below_alloc | apply pw_below_drewN | apply below_drew1) | exact HB.out)))); have n2_ := Aside0.mk (below_step (by repeat (first | (with_reducible first | exact HB.out | apply below_alloc | apply pw_below_drewN | apply below_drew1) | exact HB.out)) hb); clear HO279; clear HB; have HO279 := n0_; have HO282 := n1_; have HB := n2_; have hs0 := HRB.out _ HB.out; have hs1 := fun o => HRB.out _ (below_alloc HB.out o); clear n0_ n1_ n2_; (try clear hb); (try clear hb2); (try clear hk); (try clear hi); (try clear ho0)))
  go_loopg [7] k (fun kq v7 w' => ∃ (x7_1 : Int), v7 = .int .i64 x7_1 ∧ Aside0 (colophonref21_Set_Points.l0 kq l0 t277 t280 x7_1 = some r) ∧ Aside0 (kq ≤ k) ∧ Aside0 (Kd.R (Kd.int .i64) 3 w' w.heap.size (fun k_ => some k_ ≠ (v281 : Value).ownBlock) (.slice Ao10 t277.length co10) t277) ∧ Aside0 (Kd.R (Kd.int .i64) 3 w' w.heap.size (fun k_ => some k_ ≠ ((.slice Ao10 t277.length co10) : Value).ownBlock) v281 t280) ∧ Aside0 (Below w.heap.size w w'))
  case atStart => exact ⟨(0), (by first | rfl | (simp; done) | (simp [*]; done)), H', ⟨Nat.le_refl _⟩, ⟨by (with_reducible repeat (first | apply Kd.R_alloc | apply Kd.R_drewN | apply Kd.R_drew)); exact Kd.R_mono HO279.out (fun _ hk => hk.2)⟩, ⟨by (with_reducible repeat (first | apply Kd.R_alloc | apply Kd.R_drewN | apply Kd.R_drew)); exact Kd.R_mono HO282.out (fun _ hk => hk.2)⟩, ⟨by repeat (first | (with_reducible first | exact HB.out | apply below_alloc | apply pw_below_drewN | apply below_drew1) | exact HB.out)⟩⟩
  case round =>
   clear H'
   obtain ⟨x7_1, rfl, HA, HK1, HO_5, HO_6, HB⟩ := hrel
   have hs0 := HRB.out _ HB.out
   have hs1 := fun o => HRB.out _ (below_alloc HB.out o)
   cases gk with
   | zero => exact absurd HA.out (by simp [colophonref21_Set_Points.l0])
   | succ k1 =>
    have H := HA.out
    clear HA
    simp only [colophonref21_Set_Points.l0] at H
    by_cases c12 : x7_1 < (l0.length : Int)
    ·rw [if_pos c12] at H
     have c12b0 : decide (x7_1 < (l0.length : Int)) = true := decide_eq_true c12
     clear c12
     by_cases c13 : 0 ≤ x7_1
     ·rw [if_pos c13] at H
      have c13b0 : decide (0 ≤ x7_1) = true := decide_eq_true c13
      clear c13
      by_cases c14 : (((rd_T72 l0 x7_1).f0).length : Int) = (t280.length : Int)
      ·rw [if_pos c14] at H
       have c14b0 : ((((rd_T72 l0 x7_1).f0).length : Int) == (t280.length : Int)) = true := beq_iff_eq.mpr c14
       have c14b1 : ((((rd_T72 l0 x7_1).f0).length : Int) != (t280.length : Int)) = false := bne_eq_false_iff_eq.mpr c14
       have c14b2 : (((rd_T72 l0 x7_1).f0).length == t280.length) = true := by first | simpa using c14 | (simp at c14 ⊢; omega)
       clear c14
       replace H := Option.bind_eq_some_iff.mp H
       obtain ⟨t285, A150, H⟩ := H
       replace H : (if t285 = true then ((some (([] : List Int) : List Int)).bind fun y286 => (if y286.length + ((rd_T72 l0 x7_1).f1).length < 17592186044416 then (some (y286 ++ ((rd_T72 l0 x7_1).f1))) else (none))) else (colophonref21_Set_Points.l0 k1 l0 t277 t280 (wrap64 (x7_1 + 1)))) = some r := H
       have A15 := Aside0.mk A150
       clear A150
       by_cases c16 : t285 = true
       ·subst c16
        have H1 : ((some (([] : List Int) : List Int)).bind fun y286 => (if y286.length + ((rd_T72 l0 x7_1).f1).length < 17592186044416 then (some (y286 ++ ((rd_T72 l0 x7_1).f1))) else (none))) = some r := by rw [if_pos rfl] at H; exact H
        clear H
        have H := H1
        clear H1
        obtain ⟨y286, hy286⟩ : ∃ y_ : List Int, y_ = (([] : List Int)) := ⟨_, rfl⟩
        replace H : (if y286.length + ((rd_T72 l0 x7_1).f1).length < 17592186044416 then (some (y286 ++ ((rd_T72 l0 x7_1).f1))) else (none)) = some r := by first | (rw [hy286]; with_reducible exact H) | (have H2_ := (Option.bind_some _ _).symm.trans H; rw [hy286]; with_reducible exact H2_) | (have H2_ := (Option.bind_some _ _).symm.trans H; with_reducible exact H2_) | with_reducible exact H | (rw [hy286]; exact H) | exact H
        have Ny286 := Aside0.mk hy286
        clear hy286
        by_cases c17 : y286.length + ((rd_T72 l0 x7_1).f1).length < 17592186044416
        ·rw [if_pos c17] at H
         have LMc17 := Aside0.mk c17
         clear c17
         obtain ⟨y290, hy290⟩ : ∃ y_ : List Int, y_ = (y286 ++ ((rd_T72 l0 x7_1).f1)) := ⟨_, rfl⟩
         replace H : (some y290) = some r := by first | (rw [hy290]; with_reducible exact H) | (have H2_ := (Option.bind_some _ _).symm.trans H; rw [hy290]; with_reducible exact H2_) | (have H2_ := (Option.bind_some _ _).symm.trans H; with_reducible exact H2_) | with_reducible exact H | (rw [hy290]; exact H) | exact H
         have Ny290 := Aside0.mk hy290
         clear hy290
         obtain rfl := Option.some.inj H
         have p283 : 0 ≤ (x7_1 : Int) := of_decide_eq_true (by first | (with_reducible assumption) | assumption)
         have q283 : x7_1 < (l0.length : Int) := of_decide_eq_true (by first | (with_reducible assumption) | assumption)
         obtain ⟨ad283, A283_0, c283_0, A283_1, c283_1, e283, hx283_0, hx283_1, hl283_0, hi283_0, hl283_1, hi283_1⟩ := at_T72 HR0.out x7_1 p283 q283
         cases e283
         replace hx283_0 := (HB.out.cell (World.block_lt_of_cell? w _ hx283_0)).trans hx283_0
         replace hx283_1 := (HB.out.cell (World.block_lt_of_cell? w _ hx283_1)).trans hx283_1
         have HR283_0 := Aside0.mk hi283_0
         have HC283_0 := Aside0.mk hl283_0
         clear hi283_0 hl283_0
         have HR283_1 := Aside0.mk hi283_1
         have HC283_1 := Aside0.mk hl283_1
         clear hi283_1 hl283_1
         replace p283 := eq_true p283
         replace q283 := eq_true q283
         obtain ⟨Ao18, co18, eo18⟩ := Kd.R_slice HO_6.out
         subst eo18
         have p284 : 0 ≤ (x7_1 : Int) := of_decide_eq_true (by first | (with_reducible assumption) | assumption)
         have q284 : x7_1 < (l0.length : Int) := of_decide_eq_true (by first | (with_reducible assumption) | assumption)
         obtain ⟨ad284, A284_0, c284_0, A284_1, c284_1, e284, hx284_0, hx284_1, hl284_0, hi284_0, hl284_1, hi284_1⟩ := at_T72 HR0.out x7_1 p284 q284
         obtain rfl : ad283 = ad284 := (by injection e284)
         replace hx284_0 := (HB.out.cell (World.block_lt_of_cell? w _ hx284_0)).trans hx284_0
         replace hx284_1 := (HB.out.cell (World.block_lt_of_cell? w _ hx284_1)).trans hx284_1
         have HR284_0 := Aside0.mk hi284_0
         have HC284_0 := Aside0.mk hl284_0
         clear hi284_0 hl284_0
         have HR284_1 := Aside0.mk hi284_1
         have HC284_1 := Aside0.mk hl284_1
         clear hi284_1 hl284_1
         replace p284 := eq_true p284
         replace q284 := eq_true q284
         have ea_ := Option.some.inj (hx283_0.symm.trans hx284_0)
         injection ea_ with ea_ en_ ec_
         subst ea_
         subst ec_
         clear en_
         have ea_ := Option.some.inj (hx283_1.symm.trans hx284_1)
         injection ea_ with ea_ en_ ec_
         subst ea_
         subst ec_
         clear en_
         go_wp2_with (first | (go_at_call 34; (with_reducible refine (colophonref21_fits.calls k1 _ _ t280 _ _ ((rd_T72 l0 x7_1).f0) 0 true _ ?side1 ?side2 ?side3 ?side4 A15.out).mono ?_); (case side1 => repeat (first | exact (Kd.R_reads' HO_6.out).2.2 | (with_reducible refine Kd.C_alloc ?_ _) | (with_reducible refine Kd.C_drewN ?_ _) | (with_reducible refine Kd.C_drew ?_))); (case side2 => exact (Kd.R_reads' HO_6.out).2.1); (case side3 => repeat (first | exact (Kd.C_below HR284_0.out HB.out) | (with_reducible refine Kd.C_alloc ?_ _) | (with_reducible refine Kd.C_drewN ?_ _) | (with_reducible refine Kd.C_drew ?_))); (case side4 => exact HC284_0.out); rintro e w' ⟨rfl, ⟨nd, rfl⟩⟩) | ((with_reducible refine gate_dst (N := 51) rfl ?_); refine Kd.R_lit (Kd.int .i64) _ 3 ?hg (N := 51) ?hd (xs := ([] : List Int)) (inner := []) (ok := fun _ => True) (okp := fun _ => True) ?hr ?hp (fun _ hk => hk) trivial (Below.refl _ _) (Nat.le_refl _) (by simp) ?_; (case hd => rfl); (case hg => rfl); (case hr => first | (go_simp; done) | (go_simp; rfl)); (case hp => exact (Reps.none _ _)); intro v287 w19 ho20 hb hg_ hnew_; clear hg_ hnew_; (first | rw [← Ny286.out] at ho20 | (simp only [Int.reduceToNat] at ho20; rw [← Ny286.out] at ho20)); have n0_ := Aside0.mk (Kd.R_elder' (by (with_reducible repeat (first | apply Kd.R_alloc | apply Kd.R_drewN | apply Kd.R_drew)); exact HO_5.out) (Kd.R_base ho20) hb); have n1_ := Aside0.mk (Kd.R_elder' (by (with_reducible repeat (first | apply Kd.R_alloc | apply Kd.R_drewN | apply Kd.R_drew)); exact HO_6.out) (Kd.R_base ho20) hb); have n2_ := Aside0.mk (Kd.R_lower (Kd.R_new' (Kd.R_new' ho20 (Kd.R_lt (by (with_reducible repeat (first | apply Kd.R_alloc | apply Kd.R_drewN | apply Kd.R_drew)); exact HO_5.out))) (Kd.R_lt (by (with_reducible repeat (first | apply Kd.R_alloc | apply Kd.R_drewN | apply Kd.R_drew)); exact HO_6.out))) (below_size (by repeat (first | (with_reducible first | exact HB.out | apply below_alloc | apply pw_below_drewN | apply below_drew1) | exact HB.out)))); have n3_ := Aside0.mk (below_step (by repeat (first | (with_reducible first | exact HB.out | apply below_alloc | apply pw_below_drewN | apply below_drew1) | exact HB.out)) hb); clear HO_5; clear HO_6; clear HB; have HO_5 := n0_; have HO_6 := n1_; have HO288 := n2_; have HB := n3_; have hs0 := HRB.out _ HB.out; have hs1 := fun o => HRB.out _ (below_alloc HB.out o); clear n0_ n1_ n2_ n3_; clear hb ho20; have p289 : 0 ≤ (x7_1 : Int) := of_decide_eq_true (by first | (with_reducible assumption) | assumption); have q289 : x7_1 < (l0.length : Int) := of_decide_eq_true (by first | (with_reducible assumption) | assumption); obtain ⟨ad289, A289_0, c289_0, A289_1, c289_1, e289, hx289_0, hx289_1, hl289_0, hi289_0, hl289_1, hi289_1⟩ := at_T72 HR0.out x7_1 p289 q289; obtain rfl : ad283 = ad289 := (by injection e289); replace hx289_0 := (HB.out.cell (World.block_lt_of_cell? w _ hx289_0)).trans hx289_0; replace hx289_1 := (HB.out.cell (World.block_lt_of_cell? w _ hx289_1)).trans hx289_1; have HR289_0 := Aside0.mk hi289_0; have HC289_0 := Aside0.mk hl289_0; clear hi289_0 hl289_0; have HR289_1 := Aside0.mk hi289_1; have HC289_1 := Aside0.mk hl289_1; clear hi289_1 hl289_1; replace p289 := eq_true p289; replace q289 := eq_true q289) | ((with_reducible refine gate_builtin (b := .append) (xs := #[.tmp 51, .tmp 59]) rfl ?_); at_builtin; refine Kd.R_append_rows (Kd.int .i64) (w0 := w) w.heap.size rfl (.tmp 51) (.tmp 59) 22 3 (.int .i64 0) 8 rfl Tryd.underlying22 info3 rfl (by decide) (by omega) v287 y286 ((rd_T72 l0 x7_1).f1) _ _ _ (fun k_ => some k_ ≠ (.slice Ao10 t277.length co10 : Value).ownBlock ∧ some k_ ≠ (.slice Ao18 t280.length co18 : Value).ownBlock) (fun _ => False) rfl rfl ?aO ?aR (fun _ _ h => h) (fun _ h => h.elim) ?aF ?aB ?aS ?aL ?_; (case aR => repeat (first | exact (Kd.C_below HR289_1.out HB.out) | (with_reducible refine Kd.C_alloc ?_ _) | (with_reducible refine Kd.C_drewN ?_ _) | (with_reducible refine Kd.C_drew ?_))); (case aB => exact (by repeat (first | (with_reducible first | exact HB.out | apply below_alloc | apply pw_below_drewN | apply below_drew1) | exact HB.out))); (case aF => exact (fun k_ hk => ⟨Kd.fresh' (Kd.R_lt (by (with_reducible repeat (first | apply Kd.R_alloc | apply Kd.R_drewN | apply Kd.R_drew)); exact HO_5.out)) k_ hk, Kd.fresh' (Kd.R_lt (by (with_reducible repeat (first | apply Kd.R_alloc | apply Kd.R_drewN | apply Kd.R_drew)); exact HO_6.out)) k_ hk⟩)); (case aO => exact (by (with_reducible repeat (first | apply Kd.R_alloc | apply Kd.R_drewN | apply Kd.R_drew)); exact Kd.R_mono HO288.out (fun _ hk => ⟨hk.1.2, hk.2⟩))); (case aS => exact (below_size (by repeat (first | (with_reducible first | exact HB.out | apply below_alloc | apply pw_below_drewN | apply below_drew1) | exact HB.out)))); (case aL => have := LMc17.out; omega); intro v291 w21 ho hb hg hat; rw [← Ny290.out] at ho; have n0_ := Aside0.mk (Kd.R_after (ok := (fun k_ => some k_ ≠ (.slice Ao18 t280.length co18 : Value).ownBlock)) (by (with_reducible repeat (first | apply Kd.R_alloc | apply Kd.R_drewN | apply Kd.R_drew)); exact HO_5.out) hg hat); have n1_ := Aside0.mk (Kd.R_after (ok := (fun k_ => some k_ ≠ (.slice Ao10 t277.length co10 : Value).ownBlock)) (by (with_reducible repeat (first | apply Kd.R_alloc | apply Kd.R_drewN | apply Kd.R_drew)); exact HO_6.out) hg hat); have n2_ := Aside0.mk (hb); have n3_ := Aside0.mk (ho); clear HO_5; clear HO_6; clear HB; clear HO288; have HO_5 := n0_; have HO_6 := n1_; have HB := n2_; have hs0 := HRB.out _ HB.out; have hs1 := fun o => HRB.out _ (below_alloc HB.out o); have HO292 := n3_; clear n0_ n1_ n2_ n3_; clear ho hb hg hat))
         go_ret
         exact ⟨_, by first | rfl | (simp [errW_none, errW_some] <;> rfl) | (simp [*, errW_none, errW_some] <;> rfl), by (with_reducible repeat (first | apply Kd.R_alloc | apply Kd.R_drewN | apply Kd.R_drew)); exact Kd.R_mono HO292.out (fun _ hk => trivial), by repeat (first | (with_reducible first | exact HB.out | apply below_alloc | apply pw_below_drewN | apply below_drew1) | exact HB.out)⟩
        ·rw [if_neg c17] at H
         exact absurd H (by simp)
       ·replace c16 := Bool.eq_false_iff.mpr c16
        subst c16
        have H1 : (colophonref21_Set_Points.l0 k1 l0 t277 t280 (wrap64 (x7_1 + 1))) = some r := by rw [if_neg (show ¬ (false = true) by decide)] at H; exact H
        clear H
        have H := H1
        clear H1
        have H' := Aside0.mk H
        clear H
        have p283 : 0 ≤ (x7_1 : Int) := of_decide_eq_true (by first | (with_reducible assumption) | assumption)
        have q283 : x7_1 < (l0.length : Int) := of_decide_eq_true (by first | (with_reducible assumption) | assumption)
        obtain ⟨ad283, A283_0, c283_0, A283_1, c283_1, e283, hx283_0, hx283_1, hl283_0, hi283_0, hl283_1, hi283_1⟩ := at_T72 HR0.out x7_1 p283 q283
        cases e283
        replace hx283_0 := (HB.out.cell (World.block_lt_of_cell? w _ hx283_0)).trans hx283_0
        replace hx283_1 := (HB.out.cell (World.block_lt_of_cell? w _ hx283_1)).trans hx283_1
        have HR283_0 := Aside0.mk hi283_0
        have HC283_0 := Aside0.mk hl283_0
        clear hi283_0 hl283_0
        have HR283_1 := Aside0.mk hi283_1
        have HC283_1 := Aside0.mk hl283_1
        clear hi283_1 hl283_1
        replace p283 := eq_true p283
        replace q283 := eq_true q283
        obtain ⟨Ao22, co22, eo22⟩ := Kd.R_slice HO_6.out
        subst eo22
        have p284 : 0 ≤ (x7_1 : Int) := of_decide_eq_true (by first | (with_reducible assumption) | assumption)
        have q284 : x7_1 < (l0.length : Int) := of_decide_eq_true (by first | (with_reducible assumption) | assumption)
        obtain ⟨ad284, A284_0, c284_0, A284_1, c284_1, e284, hx284_0, hx284_1, hl284_0, hi284_0, hl284_1, hi284_1⟩ := at_T72 HR0.out x7_1 p284 q284
        obtain rfl : ad283 = ad284 := (by injection e284)
        replace hx284_0 := (HB.out.cell (World.block_lt_of_cell? w _ hx284_0)).trans hx284_0
        replace hx284_1 := (HB.out.cell (World.block_lt_of_cell? w _ hx284_1)).trans hx284_1
        have HR284_0 := Aside0.mk hi284_0
        have HC284_0 := Aside0.mk hl284_0
        clear hi284_0 hl284_0
        have HR284_1 := Aside0.mk hi284_1
        have HC284_1 := Aside0.mk hl284_1
        clear hi284_1 hl284_1
        replace p284 := eq_true p284
        replace q284 := eq_true q284
        have ea_ := Option.some.inj (hx283_0.symm.trans hx284_0)
        injection ea_ with ea_ en_ ec_
        subst ea_
        subst ec_
        clear en_
        have ea_ := Option.some.inj (hx283_1.symm.trans hx284_1)
        injection ea_ with ea_ en_ ec_
        subst ea_
        subst ec_
        clear en_
        go_wp2_with (first | (go_at_call 34; (with_reducible refine (colophonref21_fits.calls k1 _ _ t280 _ _ ((rd_T72 l0 x7_1).f0) 0 false _ ?side1 ?side2 ?side3 ?side4 A15.out).mono ?_); (case side1 => repeat (first | exact (Kd.R_reads' HO_6.out).2.2 | (with_reducible refine Kd.C_alloc ?_ _) | (with_reducible refine Kd.C_drewN ?_ _) | (with_reducible refine Kd.C_drew ?_))); (case side2 => exact (Kd.R_reads' HO_6.out).2.1); (case side3 => repeat (first | exact (Kd.C_below HR284_0.out HB.out) | (with_reducible refine Kd.C_alloc ?_ _) | (with_reducible refine Kd.C_drewN ?_ _) | (with_reducible refine Kd.C_drew ?_))); (case side4 => exact HC284_0.out); rintro e w' ⟨rfl, ⟨nd, rfl⟩⟩))
        go_roundg k1
        case measure => have := HK1.out; omega
        case rel => exact ⟨(wrap64 (x7_1 + 1)), (by first | rfl | (simp; done) | (simp [*]; done)), H', ⟨by have := HK1.out; omega⟩, ⟨by (with_reducible repeat (first | apply Kd.R_alloc | apply Kd.R_drewN | apply Kd.R_drew)); exact HO_5.out⟩, ⟨by (with_reducible repeat (first | apply Kd.R_alloc | apply Kd.R_drewN | apply Kd.R_drew)); exact HO_6.out⟩, ⟨by repeat (first | (with_reducible first | exact HB.out | apply below_alloc | apply pw_below_drewN | apply below_drew1) | exact HB.out)⟩⟩
      ·rw [if_neg c14] at H
       have c14b0 : ((((rd_T72 l0 x7_1).f0).length : Int) == (t280.length : Int)) = false := beq_eq_false_iff_ne.mpr c14
       have c14b1 : ((((rd_T72 l0 x7_1).f0).length : Int) != (t280.length : Int)) = true := bne_iff_ne.mpr c14
       have c14b2 : (((rd_T72 l0 x7_1).f0).length == t280.length) = false := by first | simpa using c14 | (simp at c14 ⊢; omega)
       have H' := Aside0.mk H
       clear H
       have p283 : 0 ≤ (x7_1 : Int) := of_decide_eq_true (by first | (with_reducible assumption) | assumption)
       have q283 : x7_1 < (l0.length : Int) := of_decide_eq_true (by first | (with_reducible assumption) | assumption)
       obtain ⟨ad283, A283_0, c283_0, A283_1, c283_1, e283, hx283_0, hx283_1, hl283_0, hi283_0, hl283_1, hi283_1⟩ := at_T72 HR0.out x7_1 p283 q283
       cases e283
       replace hx283_0 := (HB.out.cell (World.block_lt_of_cell? w _ hx283_0)).trans hx283_0
       replace hx283_1 := (HB.out.cell (World.block_lt_of_cell? w _ hx283_1)).trans hx283_1
       have HR283_0 := Aside0.mk hi283_0
       have HC283_0 := Aside0.mk hl283_0
       clear hi283_0 hl283_0
       have HR283_1 := Aside0.mk hi283_1
       have HC283_1 := Aside0.mk hl283_1
       clear hi283_1 hl283_1
       replace p283 := eq_true p283
       replace q283 := eq_true q283
       obtain ⟨Ao23, co23, eo23⟩ := Kd.R_slice HO_6.out
       subst eo23
       go_wp2
       go_roundg k1
       case measure => have := HK1.out; omega
       case rel => exact ⟨(wrap64 (x7_1 + 1)), (by first | rfl | (simp; done) | (simp [*]; done)), H', ⟨by have := HK1.out; omega⟩, ⟨by (with_reducible repeat (first | apply Kd.R_alloc | apply Kd.R_drewN | apply Kd.R_drew)); exact HO_5.out⟩, ⟨by (with_reducible repeat (first | apply Kd.R_alloc | apply Kd.R_drewN | apply Kd.R_drew)); exact HO_6.out⟩, ⟨by repeat (first | (with_reducible first | exact HB.out | apply below_alloc | apply pw_below_drewN | apply below_drew1) | exact HB.out)⟩⟩
     ·rw [if_neg c13] at H
      exact absurd H (by simp)
    ·rw [if_neg c12] at H
     have c12b0 : decide (x7_1 < (l0.length : Int)) = false := decide_eq_false c12
     clear c12
     have H' := Aside0.mk H
     clear H
     go_wp2
     go_loopg [8, 9] k1 (fun kq v8 v9 w' => ∃ (x8_2 : List Int) (x9_2 : Int), v9 = .int .i64 x9_2 ∧ Aside0 (colophonref21_Set_Points.l1 kq t277 t280 x8_2 x9_2 = some r) ∧ Aside0 (kq ≤ k1) ∧ Aside0 (Kd.R (Kd.int .i64) 3 w' w.heap.size (fun k_ => some k_ ≠ (v281 : Value).ownBlock ∧ some k_ ≠ (v8 : Value).ownBlock) (.slice Ao10 t277.length co10) t277) ∧ Aside0 (Kd.R (Kd.int .i64) 3 w' w.heap.size (fun k_ => some k_ ≠ ((.slice Ao10 t277.length co10) : Value).ownBlock ∧ some k_ ≠ (v8 : Value).ownBlock) v281 t280) ∧ Aside0 (Kd.R (Kd.int .i64) 3 w' w.heap.size (fun k_ => some k_ ≠ ((.slice Ao10 t277.length co10) : Value).ownBlock ∧ some k_ ≠ (v281 : Value).ownBlock) v8 x8_2) ∧ Aside0 (Below w.heap.size w w'))
     case atStart => exact ⟨(([] : List Int)), (2), (by first | rfl | (simp; done) | (simp [*]; done)), H', ⟨Nat.le_refl _⟩, ⟨by (with_reducible repeat (first | apply Kd.R_alloc | apply Kd.R_drewN | apply Kd.R_drew)); exact Kd.R_mono HO_5.out (fun _ hk => ⟨hk, (by simp [Value.ownBlock])⟩)⟩, ⟨by (with_reducible repeat (first | apply Kd.R_alloc | apply Kd.R_drewN | apply Kd.R_drew)); exact Kd.R_mono HO_6.out (fun _ hk => ⟨hk, (by simp [Value.ownBlock])⟩)⟩, ⟨by first | exact Kd.R_nil _ _ _ _ _ | exact Kd.N_nil _ _ _ _ _ | exact Kd.V_nil _ _ _ _ _ | exact Kd.Q_nil _ _ _ _ _ | exact Kd.S_nil _ _ _ _ _⟩, ⟨by repeat (first | (with_reducible first | exact HB.out | apply below_alloc | apply pw_below_drewN | apply below_drew1) | exact HB.out)⟩⟩
     case round =>
      clear H'
      obtain ⟨x8_2, x9_2, rfl, HA, HK2, HO_5, HO_6, HO_8, HB⟩ := hrel
      have hs0 := HRB.out _ HB.out
      have hs1 := fun o => HRB.out _ (below_alloc HB.out o)
      cases gk with
      | zero => exact absurd HA.out (by simp [colophonref21_Set_Points.l1])
      | succ k2 =>
       have H := HA.out
       clear HA
       simp only [colophonref21_Set_Points.l1] at H
       by_cases c24 : x9_2 ≤ (wrap64 ((t280.length : Int) - 3))
       ·rw [if_pos c24] at H
        have c24b0 : decide (x9_2 ≤ (wrap64 ((t280.length : Int) - 3))) = true := decide_eq_true c24
        clear c24
        by_cases c25 : (t280.length : Int) ≥ 5
        ·rw [if_pos c25] at H
         have c25b0 : decide (5 ≤ (t280.length : Int)) = true := decide_eq_true c25
         have c25b1 : decide (5 ≤ t280.length) = true := decide_eq_true (by omega)
         clear c25
         by_cases c26 : 0 ≤ x9_2
         ·rw [if_pos c26] at H
          have c26b0 : decide (0 ≤ x9_2) = true := decide_eq_true c26
          clear c26
          by_cases c27 : x9_2 < (t277.length : Int)
          ·rw [if_pos c27] at H
           have c27b0 : decide (x9_2 < (t277.length : Int)) = true := decide_eq_true c27
           clear c27
           by_cases c28 : (Int.tmod (rd t277 x9_2) 2) = 1
           ·rw [if_pos c28] at H
            have c28b0 : ((Int.tmod (rd t277 x9_2) 2) == 1) = true := beq_iff_eq.mpr c28
            have c28b1 : ((Int.tmod (rd t277 x9_2) 2) != 1) = false := bne_eq_false_iff_eq.mpr c28
            clear c28
            by_cases c29 : x8_2.length < 17592186044416
            ·rw [if_pos c29] at H
             have LMc29 := Aside0.mk c29
             clear c29
             obtain ⟨y294, hy294⟩ : ∃ y_ : List Int, y_ = (x8_2 ++ [x9_2]) := ⟨_, rfl⟩
             replace H : (colophonref21_Set_Points.l1 k2 t277 t280 y294 (wrap64 (x9_2 + 1))) = some r := by first | (rw [hy294]; with_reducible exact H) | (have H2_ := (Option.bind_some _ _).symm.trans H; rw [hy294]; with_reducible exact H2_) | (have H2_ := (Option.bind_some _ _).symm.trans H; with_reducible exact H2_) | with_reducible exact H | (rw [hy294]; exact H) | exact H
             have Ny294 := Aside0.mk hy294
             clear hy294
             have H' := Aside0.mk H
             clear H
             obtain ⟨Ao30, co30, eo30⟩ := Kd.R_slice HO_6.out
             subst eo30
             have p293 : 0 ≤ (x9_2 : Int) := of_decide_eq_true (by first | (with_reducible assumption) | assumption)
             have q293 : x9_2 < (t277.length : Int) := of_decide_eq_true (by first | (with_reducible assumption) | assumption)
             obtain ⟨ad293, e293, hx293_0⟩ := Kd.at_int (Kd.R_reads' HO_5.out).2.2 x9_2 p293 q293
             cases e293
             replace p293 := eq_true p293
             replace q293 := eq_true q293
             go_wp2_with (first | ((with_reducible refine gate_builtin (b := .append) (xs := #[.tmp 79, .tmp 81]) rfl ?_); at_builtin; refine Kd.R_append (Kd.int .i64) (w0 := w) w.heap.size rfl (.tmp 79) (.tmp 81) 22 3 (.int .i64 0) 8 rfl Tryd.underlying22 info3 rfl (by decide) (by omega) u8 x8_2 x9_2 [.int .i64 x9_2] (fun k_ => some k_ ≠ (.slice (some ad293) t277.length co10 : Value).ownBlock ∧ some k_ ≠ (.slice Ao30 t280.length co30 : Value).ownBlock) (fun _ => False) rfl rfl ?aP (fun _ hk => hk.elim) ?aF ?aO ?aB ?aS ?aL ?_; (case aP => exact rfl); (case aB => exact (by repeat (first | (with_reducible first | exact HB.out | apply below_alloc | apply pw_below_drewN | apply below_drew1) | exact HB.out))); (case aF => exact (fun k_ hk => ⟨Kd.fresh' (Kd.R_lt (by (with_reducible repeat (first | apply Kd.R_alloc | apply Kd.R_drewN | apply Kd.R_drew)); exact HO_5.out)) k_ hk, Kd.fresh' (Kd.R_lt (by (with_reducible repeat (first | apply Kd.R_alloc | apply Kd.R_drewN | apply Kd.R_drew)); exact HO_6.out)) k_ hk⟩)); (case aO => exact (by (with_reducible repeat (first | apply Kd.R_alloc | apply Kd.R_drewN | apply Kd.R_drew)); exact HO_8.out)); (case aS => exact (below_size (by repeat (first | (with_reducible first | exact HB.out | apply below_alloc | apply pw_below_drewN | apply below_drew1) | exact HB.out)))); (case aL => have := LMc29.out; omega); intro v295 w31 ho hb hg hat; rw [← Ny294.out] at ho; have n0_ := Aside0.mk (Kd.R_after (ok := (fun k_ => some k_ ≠ (.slice Ao30 t280.length co30 : Value).ownBlock)) (by (with_reducible repeat (first | apply Kd.R_alloc | apply Kd.R_drewN | apply Kd.R_drew)); exact HO_5.out) hg hat); have n1_ := Aside0.mk (Kd.R_after (ok := (fun k_ => some k_ ≠ (.slice (some ad293) t277.length co10 : Value).ownBlock)) (by (with_reducible repeat (first | apply Kd.R_alloc | apply Kd.R_drewN | apply Kd.R_drew)); exact HO_6.out) hg hat); have n2_ := Aside0.mk (hb); have n3_ := Aside0.mk (ho); clear HO_5; clear HO_6; clear HB; clear HO_8; have HO_5 := n0_; have HO_6 := n1_; have HB := n2_; have hs0 := HRB.out _ HB.out; have hs1 := fun o => HRB.out _ (below_alloc HB.out o); have HO296 := n3_; clear n0_ n1_ n2_ n3_; clear ho hb hg hat))
             go_roundg k2
             case measure => have := HK1.out; have := HK2.out; omega
             case rel => exact ⟨(y294), (wrap64 (x9_2 + 1)), (by first | rfl | (simp; done) | (simp [*]; done)), H', ⟨by have := HK1.out; have := HK2.out; omega⟩, ⟨by (with_reducible repeat (first | apply Kd.R_alloc | apply Kd.R_drewN | apply Kd.R_drew)); exact HO_5.out⟩, ⟨by (with_reducible repeat (first | apply Kd.R_alloc | apply Kd.R_drewN | apply Kd.R_drew)); exact HO_6.out⟩, ⟨by (with_reducible repeat (first | apply Kd.R_alloc | apply Kd.R_drewN | apply Kd.R_drew)); exact HO296.out⟩, ⟨by repeat (first | (with_reducible first | exact HB.out | apply below_alloc | apply pw_below_drewN | apply below_drew1) | exact HB.out)⟩⟩
            ·rw [if_neg c29] at H
             exact absurd H (by simp)
           ·rw [if_neg c28] at H
            have c28b0 : ((Int.tmod (rd t277 x9_2) 2) == 1) = false := beq_eq_false_iff_ne.mpr c28
            have c28b1 : ((Int.tmod (rd t277 x9_2) 2) != 1) = true := bne_iff_ne.mpr c28
            have H' := Aside0.mk H
            clear H
            obtain ⟨Ao32, co32, eo32⟩ := Kd.R_slice HO_6.out
            subst eo32
            have p293 : 0 ≤ (x9_2 : Int) := of_decide_eq_true (by first | (with_reducible assumption) | assumption)
            have q293 : x9_2 < (t277.length : Int) := of_decide_eq_true (by first | (with_reducible assumption) | assumption)
            obtain ⟨ad293, e293, hx293_0⟩ := Kd.at_int (Kd.R_reads' HO_5.out).2.2 x9_2 p293 q293
            cases e293
            replace p293 := eq_true p293
            replace q293 := eq_true q293
            go_wp2
            go_roundg k2
            case measure => have := HK1.out; have := HK2.out; omega
            case rel => exact ⟨(x8_2), (wrap64 (x9_2 + 1)), (by first | rfl | (simp; done) | (simp [*]; done)), H', ⟨by have := HK1.out; have := HK2.out; omega⟩, ⟨by (with_reducible repeat (first | apply Kd.R_alloc | apply Kd.R_drewN | apply Kd.R_drew)); exact HO_5.out⟩, ⟨by (with_reducible repeat (first | apply Kd.R_alloc | apply Kd.R_drewN | apply Kd.R_drew)); exact HO_6.out⟩, ⟨by (with_reducible repeat (first | apply Kd.R_alloc | apply Kd.R_drewN | apply Kd.R_drew)); exact HO_8.out⟩, ⟨by repeat (first | (with_reducible first | exact HB.out | apply below_alloc | apply pw_below_drewN | apply below_drew1) | exact HB.out)⟩⟩
          ·rw [if_neg c27] at H
           exact absurd H (by simp)
         ·rw [if_neg c26] at H
          exact absurd H (by simp)
        ·rw [if_neg c25] at H
         have c25b0 : decide (5 ≤ (t280.length : Int)) = false := decide_eq_false c25
         have c25b1 : decide (5 ≤ t280.length) = false := decide_eq_false (by omega)
         clear c25
         have H' := Aside0.mk H
         clear H
         obtain ⟨Ao33, co33, eo33⟩ := Kd.R_slice HO_6.out
         subst eo33
         go_wp2
         go_roundg k2
         case measure => have := HK1.out; have := HK2.out; omega
         case rel => exact ⟨(x8_2), (wrap64 (x9_2 + 1)), (by first | rfl | (simp; done) | (simp [*]; done)), H', ⟨by have := HK1.out; have := HK2.out; omega⟩, ⟨by (with_reducible repeat (first | apply Kd.R_alloc | apply Kd.R_drewN | apply Kd.R_drew)); exact HO_5.out⟩, ⟨by (with_reducible repeat (first | apply Kd.R_alloc | apply Kd.R_drewN | apply Kd.R_drew)); exact HO_6.out⟩, ⟨by (with_reducible repeat (first | apply Kd.R_alloc | apply Kd.R_drewN | apply Kd.R_drew)); exact HO_8.out⟩, ⟨by repeat (first | (with_reducible first | exact HB.out | apply below_alloc | apply pw_below_drewN | apply below_drew1) | exact HB.out)⟩⟩
       ·rw [if_neg c24] at H
        have c24b0 : decide (x9_2 ≤ (wrap64 ((t280.length : Int) - 3))) = false := decide_eq_false c24
        clear c24
        obtain rfl := Option.some.inj H
        obtain ⟨Ao34, co34, eo34⟩ := Kd.R_slice HO_6.out
        subst eo34
        go_wp2
        go_ret
        exact ⟨_, by first | rfl | (simp [errW_none, errW_some] <;> rfl) | (simp [*, errW_none, errW_some] <;> rfl), by (with_reducible repeat (first | apply Kd.R_alloc | apply Kd.R_drewN | apply Kd.R_drew)); exact Kd.R_mono HO_8.out (fun _ hk => trivial), by repeat (first | (with_reducible first | exact HB.out | apply below_alloc | apply pw_below_drewN | apply below_drew1) | exact HB.out)⟩
end Go.Proofs.YtenhfmlkdcfbbaaDoor.PHyphenPoints
