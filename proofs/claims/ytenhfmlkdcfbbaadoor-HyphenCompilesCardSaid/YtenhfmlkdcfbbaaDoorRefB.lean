/- law21: the reference's Nodes and Levels, walked on the set in memory. -/
import Derived.Test.YtenhfmlkdcfbbaaDoorRefA
namespace Go.Proofs.YtenhfmlkdcfbbaaDoor.PHyphenPoints
open Go.RowKit Go.Proofs.YtenhfmlkdcfbbaaDoorW.PrintWords Go.Proofs.YtenhfmlkdcfbbaaDoorW.PrintLast Go.Proofs.YtenhfmlkdcfbbaaDoorW.PrintMore
attribute [local go_sem] max2_int min2_int max_two min_two max_three min_three max_four min_four
set_option linter.unusedVariables false
set_option linter.unusedSimpArgs false
mutual
def colophonref21_Set_Nodes.l0 : Nat → List (S66) → Int → Int → Option (Int)
 | 0, _, _, _ => none
 | k + 1, x0, x3, x4 => if x4 < (x0.length : Int) then (if 0 ≤ x4 then ((colophonref21_pattern_spelled.f ((rd_T66 x0 x4).f0) ((rd_T66 x0 x4).f1) ((rd_T66 x0 x4).f2) ((rd_T66 x0 x4).f3)).bind fun t129 => (colophonref21_Set_Nodes.l1 k x0 x3 x4 t129 1)) else (none)) else (some x3)
def colophonref21_Set_Nodes.l1 : Nat → List (S66) → Int → Int → List Int → Int → Option (Int)
 | 0, _, _, _, _, _ => none
 | k + 1, x0, x3, x4, x5, x6 => if x6 ≤ (x5.length : Int) then (colophonref21_Set_Nodes.l2 k x0 x3 x4 x5 x6 true 0) else (colophonref21_Set_Nodes.l0 k x0 x3 (wrap64 (x4 + 1)))
def colophonref21_Set_Nodes.l2 : Nat → List (S66) → Int → Int → List Int → Int → Bool → Int → Option (Int)
 | 0, _, _, _, _, _, _, _ => none
 | k + 1, x0, x3, x4, x5, x6, x7, x8 => if x8 < x4 then (colophonref21_Set_Nodes.j3 k x0 x3 x4 x5 x6 x7 x8 x7) else (colophonref21_Set_Nodes.j3 k x0 x3 x4 x5 x6 x7 x8 false)
def colophonref21_Set_Nodes.j3 : Nat → List (S66) → Int → Int → List Int → Int → Bool → Int → Bool → Option (Int)
 | 0, _, _, _, _, _, _, _, _ => none
 | k + 1, x0, x3, x4, x5, x6, x7, x8, x39 => if x39 = true then (if 0 ≤ x6 then (if x6 ≤ (x5.length : Int) then (if 0 ≤ x8 then (if x8 < (x0.length : Int) then ((colophonref21_pattern_spelled.f ((rd_T66 x0 x8).f0) ((rd_T66 x0 x8).f1) ((rd_T66 x0 x8).f2) ((rd_T66 x0 x8).f3)).bind fun t137 => ((colophonref21_fits.f k (x5.take (x6 : Int).toNat) t137 0).bind fun t140 => (colophonref21_Set_Nodes.l2 k x0 x3 x4 x5 x6 (!t140) (wrap64 (x8 + 1))))) else (none)) else (none)) else (none)) else (none)) else (if x7 = true then (colophonref21_Set_Nodes.l1 k x0 (wrap64 (x3 + 1)) x4 x5 (wrap64 (x6 + 1))) else (colophonref21_Set_Nodes.l1 k x0 x3 x4 x5 (wrap64 (x6 + 1))))
end
def colophonref21_Set_Nodes.f (k : Nat) (l0 : List (S66)) : Option (Int) := if 1 = 0 then (some 0) else (colophonref21_Set_Nodes.l0 k l0 1 0)
noncomputable def colophonref21_Set_Nodes.T15 := rtab .any (opsOf Tryd.f14 15)
def colophonref21_Set_Nodes.B15 : List Nat := [0, 0, 3, 0, 8, 24, 56, 0, 248, 504, 1016, 2047, 4095, 8191]
theorem colophonref21_Set_Nodes.tab15 : rtab .any (opsOf Tryd.f14 15) = colophonref21_Set_Nodes.T15 := by kernel_rfl
theorem colophonref21_Set_Nodes.bits15 : waitsOk colophonref21_Set_Nodes.T15.2 colophonref21_Set_Nodes.B15 = true := by kernel_rfl
set_option maxHeartbeats 8000000 in
set_option maxRecDepth 100000 in
theorem colophonref21_Set_Nodes.calls (k : Nat) (A0 : Option Addr) (c0 : Nat) (l0 : List (S66)) (r : Int) (w : World) (hr0 : Kd.C k66 w A0 l0.length l0) (hc0 : l0.length ≤ c0) (h : colophonref21_Set_Nodes.f k l0 = some r) (Rb : Nat) (V2_ : Value) (hRb : w.heap[Rb]? = some (.cells #[.slice A0 l0.length c0, V2_] 62 (0, 0))) :
  Calls Tryd.prog 14 #[.pointer (some ⟨Rb, 0, none⟩)] w fun e w' => e = .returned (.int .i64 r) ∧ Below w.heap.size w w' := by
 have hu66 := Tryd.underlying66
 have HR0 := Aside0.mk hr0
 have HC0 := Aside0.mk hc0
 clear hr0 hc0
 have HB := Aside0.mk (Below.refl w.heap.size w)
 have HRB : Aside0 (∀ W, Below w.heap.size w W → W.cell? ⟨Rb, 0, none⟩ = some (.slice A0 l0.length c0)) := ⟨fun W hb => (blk_cell ((hb.block _ (blk_lt hRb)).trans hRb) 0).trans rfl⟩
 have HRh : Aside0 (∀ W, Below w.heap.size w W → W.heap[Rb]? = some (.cells #[.slice A0 l0.length c0, V2_] 62 (0, 0))) := ⟨fun W hb => (hb.block _ (blk_lt hRb)).trans hRb⟩
 clear hRb
 have hs0 := HRB.out w (Below.refl _ _)
 have hs1 := fun o => HRB.out _ (below_alloc (Below.refl w.heap.size w) o)
 have H : (if 1 = 0 then (some 0) else (colophonref21_Set_Nodes.l0 k l0 1 0)) = some r := h
 clear h
 by_cases c2 : 1 = 0
 ·exact absurd c2 (by decide)
 ·rw [if_neg c2] at H
  have c2b0 : (1 == 0) = false := beq_eq_false_iff_ne.mpr c2
  have c2b1 : (1 != 0) = true := bne_iff_ne.mpr c2
  have H' := Aside0.mk H
  clear H
  go_enter Tryd.func14, Tryd.ntmps14
  go_wp2
  go_loopg [3, 4] k (fun kq v3 v4 w' => ∃ (x3_1 : Int) (x4_1 : Int), v3 = .int .i64 x3_1 ∧ v4 = .int .i64 x4_1 ∧ Aside0 (colophonref21_Set_Nodes.l0 kq l0 x3_1 x4_1 = some r) ∧ Aside0 (kq ≤ k) ∧ Aside0 (Below w.heap.size w w'))
  case atStart => exact ⟨(1), (0), (by first | rfl | (simp; done) | (simp [*]; done)), (by first | rfl | (simp; done) | (simp [*]; done)), H', ⟨Nat.le_refl _⟩, ⟨by repeat (first | (with_reducible first | exact HB.out | apply below_alloc | apply pw_below_drewN | apply below_drew1) | exact HB.out)⟩⟩
  case round =>
   clear H'
   try clear c1
   try clear c2
   try clear c2b0
   try clear c2b1
   try clear p2
   obtain ⟨x3_1, x4_1, rfl, rfl, HA, HK1, HB⟩ := hrel
   have hs0 := HRB.out _ HB.out
   have hs1 := fun o => HRB.out _ (below_alloc HB.out o)
   cases gk with
   | zero => exact absurd HA.out (by simp [colophonref21_Set_Nodes.l0])
   | succ k1 =>
    have H := HA.out
    clear HA
    simp only [colophonref21_Set_Nodes.l0] at H
    by_cases c3 : x4_1 < (l0.length : Int)
    ·rw [if_pos c3] at H
     have c3b0 : decide (x4_1 < (l0.length : Int)) = true := decide_eq_true c3
     clear c3
     by_cases c4 : 0 ≤ x4_1
     ·rw [if_pos c4] at H
      have c4b0 : decide (0 ≤ x4_1) = true := decide_eq_true c4
      clear c4
      replace H := Option.bind_eq_some_iff.mp H
      obtain ⟨t129, A50, H⟩ := H
      replace H : (colophonref21_Set_Nodes.l1 k1 l0 x3_1 x4_1 t129 1) = some r := H
      have A5 := Aside0.mk A50
      clear A50
      have H' := Aside0.mk H
      clear H
      have p128 : 0 ≤ (x4_1 : Int) := of_decide_eq_true (by first | (with_reducible assumption) | assumption)
      have q128 : x4_1 < (l0.length : Int) := of_decide_eq_true (by first | (with_reducible assumption) | assumption)
      obtain ⟨ad128, A128_0, c128_0, A128_3, c128_3, e128, hx128_0, hx128_1, hx128_2, hx128_3, hl128_0, hi128_0, hl128_3, hi128_3⟩ := at_T66 HR0.out x4_1 p128 q128
      cases e128
      replace hx128_0 := (HB.out.cell (World.block_lt_of_cell? w _ hx128_0)).trans hx128_0
      replace hx128_1 := (HB.out.cell (World.block_lt_of_cell? w _ hx128_1)).trans hx128_1
      replace hx128_2 := (HB.out.cell (World.block_lt_of_cell? w _ hx128_2)).trans hx128_2
      replace hx128_3 := (HB.out.cell (World.block_lt_of_cell? w _ hx128_3)).trans hx128_3
      have HR128_0 := Aside0.mk hi128_0
      have HC128_0 := Aside0.mk hl128_0
      clear hi128_0 hl128_0
      have HR128_3 := Aside0.mk hi128_3
      have HC128_3 := Aside0.mk hl128_3
      clear hi128_3 hl128_3
      replace p128 := eq_true p128
      replace q128 := eq_true q128
      go_wp2_with (first | ((with_reducible refine gate_callee (f := 33) rfl ?_); refine goesL_ (some 27) rfl rfl Tryd.func33 (by kernel_rfl) rfl #[.agg #[.slice A128_0 ((rd_T66 l0 x4_1).f0).length c128_0, .bool ((rd_T66 l0 x4_1).f1), .bool ((rd_T66 l0 x4_1).f2), .slice A128_3 ((rd_T66 l0 x4_1).f3).length c128_3]] rfl (by (try simp only [List.map_toArray, List.map_cons, List.map_nil]); first | done | rfl | (simp only [List.length_drop, List.length_take]; rfl)) ?_; (with_reducible refine (colophonref21_pattern_spelled.calls _ _ ((rd_T66 l0 x4_1).f0) ((rd_T66 l0 x4_1).f1) ((rd_T66 l0 x4_1).f2) _ _ ((rd_T66 l0 x4_1).f3) t129 _ ?side1 ?side2 ?side3 ?side4 A5.out).mono ?_); (case side1 => repeat (first | exact (Kd.C_below HR128_0.out HB.out) | (with_reducible refine Kd.C_alloc ?_ _) | (with_reducible refine Kd.C_drewN ?_ _) | (with_reducible refine Kd.C_drew ?_))); (case side2 => exact HC128_0.out); (case side3 => repeat (first | exact (Kd.C_below HR128_3.out HB.out) | (with_reducible refine Kd.C_alloc ?_ _) | (with_reducible refine Kd.C_drewN ?_ _) | (with_reducible refine Kd.C_drew ?_))); (case side4 => exact HC128_3.out); rintro e w6 ⟨v130, rfl, ho0, hb⟩; refine ⟨_, rfl, ?_⟩; have n0_ := Aside0.mk (Kd.R_lower ho0 (below_size (by repeat (first | (with_reducible first | exact HB.out | apply below_alloc | apply pw_below_drewN | apply below_drew1) | exact HB.out)))); have n1_ := Aside0.mk (below_step (by repeat (first | (with_reducible first | exact HB.out | apply below_alloc | apply pw_below_drewN | apply below_drew1) | exact HB.out)) hb); clear HB; have HO131 := n0_; have HB := n1_; have hs0 := HRB.out _ HB.out; have hs1 := fun o => HRB.out _ (below_alloc HB.out o); clear n0_ n1_; (try clear hb); (try clear hb2); (try clear hk); (try clear hi); (try clear ho0)))
      go_loopg [3, 6] k1 (fun kq v3 v6 w' => ∃ (x3_2 : Int) (x6_2 : Int), v3 = .int .i64 x3_2 ∧ v6 = .int .i64 x6_2 ∧ Aside0 (colophonref21_Set_Nodes.l1 kq l0 x3_2 x4_1 t129 x6_2 = some r) ∧ Aside0 (kq ≤ k1) ∧ Aside0 (Kd.R (Kd.int .i64) 3 w' w.heap.size (fun _ => True) v130 t129) ∧ Aside0 (Below w.heap.size w w'))
      case atStart => exact ⟨(x3_1), (1), (by first | rfl | (simp; done) | (simp [*]; done)), (by first | rfl | (simp; done) | (simp [*]; done)), H', ⟨Nat.le_refl _⟩, ⟨by (with_reducible repeat (first | apply Kd.R_alloc | apply Kd.R_drewN | apply Kd.R_drew)); exact HO131.out⟩, ⟨by repeat (first | (with_reducible first | exact HB.out | apply below_alloc | apply pw_below_drewN | apply below_drew1) | exact HB.out)⟩⟩
      case round =>
       clear H'
       try clear c1
       try clear p1
       try clear q1
       try clear hx1
       try clear c2
       try clear c2b0
       try clear c2b1
       try clear p2
       try clear c3
       try clear c3b0
       try clear c4
       try clear c4b0
       try clear hx128_0
       try clear hx128_1
       try clear hx128_2
       try clear hx128_3
       try clear p128
       try clear p2
       try clear q128
       obtain ⟨x3_2, x6_2, rfl, rfl, HA, HK2, HO_5, HB⟩ := hrel
       have hs0 := HRB.out _ HB.out
       have hs1 := fun o => HRB.out _ (below_alloc HB.out o)
       cases gk with
       | zero => exact absurd HA.out (by simp [colophonref21_Set_Nodes.l1])
       | succ k2 =>
        have H := HA.out
        clear HA
        simp only [colophonref21_Set_Nodes.l1] at H
        by_cases c7 : x6_2 ≤ (t129.length : Int)
        ·rw [if_pos c7] at H
         have c7b0 : decide (x6_2 ≤ (t129.length : Int)) = true := decide_eq_true c7
         clear c7
         have H' := Aside0.mk H
         clear H
         obtain ⟨Ao8, co8, eo8⟩ := Kd.R_slice HO_5.out
         subst eo8
         go_wp2
         go_loopg [7, 8] k2 (fun kq v7 v8 w' => ∃ (x7_3 : Bool) (x8_3 : Int), v7 = .bool x7_3 ∧ v8 = .int .i64 x8_3 ∧ Aside0 (colophonref21_Set_Nodes.l2 kq l0 x3_2 x4_1 t129 x6_2 x7_3 x8_3 = some r) ∧ Aside0 (kq ≤ k2) ∧ Aside0 (Kd.R (Kd.int .i64) 3 w' w.heap.size (fun _ => True) (.slice Ao8 t129.length co8) t129) ∧ Aside0 (Below w.heap.size w w'))
         case atStart => exact ⟨(true), (0), (by first | rfl | (simp; done) | (simp [*]; done)), (by first | rfl | (simp; done) | (simp [*]; done)), H', ⟨Nat.le_refl _⟩, ⟨by (with_reducible repeat (first | apply Kd.R_alloc | apply Kd.R_drewN | apply Kd.R_drew)); exact HO_5.out⟩, ⟨by repeat (first | (with_reducible first | exact HB.out | apply below_alloc | apply pw_below_drewN | apply below_drew1) | exact HB.out)⟩⟩
         case round =>
          clear H'
          try clear c1
          try clear p1
          try clear q1
          try clear hx1
          try clear c2
          try clear c2b0
          try clear c2b1
          try clear p2
          try clear c3
          try clear c3b0
          try clear c4
          try clear c4b0
          try clear c7
          try clear c7b0
          try clear hx128_0
          try clear hx128_1
          try clear hx128_2
          try clear hx128_3
          try clear p1
          try clear p128
          try clear p2
          try clear q1
          try clear q128
          obtain ⟨x7_3, x8_3, rfl, rfl, HA, HK3, HO_5, HB⟩ := hrel
          have hs0 := HRB.out _ HB.out
          have hs1 := fun o => HRB.out _ (below_alloc HB.out o)
          cases gk with
          | zero => exact absurd HA.out (by simp [colophonref21_Set_Nodes.l2])
          | succ k3 =>
           have H := HA.out
           clear HA
           simp only [colophonref21_Set_Nodes.l2] at H
           have HC9 := Aside0.mk H
           clear H
           go_upto_region 13 with (fail)
           go_cut [39] (fun v39 wc => ∃ (kq : Nat) (x39_8 : Bool), v39 = .bool x39_8 ∧ Aside0 (colophonref21_Set_Nodes.j3 kq l0 x3_2 x4_1 t129 x6_2 x7_3 x8_3 x39_8 = some r) ∧ Aside0 (kq ≤ k3) ∧ Aside0 (Kd.R (Kd.int .i64) 3 wc w.heap.size (fun _ => True) (.slice Ao8 t129.length co8) t129) ∧ Aside0 (Below w.heap.size w wc))
           case first =>
            have H := HC9.out
            clear HC9
            by_cases c10 : x8_3 < x4_1
            ·rw [if_pos c10] at H
             have c10b0 : decide (x8_3 < x4_1) = true := decide_eq_true c10
             clear c10
             (first | rw [c10b0] | (simp only [i64_w, i32_w]; rw [c10b0]) | skip)
             have H' := Aside0.mk H
             clear H
             go_wp2
             go_meet
             case rel => exact ⟨_, (x7_3), (by first | rfl | (simp; done) | (simp [*]; done)), H', ⟨by have := HK1.out; have := HK2.out; have := HK3.out; first | omega | exact Nat.le_refl _⟩, ⟨by (with_reducible repeat (first | apply Kd.R_alloc | apply Kd.R_drewN | apply Kd.R_drew)); exact HO_5.out⟩, ⟨by repeat (first | (with_reducible first | exact HB.out | apply below_alloc | apply pw_below_drewN | apply below_drew1) | exact HB.out)⟩⟩
            ·rw [if_neg c10] at H
             have c10b0 : decide (x8_3 < x4_1) = false := decide_eq_false c10
             clear c10
             (first | rw [c10b0] | (simp only [i64_w, i32_w]; rw [c10b0]) | skip)
             have H' := Aside0.mk H
             clear H
             go_wp2
             go_meet
             case rel => exact ⟨_, (false), (by first | rfl | (simp; done) | (simp [*]; done)), H', ⟨by have := HK1.out; have := HK2.out; have := HK3.out; first | omega | exact Nat.le_refl _⟩, ⟨by (with_reducible repeat (first | apply Kd.R_alloc | apply Kd.R_drewN | apply Kd.R_drew)); exact HO_5.out⟩, ⟨by repeat (first | (with_reducible first | exact HB.out | apply below_alloc | apply pw_below_drewN | apply below_drew1) | exact HB.out)⟩⟩
           case rest =>
            clear HC9
            try clear c1
            try clear p1
            try clear q1
            try clear hx1
            try clear c2
            try clear c2b0
            try clear c2b1
            try clear p2
            try clear c3
            try clear c3b0
            try clear c4
            try clear c4b0
            try clear c7
            try clear c7b0
            try clear c10
            try clear c10b0
            try clear hx128_0
            try clear hx128_1
            try clear hx128_2
            try clear hx128_3
            try clear p1
            try clear p128
            try clear p2
            try clear q1
            try clear q128
            obtain ⟨kq, x39_8, rfl, HA, HJ8, HO_5, HB⟩ := hcut
            have hs0 := HRB.out _ HB.out
            have hs1 := fun o => HRB.out _ (below_alloc HB.out o)
            cases kq with
            | zero => exact absurd HA.out (by simp [colophonref21_Set_Nodes.j3])
            | succ kj8 =>
             have H := HA.out
             clear HA
             simp only [colophonref21_Set_Nodes.j3] at H
             by_cases c11 : x39_8 = true
             ·subst c11
              have H1 : (if 0 ≤ x6_2 then (if x6_2 ≤ (t129.length : Int) then (if 0 ≤ x8_3 then (if x8_3 < (l0.length : Int) then ((colophonref21_pattern_spelled.f ((rd_T66 l0 x8_3).f0) ((rd_T66 l0 x8_3).f1) ((rd_T66 l0 x8_3).f2) ((rd_T66 l0 x8_3).f3)).bind fun t137 => ((colophonref21_fits.f kj8 (t129.take (x6_2 : Int).toNat) t137 0).bind fun t140 => (colophonref21_Set_Nodes.l2 kj8 l0 x3_2 x4_1 t129 x6_2 (!t140) (wrap64 (x8_3 + 1))))) else (none)) else (none)) else (none)) else (none)) = some r := by rw [if_pos rfl] at H; exact H
              clear H
              have H := H1
              clear H1
              by_cases c12 : 0 ≤ x6_2
              ·rw [if_pos c12] at H
               have c12b0 := eq_true c12
               have c12b1 : decide (0 ≤ x6_2) = true := decide_eq_true c12
               clear c12
               by_cases c13 : x6_2 ≤ (t129.length : Int)
               ·rw [if_pos c13] at H
                have c13b0 := eq_true c13
                have c13b1 : decide (x6_2 ≤ (t129.length : Int)) = true := decide_eq_true c13
                clear c13
                obtain ⟨y132, hy132⟩ : ∃ y_ : List Int, y_ = (t129.take (x6_2 : Int).toNat) := ⟨_, rfl⟩
                replace H : (if 0 ≤ x8_3 then (if x8_3 < (l0.length : Int) then ((colophonref21_pattern_spelled.f ((rd_T66 l0 x8_3).f0) ((rd_T66 l0 x8_3).f1) ((rd_T66 l0 x8_3).f2) ((rd_T66 l0 x8_3).f3)).bind fun t137 => ((colophonref21_fits.f kj8 y132 t137 0).bind fun t140 => (colophonref21_Set_Nodes.l2 kj8 l0 x3_2 x4_1 t129 x6_2 (!t140) (wrap64 (x8_3 + 1))))) else (none)) else (none)) = some r := by first | (rw [hy132]; with_reducible exact H) | (have H2_ := (Option.bind_some _ _).symm.trans H; rw [hy132]; with_reducible exact H2_) | (have H2_ := (Option.bind_some _ _).symm.trans H; with_reducible exact H2_) | with_reducible exact H | (rw [hy132]; exact H) | exact H
                have Ny132 := Aside0.mk hy132
                clear hy132
                by_cases c14 : 0 ≤ x8_3
                ·rw [if_pos c14] at H
                 have c14b0 : decide (0 ≤ x8_3) = true := decide_eq_true c14
                 clear c14
                 by_cases c15 : x8_3 < (l0.length : Int)
                 ·rw [if_pos c15] at H
                  have c15b0 : decide (x8_3 < (l0.length : Int)) = true := decide_eq_true c15
                  clear c15
                  replace H := Option.bind_eq_some_iff.mp H
                  obtain ⟨t137, A160, H⟩ := H
                  replace H : ((colophonref21_fits.f kj8 y132 t137 0).bind fun t140 => (colophonref21_Set_Nodes.l2 kj8 l0 x3_2 x4_1 t129 x6_2 (!t140) (wrap64 (x8_3 + 1)))) = some r := H
                  have A16 := Aside0.mk A160
                  clear A160
                  replace H := Option.bind_eq_some_iff.mp H
                  obtain ⟨t140, A170, H⟩ := H
                  replace H : (colophonref21_Set_Nodes.l2 kj8 l0 x3_2 x4_1 t129 x6_2 (!t140) (wrap64 (x8_3 + 1))) = some r := H
                  have A17 := Aside0.mk A170
                  clear A170
                  have H' := Aside0.mk H
                  clear H
                  try go_wp2
                  have n0_ := Aside0.mk (Kd.R_drew HO_5.out)
                  have n1_ := Aside0.mk (below_drew1 HB.out)
                  clear HO_5
                  clear HB
                  have HO_5 := n0_
                  have HB := n1_
                  have hs0 := HRB.out _ HB.out
                  have hs1 := fun o => HRB.out _ (below_alloc HB.out o)
                  clear n0_ n1_
                  have q19 : (x6_2 : Int) ≤ ((t129.length : Int) : Int) := of_decide_eq_true (by first | (with_reducible assumption) | assumption)
                  obtain ⟨i019, hi019, _, hsz19, _⟩ := info_parts info3
                  have hroom19 : t129.length ≤ co8 := (Kd.R_reads' HO_5.out).2.1
                  have hC19 : Kd.C (Kd.int .i64) _ Ao8 t129.length t129 := (Kd.R_reads' HO_5.out).2.2
                  have hcut19 := cut_to (P := Tryd.prog) 22 3 .i64 Tryd.underlying22 hi019 Ao8 t129.length co8 x6_2 (of_decide_eq_true (by first | (with_reducible assumption) | assumption)) q19 hroom19
                  have hr19 := Kd.C_take (m := (x6_2 : Int).toNat) hC19 (by omega)
                  have hy19 : y132.length = (x6_2 : Int).toNat := (by rw [Ny132.out, List.length_take]; omega)
                  rw [← Ny132.out] at hr19
                  rw [← hy19] at hcut19
                  have HR135 := Aside0.mk hr19
                  have HC135 := Aside0.mk (show y132.length ≤ co8 from by omega)
                  clear hr19 hC19 hroom19 hi019 hsz19
                  have KY19 := Aside0.mk hy19
                  clear hy19
                  have KL19 := Aside0.mk (show (x6_2 : Int).toNat ≤ t129.length from by omega)
                  replace q19 := eq_true q19
                  have p136 : 0 ≤ (x8_3 : Int) := of_decide_eq_true (by first | (with_reducible assumption) | assumption)
                  have q136 : x8_3 < (l0.length : Int) := of_decide_eq_true (by first | (with_reducible assumption) | assumption)
                  obtain ⟨ad136, A136_0, c136_0, A136_3, c136_3, e136, hx136_0, hx136_1, hx136_2, hx136_3, hl136_0, hi136_0, hl136_3, hi136_3⟩ := at_T66 HR0.out x8_3 p136 q136
                  have hw136_3 := hx136_3
                  have hw136_2 := hx136_2
                  have hw136_1 := hx136_1
                  have hw136_0 := hx136_0
                  obtain rfl : ad128 = ad136 := (by injection e136)
                  replace hx136_0 := (HB.out.cell (World.block_lt_of_cell? w _ hx136_0)).trans hx136_0
                  replace hx136_1 := (HB.out.cell (World.block_lt_of_cell? w _ hx136_1)).trans hx136_1
                  replace hx136_2 := (HB.out.cell (World.block_lt_of_cell? w _ hx136_2)).trans hx136_2
                  replace hx136_3 := (HB.out.cell (World.block_lt_of_cell? w _ hx136_3)).trans hx136_3
                  have HR136_0 := Aside0.mk hi136_0
                  have HC136_0 := Aside0.mk hl136_0
                  clear hi136_0 hl136_0
                  have HR136_3 := Aside0.mk hi136_3
                  have HC136_3 := Aside0.mk hl136_3
                  clear hi136_3 hl136_3
                  replace p136 := eq_true p136
                  replace q136 := eq_true q136
                  have hq_ := HRB.out _ HB.out
                  refine start_ (n := 14) (S := fun w' => w'.cell? (ad128.add ((x8_3).toNat * 4)) = some (.slice A136_0 ((rd_T66 l0 x8_3).f0).length c136_0) ∧ w'.cell? ⟨(ad128.add ((x8_3).toNat * 4)).block, (ad128.add ((x8_3).toNat * 4)).off + 1, none⟩ = some (.bool ((rd_T66 l0 x8_3).f1)) ∧ w'.cell? ⟨(ad128.add ((x8_3).toNat * 4)).block, (ad128.add ((x8_3).toNat * 4)).off + 2, none⟩ = some (.bool ((rd_T66 l0 x8_3).f2)) ∧ w'.cell? ⟨(ad128.add ((x8_3).toNat * 4)).block, (ad128.add ((x8_3).toNat * 4)).off + 3, none⟩ = some (.slice A136_3 ((rd_T66 l0 x8_3).f3).length c136_3) ∧ w'.cell? ⟨Rb, 0, none⟩ = some (.slice (some ad128) l0.length c0)) (ds := []) #[false, false, false, false, false, false, false, false, false, false, false, false, false, false] (by kernel_rfl) rfl rfl ⟨((HB.out.cell (World.block_lt_of_cell? w _ hw136_0)).trans hw136_0), ((HB.out.cell (World.block_lt_of_cell? w _ hw136_1)).trans hw136_1), ((HB.out.cell (World.block_lt_of_cell? w _ hw136_2)).trans hw136_2), ((HB.out.cell (World.block_lt_of_cell? w _ hw136_3)).trans hw136_3), hq_⟩ (fun hHeld => ?_); refine with_tabW colophonref21_Set_Nodes.tab15 colophonref21_Set_Nodes.bits15 (fun HT_ HW_ => ?_)
                  generalize wc.drew = w18 at HO_5 HB HR135 HR136_0 HR136_3 hx136_0 hx136_1 hx136_2 hx136_3 hHeld ⊢
                  refine pure_ (i := 0) (N := some 42) (v := ?_) (a' := ?_) #[true, false, false, false, false, false, false, false, false, false, false, false, false, false] rfl rfl (any_of HT_.out (by kernel_rfl)) (fun _ _ _ h => h) (Or.inl ⟨by rfl, ?_⟩) ?_ ?_
                  rotate_left
                  ·intro w'
                   go_simp
                   with_reducible rfl
                  rotate_left
                  ·simp only [Act.put, List.setIfInBounds_toArray, List.set_cons_zero, List.set_cons_succ, i64_w, i32_w]
                   rfl
                  refine pure_ (i := 1) (N := some 43) (v := ?_) (a' := ?_) #[true, true, false, false, false, false, false, false, false, false, false, false, false, false] rfl rfl (any_of HT_.out (by kernel_rfl)) (fun _ _ _ h => h) (Or.inl ⟨by rfl, ?_⟩) ?_ ?_
                  rotate_left
                  ·intro w'
                   go_simp
                   with_reducible rfl
                  rotate_left
                  ·simp only [Act.put, List.setIfInBounds_toArray, List.set_cons_zero, List.set_cons_succ, i64_w, i32_w]
                   rfl
                  refine pure_ (i := 2) (N := some 44) (v := ?_) (a' := ?_) #[true, true, true, false, false, false, false, false, false, false, false, false, false, false] rfl rfl (any_of HT_.out (by kernel_rfl)) (fun _ _ _ h => h) (Or.inl ⟨by rfl, ?_⟩) ?_ ?_
                  rotate_left
                  ·intro w'
                   go_simp
                   with_reducible rfl
                  rotate_left
                  ·simp only [Act.put, List.setIfInBounds_toArray, List.set_cons_zero, List.set_cons_succ, i64_w, i32_w]
                   rfl
                  refine pure_ (i := 3) (N := some 45) (v := ?_) (a' := ?_) #[true, true, true, true, false, false, false, false, false, false, false, false, false, false] rfl rfl (any_of HT_.out (by kernel_rfl)) (fun _ _ _ h => h) (Or.inl ⟨by rfl, ?_⟩) ?_ ?_
                  rotate_left
                  ·intro w'
                   go_simp
                   with_reducible rfl
                  rotate_left
                  ·simp only [Act.put, List.setIfInBounds_toArray, List.set_cons_zero, List.set_cons_succ, i64_w, i32_w]
                   rfl
                  refine pure_ (i := 4) (N := some 46) (v := ?_) (a' := ?_) #[true, true, true, true, true, false, false, false, false, false, false, false, false, false] rfl rfl (any_of HT_.out (by kernel_rfl)) (fun _ _ _ h => h) (Or.inl ⟨by rfl, ?_⟩) ?_ ?_
                  rotate_left
                  ·intro w'
                   go_simp
                   with_reducible rfl
                  rotate_left
                  ·simp only [Act.put, List.setIfInBounds_toArray, List.set_cons_zero, List.set_cons_succ, i64_w, i32_w]
                   rfl
                  refine pure_ (i := 5) (N := some 47) (v := ?_) (a' := ?_) #[true, true, true, true, true, true, false, false, false, false, false, false, false, false] rfl rfl (any_of HT_.out (by kernel_rfl)) (fun _ _ _ h => h) (Or.inl ⟨by rfl, ?_⟩) ?_ ?_
                  rotate_left
                  ·intro w'
                   go_simp
                   with_reducible rfl
                  rotate_left
                  ·simp only [Act.put, List.setIfInBounds_toArray, List.set_cons_zero, List.set_cons_succ, i64_w, i32_w]
                   rfl
                  refine take_ (i := 6) (N := some 48) (v := ?_) (a' := ?_) #[true, true, true, true, true, true, true, false, false, false, false, false, false, false] rfl rfl (take_ofW HT_.out HW_.out (by kernel_rfl)) (fun _ _ _ h => h) (Or.inl ⟨by rfl, ?_⟩) hHeld ?_ ?_
                  rotate_left
                  ·rintro w' ⟨s0, s1, s2, s3, s9⟩
                   go_simp
                   with_reducible rfl
                  rotate_left
                  ·simp only [Act.put, List.setIfInBounds_toArray, List.set_cons_zero, List.set_cons_succ, i64_w, i32_w]
                   rfl
                  refine pure_ (i := 7) (N := some 49) (v := ?_) (a' := ?_) #[true, true, true, true, true, true, true, true, false, false, false, false, false, false] rfl rfl (any_of HT_.out (by kernel_rfl)) (fun _ _ _ h => h) (Or.inl ⟨by rfl, ?_⟩) ?_ ?_
                  rotate_left
                  ·intro w'
                   go_simp
                   with_reducible rfl
                  rotate_left
                  ·simp only [Act.put, List.setIfInBounds_toArray, List.set_cons_zero, List.set_cons_succ, i64_w, i32_w]
                   rfl
                  refine pure_ (i := 8) (N := some 50) (v := ?_) (a' := ?_) #[true, true, true, true, true, true, true, true, true, false, false, false, false, false] rfl rfl (any_of HT_.out (by kernel_rfl)) (fun _ _ _ h => h) (Or.inl ⟨by rfl, ?_⟩) ?_ ?_
                  rotate_left
                  ·intro w'
                   go_simp
                   with_reducible rfl
                  rotate_left
                  ·simp only [Act.put, List.setIfInBounds_toArray, List.set_cons_zero, List.set_cons_succ, i64_w, i32_w]
                   rfl
                  refine take_ (i := 9) (N := some 51) (v := ?_) (a' := ?_) #[true, true, true, true, true, true, true, true, true, true, false, false, false, false] rfl rfl (take_ofW HT_.out HW_.out (by kernel_rfl)) (fun _ _ _ h => h) (Or.inl ⟨by rfl, ?_⟩) hHeld ?_ ?_
                  rotate_left
                  ·rintro w' ⟨s0, s1, s2, s3, s9⟩
                   go_simp
                   with_reducible rfl
                  rotate_left
                  ·simp only [Act.put, List.setIfInBounds_toArray, List.set_cons_zero, List.set_cons_succ, i64_w, i32_w]
                   rfl
                  refine one_ (i := 10) (N := some 52) #[true, true, true, true, true, true, true, true, true, true, true, false, false, false] rfl rfl (one_of HT_.out (by kernel_rfl)) (by decide) (fun K hK => ?_)
                  refine goes_ Tryd.func33 (by kernel_rfl) rfl #[.agg #[.slice A136_0 ((rd_T66 l0 x8_3).f0).length c136_0, .bool ((rd_T66 l0 x8_3).f1), .bool ((rd_T66 l0 x8_3).f2), .slice A136_3 ((rd_T66 l0 x8_3).f3).length c136_3]] (by rfl) rfl rfl (by (try simp only [List.map_toArray, List.map_cons, List.map_nil]); first | done | rfl | (simp only [List.length_drop, List.length_take]; rfl)) ?_
                  with_reducible refine (colophonref21_pattern_spelled.calls _ _ ((rd_T66 l0 x8_3).f0) ((rd_T66 l0 x8_3).f1) ((rd_T66 l0 x8_3).f2) _ _ ((rd_T66 l0 x8_3).f3) t137 _ ?side1 ?side2 ?side3 ?side4 A16.out).mono ?_
                  (case side1 => repeat (first | exact (Kd.C_below HR136_0.out HB.out) | (with_reducible refine Kd.C_alloc ?_ _) | (with_reducible refine Kd.C_drewN ?_ _) | (with_reducible refine Kd.C_drew ?_)))
                  (case side2 => exact HC136_0.out)
                  (case side3 => repeat (first | exact (Kd.C_below HR136_3.out HB.out) | (with_reducible refine Kd.C_alloc ?_ _) | (with_reducible refine Kd.C_drewN ?_ _) | (with_reducible refine Kd.C_drew ?_)))
                  (case side4 => exact HC136_3.out)
                  rintro e w20 ⟨v138, rfl, ho0, hb⟩
                  refine ⟨_, rfl, ?_⟩
                  have n0_ := Aside0.mk (Kd.R_elder' (by (with_reducible repeat (first | apply Kd.R_alloc | apply Kd.R_drewN | apply Kd.R_drew)); exact HO_5.out) (Kd.R_base ho0) hb)
                  have n1_ := Aside0.mk (Kd.R_lower (Kd.R_new' ho0 (Kd.R_lt (by (with_reducible repeat (first | apply Kd.R_alloc | apply Kd.R_drewN | apply Kd.R_drew)); exact HO_5.out))) (below_size (by repeat (first | (with_reducible first | exact HB.out | apply below_alloc | apply pw_below_drewN | apply below_drew1) | exact HB.out))))
                  have n2_ := Aside0.mk (Kd.C_below (by repeat (first | (with_reducible exact HR135.out) | (with_reducible refine Kd.C_alloc ?_ _) | (with_reducible refine Kd.C_drewN ?_ _) | (with_reducible refine Kd.C_drew ?_) | exact HR135.out)) hb)
                  have n3_ := Aside0.mk (below_step (by repeat (first | (with_reducible first | exact HB.out | apply below_alloc | apply pw_below_drewN | apply below_drew1) | exact HB.out)) hb)
                  clear HO_5
                  clear HR135
                  clear HB
                  have HO_5 := n0_
                  have HO139 := n1_
                  have HR135 := n2_
                  have HB := n3_
                  have hs0 := HRB.out _ HB.out
                  have hs1 := fun o => HRB.out _ (below_alloc HB.out o)
                  clear n0_ n1_ n2_ n3_
                  (try clear hb)
                  (try clear hb2)
                  (try clear hk)
                  (try clear hi)
                  (try clear ho0)
                  obtain ⟨Ao21, co21, eo21⟩ := Kd.R_slice HO139.out
                  (first | subst eo21 | (injection eo21 with f1_ f2_ f3_; have f4_ := f1_.symm; have f5_ := f3_.symm; clear f1_ f2_ f3_; subst f4_; subst f5_))
                  have hq_ := HRB.out _ HB.out
                  refine hK.out _ _ ⟨((HB.out.cell (World.block_lt_of_cell? w _ hw136_0)).trans hw136_0), ((HB.out.cell (World.block_lt_of_cell? w _ hw136_1)).trans hw136_1), ((HB.out.cell (World.block_lt_of_cell? w _ hw136_2)).trans hw136_2), ((HB.out.cell (World.block_lt_of_cell? w _ hw136_3)).trans hw136_3), hq_⟩ (fun hHeld => ?_)
                  clear hK K
                  refine norm_ (a' := ?_) ?_ ?_
                  rotate_left
                  ·show Act.put _ (some 52) _ = _
                   simp only [Act.put, List.setIfInBounds_toArray, List.set_cons_zero, List.set_cons_succ, i64_w, i32_w]
                   rfl
                  refine one_ (i := 11) (N := some 53) #[true, true, true, true, true, true, true, true, true, true, true, true, false, false] rfl rfl (one_of HT_.out (by kernel_rfl)) (by decide) (fun K hK => ?_)
                  refine goes_ Tryd.func34 (by kernel_rfl) rfl #[.slice Ao8 y132.length co8, .slice Ao21 t137.length co21, .int .i64 0] (by rfl) rfl rfl (by (try simp only [List.map_toArray, List.map_cons, List.map_nil]); first | done | rfl | (simp only [List.length_drop, List.length_take]; rfl)) ?_
                  with_reducible refine (colophonref21_fits.calls kj8 _ _ y132 _ _ t137 0 t140 _ ?side1 ?side2 ?side3 ?side4 A17.out).mono ?_
                  (case side1 => repeat (first | exact (by repeat (first | (with_reducible exact HR135.out) | (with_reducible refine Kd.C_alloc ?_ _) | (with_reducible refine Kd.C_drewN ?_ _) | (with_reducible refine Kd.C_drew ?_) | exact HR135.out)) | (with_reducible refine Kd.C_alloc ?_ _) | (with_reducible refine Kd.C_drewN ?_ _) | (with_reducible refine Kd.C_drew ?_)))
                  (case side2 => exact HC135.out)
                  (case side3 => repeat (first | exact (Kd.R_reads' HO139.out).2.2 | (with_reducible refine Kd.C_alloc ?_ _) | (with_reducible refine Kd.C_drewN ?_ _) | (with_reducible refine Kd.C_drew ?_)))
                  (case side4 => exact (Kd.R_reads' HO139.out).2.1)
                  rintro e w' ⟨rfl, ⟨nd, rfl⟩⟩
                  refine ⟨_, rfl, ?_⟩
                  have hq_ := HRB.out _ HB.out
                  refine hK.out _ _ ⟨((HB.out.cell (World.block_lt_of_cell? w _ hw136_0)).trans hw136_0), ((HB.out.cell (World.block_lt_of_cell? w _ hw136_1)).trans hw136_1), ((HB.out.cell (World.block_lt_of_cell? w _ hw136_2)).trans hw136_2), ((HB.out.cell (World.block_lt_of_cell? w _ hw136_3)).trans hw136_3), hq_⟩ (fun hHeld => ?_)
                  clear hK K
                  refine norm_ (a' := ?_) ?_ ?_
                  rotate_left
                  ·show Act.put _ (some 53) _ = _
                   simp only [Act.put, List.setIfInBounds_toArray, List.set_cons_zero, List.set_cons_succ, i64_w, i32_w]
                   rfl
                  refine pure_ (i := 12) (N := some 54) (v := ?_) (a' := ?_) #[true, true, true, true, true, true, true, true, true, true, true, true, true, false] rfl rfl (any_of HT_.out (by kernel_rfl)) (fun _ _ _ h => h) (Or.inl ⟨by rfl, ?_⟩) ?_ ?_
                  rotate_left
                  ·intro w'
                   go_simp
                   with_reducible rfl
                  rotate_left
                  ·simp only [Act.put, List.setIfInBounds_toArray, List.set_cons_zero, List.set_cons_succ, i64_w, i32_w]
                   rfl
                  refine pure_ (i := 13) (N := some 7) (v := ?_) (a' := ?_) #[true, true, true, true, true, true, true, true, true, true, true, true, true, true] rfl rfl (any_of HT_.out (by kernel_rfl)) (fun _ _ _ h => h) (Or.inl ⟨by rfl, ?_⟩) ?_ ?_
                  rotate_left
                  ·intro w'
                   go_simp
                   with_reducible rfl
                  rotate_left
                  ·simp only [Act.put, List.setIfInBounds_toArray, List.set_cons_zero, List.set_cons_succ, i64_w, i32_w]
                   rfl
                  refine done_ (done_of HT_.out (by kernel_rfl)) ?_
                  try go_wp2
                  go_roundg kj8
                  case measure => have := HK1.out; have := HK2.out; have := HK3.out; have := HJ8.out; omega
                  case rel => exact ⟨(!t140), (wrap64 (x8_3 + 1)), (by first | rfl | (simp; done) | (simp [*]; done)), (by first | rfl | (simp; done) | (simp [*]; done)), H', ⟨by have := HK1.out; have := HK2.out; have := HK3.out; have := HJ8.out; omega⟩, ⟨by (with_reducible repeat (first | apply Kd.R_alloc | apply Kd.R_drewN | apply Kd.R_drew)); exact Kd.R_mono HO_5.out (fun _ hk => trivial)⟩, ⟨by repeat (first | (with_reducible first | exact HB.out | apply below_alloc | apply pw_below_drewN | apply below_drew1) | exact HB.out)⟩⟩
                 ·rw [if_neg c15] at H
                  exact absurd H (by simp)
                ·rw [if_neg c14] at H
                 exact absurd H (by simp)
               ·rw [if_neg c13] at H
                exact absurd H (by simp)
              ·rw [if_neg c12] at H
               exact absurd H (by simp)
             ·replace c11 := Bool.eq_false_iff.mpr c11
              subst c11
              have H1 : (if x7_3 = true then (colophonref21_Set_Nodes.l1 kj8 l0 (wrap64 (x3_2 + 1)) x4_1 t129 (wrap64 (x6_2 + 1))) else (colophonref21_Set_Nodes.l1 kj8 l0 x3_2 x4_1 t129 (wrap64 (x6_2 + 1)))) = some r := by rw [if_neg (show ¬ (false = true) by decide)] at H; exact H
              clear H
              have H := H1
              clear H1
              by_cases c22 : x7_3 = true
              ·subst c22
               have H1 : (colophonref21_Set_Nodes.l1 kj8 l0 (wrap64 (x3_2 + 1)) x4_1 t129 (wrap64 (x6_2 + 1))) = some r := by rw [if_pos rfl] at H; exact H
               clear H
               have H := H1
               clear H1
               have H' := Aside0.mk H
               clear H
               go_wp2
               go_roundg kj8
               case measure => have := HK1.out; have := HK2.out; have := HK3.out; have := HJ8.out; omega
               case rel => exact ⟨(wrap64 (x3_2 + 1)), (wrap64 (x6_2 + 1)), (by first | rfl | (simp; done) | (simp [*]; done)), (by first | rfl | (simp; done) | (simp [*]; done)), H', ⟨by have := HK1.out; have := HK2.out; have := HK3.out; have := HJ8.out; omega⟩, ⟨by (with_reducible repeat (first | apply Kd.R_alloc | apply Kd.R_drewN | apply Kd.R_drew)); exact HO_5.out⟩, ⟨by repeat (first | (with_reducible first | exact HB.out | apply below_alloc | apply pw_below_drewN | apply below_drew1) | exact HB.out)⟩⟩
              ·replace c22 := Bool.eq_false_iff.mpr c22
               subst c22
               have H1 : (colophonref21_Set_Nodes.l1 kj8 l0 x3_2 x4_1 t129 (wrap64 (x6_2 + 1))) = some r := by rw [if_neg (show ¬ (false = true) by decide)] at H; exact H
               clear H
               have H := H1
               clear H1
               have H' := Aside0.mk H
               clear H
               go_wp2
               go_roundg kj8
               case measure => have := HK1.out; have := HK2.out; have := HK3.out; have := HJ8.out; omega
               case rel => exact ⟨(x3_2), (wrap64 (x6_2 + 1)), (by first | rfl | (simp; done) | (simp [*]; done)), (by first | rfl | (simp; done) | (simp [*]; done)), H', ⟨by have := HK1.out; have := HK2.out; have := HK3.out; have := HJ8.out; omega⟩, ⟨by (with_reducible repeat (first | apply Kd.R_alloc | apply Kd.R_drewN | apply Kd.R_drew)); exact HO_5.out⟩, ⟨by repeat (first | (with_reducible first | exact HB.out | apply below_alloc | apply pw_below_drewN | apply below_drew1) | exact HB.out)⟩⟩
        ·rw [if_neg c7] at H
         have c7b0 : decide (x6_2 ≤ (t129.length : Int)) = false := decide_eq_false c7
         clear c7
         have H' := Aside0.mk H
         clear H
         obtain ⟨Ao23, co23, eo23⟩ := Kd.R_slice HO_5.out
         subst eo23
         go_wp2
         go_roundg k2
         case measure => have := HK1.out; have := HK2.out; omega
         case rel => exact ⟨(x3_2), (wrap64 (x4_1 + 1)), (by first | rfl | (simp; done) | (simp [*]; done)), (by first | rfl | (simp; done) | (simp [*]; done)), H', ⟨by have := HK1.out; have := HK2.out; omega⟩, ⟨by repeat (first | (with_reducible first | exact HB.out | apply below_alloc | apply pw_below_drewN | apply below_drew1) | exact HB.out)⟩⟩
     ·rw [if_neg c4] at H
      exact absurd H (by simp)
    ·rw [if_neg c3] at H
     have c3b0 : decide (x4_1 < (l0.length : Int)) = false := decide_eq_false c3
     clear c3
     obtain rfl := Option.some.inj H
     go_wp2
     go_ret
     exact ⟨by first | rfl | (simp [errW_none, errW_some] <;> rfl) | (simp [*, errW_none, errW_some] <;> rfl), by repeat (first | (with_reducible first | exact HB.out | apply below_alloc | apply pw_below_drewN | apply below_drew1) | exact HB.out)⟩
mutual
def colophonref21_Set_Levels.j0 : Nat → List (S66) → List Int → Bool → Option (List Int)
 | 0, _, _, _ => none
 | k + 1, x0, x1, x17 => if x17 = true then (some ([] : List Int)) else ((colophonref04_Lowers.f k x1).bind fun t265 => (if 0 ≤ (wrap64 ((t265.length : Int) + 1)) then (if (wrap64 ((t265.length : Int) + 1) : Int).toNat ≤ 35184372088832 then (colophonref21_Set_Levels.l0 k x0 t265 (List.replicate (wrap64 ((t265.length : Int) + 1) : Int).toNat 0) 0) else (none)) else (none)))
def colophonref21_Set_Levels.l0 : Nat → List (S66) → List Int → List Int → Int → Option (List Int)
 | 0, _, _, _, _ => none
 | k + 1, x0, x5, x6, x7 => if x7 < (x0.length : Int) then (if 0 ≤ x7 then (colophonref21_Set_Levels.l1 k x0 x5 x6 x7 0 ((rd_T66 x0 x7).f0) ((rd_T66 x0 x7).f1) ((rd_T66 x0 x7).f2) ((rd_T66 x0 x7).f3)) else (none)) else (some x6)
def colophonref21_Set_Levels.l1 : Nat → List (S66) → List Int → List Int → Int → Int → List Int → Bool → Bool → List Int → Option (List Int)
 | 0, _, _, _, _, _, _, _, _, _ => none
 | k + 1, x0, x5, x6, x7, x9, x273000, x273001, x273002, x273003 => if (wrap64 (x9 + (x273000.length : Int))) ≤ (x5.length : Int) then ((colophonref21_fits.f k x273000 x5 x9).bind fun t273 => (if t273 = true then (if x273001 = true then (if x9 = 0 then (if x273002 = true then (colophonref21_Set_Levels.j3 k x0 x5 x6 x7 x9 ((wrap64 (x9 + (x273000.length : Int))) != (x5.length : Int)) x273000 x273001 x273002 x273003) else (colophonref21_Set_Levels.j3 k x0 x5 x6 x7 x9 false x273000 x273001 x273002 x273003)) else (colophonref21_Set_Levels.j3 k x0 x5 x6 x7 x9 true x273000 x273001 x273002 x273003)) else (if x273002 = true then (colophonref21_Set_Levels.j3 k x0 x5 x6 x7 x9 ((wrap64 (x9 + (x273000.length : Int))) != (x5.length : Int)) x273000 x273001 x273002 x273003) else (colophonref21_Set_Levels.j3 k x0 x5 x6 x7 x9 false x273000 x273001 x273002 x273003))) else (colophonref21_Set_Levels.j3 k x0 x5 x6 x7 x9 true x273000 x273001 x273002 x273003))) else (colophonref21_Set_Levels.l0 k x0 x5 x6 (wrap64 (x7 + 1)))
def colophonref21_Set_Levels.j3 : Nat → List (S66) → List Int → List Int → Int → Int → Bool → List Int → Bool → Bool → List Int → Option (List Int)
 | 0, _, _, _, _, _, _, _, _, _, _ => none
 | k + 1, x0, x5, x6, x7, x9, x77, x273000, x273001, x273002, x273003 => if x77 = true then (colophonref21_Set_Levels.l1 k x0 x5 x6 x7 (wrap64 (x9 + 1)) x273000 x273001 x273002 x273003) else (colophonref21_Set_Levels.l2 k x0 x5 x6 x7 x9 0 x273000 x273001 x273002 x273003)
def colophonref21_Set_Levels.l2 : Nat → List (S66) → List Int → List Int → Int → Int → Int → List Int → Bool → Bool → List Int → Option (List Int)
 | 0, _, _, _, _, _, _, _, _, _, _ => none
 | k + 1, x0, x5, x6, x7, x9, x10, x273000, x273001, x273002, x273003 => if x10 < (x273003.length : Int) then (if 0 ≤ (wrap64 (x9 + x10)) then (if (wrap64 (x9 + x10)) < (x6.length : Int) then (if 0 ≤ x10 then (colophonref21_Set_Levels.l2 k x0 x5 (x6.set ((wrap64 (x9 + x10)) : Int).toNat (mx (rd x6 (wrap64 (x9 + x10))) (rd x273003 x10))) x7 x9 (wrap64 (x10 + 1)) x273000 x273001 x273002 x273003) else (none)) else (none)) else (none)) else (colophonref21_Set_Levels.l1 k x0 x5 x6 x7 (wrap64 (x9 + 1)) x273000 x273001 x273002 x273003)
end
def colophonref21_Set_Levels.f (k : Nat) (l0 : List (S66)) (l1 : List Int) : Option (List Int) := if 1 = 0 then (colophonref21_Set_Levels.j0 k l0 l1 true) else ((colophonref21_may.f k l1).bind fun t264 => (colophonref21_Set_Levels.j0 k l0 l1 (!t264)))
theorem colophonref21_Set_Levels.mono_l : ∀ k, (∀ y0 y1 y2, LeO (colophonref21_Set_Levels.j0 k y0 y1 y2) (colophonref21_Set_Levels.j0 (k + 1) y0 y1 y2)) ∧ (∀ y0 y1 y2 y3, LeO (colophonref21_Set_Levels.l0 k y0 y1 y2 y3) (colophonref21_Set_Levels.l0 (k + 1) y0 y1 y2 y3)) ∧ (∀ y0 y1 y2 y3 y4 y5 y6 y7 y8, LeO (colophonref21_Set_Levels.l1 k y0 y1 y2 y3 y4 y5 y6 y7 y8) (colophonref21_Set_Levels.l1 (k + 1) y0 y1 y2 y3 y4 y5 y6 y7 y8)) ∧ (∀ y0 y1 y2 y3 y4 y5 y6 y7 y8 y9, LeO (colophonref21_Set_Levels.j3 k y0 y1 y2 y3 y4 y5 y6 y7 y8 y9) (colophonref21_Set_Levels.j3 (k + 1) y0 y1 y2 y3 y4 y5 y6 y7 y8 y9)) ∧ (∀ y0 y1 y2 y3 y4 y5 y6 y7 y8 y9, LeO (colophonref21_Set_Levels.l2 k y0 y1 y2 y3 y4 y5 y6 y7 y8 y9) (colophonref21_Set_Levels.l2 (k + 1) y0 y1 y2 y3 y4 y5 y6 y7 y8 y9))
 | 0 => ⟨fun _ _ _ r h => by simp [colophonref21_Set_Levels.j0] at h, fun _ _ _ _ r h => by simp [colophonref21_Set_Levels.l0] at h, fun _ _ _ _ _ _ _ _ _ r h => by simp [colophonref21_Set_Levels.l1] at h, fun _ _ _ _ _ _ _ _ _ _ r h => by simp [colophonref21_Set_Levels.j3] at h, fun _ _ _ _ _ _ _ _ _ _ r h => by simp [colophonref21_Set_Levels.l2] at h⟩
 | k + 1 => by
  obtain ⟨ih0, ih1, ih2, ih3, ih4⟩ := colophonref21_Set_Levels.mono_l k
  refine ⟨?_, ?_, ?_, ?_, ?_⟩
  ·intro y0 y1 y2
   unfold colophonref21_Set_Levels.j0
   repeat' first
   |(with_reducible exact ih0 _ _ _)
   |(with_reducible exact ih1 _ _ _ _)
   |(with_reducible exact ih2 _ _ _ _ _ _ _ _ _)
   |(with_reducible exact ih3 _ _ _ _ _ _ _ _ _ _)
   |(with_reducible exact ih4 _ _ _ _ _ _ _ _ _ _)
   |(with_reducible exact colophonref04_Lowers.mono _ _)
   |(with_reducible exact colophonref21_fits.mono _ _ _ _)
   |(with_reducible exact colophonref21_may.mono _ _)
   |(with_reducible exact LeO.refl _)
   |(with_reducible exact LeO.none _)
   |(with_reducible refine LeO.ite ?_ ?_)
   |(with_reducible refine LeO.bind ?_ (fun _ => ?_))
   | exact ih0 _ _ _
   | exact ih1 _ _ _ _
   | exact ih2 _ _ _ _ _ _ _ _ _
   | exact ih3 _ _ _ _ _ _ _ _ _ _
   | exact ih4 _ _ _ _ _ _ _ _ _ _
   | exact colophonref04_Lowers.mono _ _
   | exact colophonref21_fits.mono _ _ _ _
   | exact colophonref21_may.mono _ _
   | exact LeO.none _
   | refine LeO.ite ?_ ?_
   | refine LeO.bind ?_ (fun _ => ?_)
  ·intro y0 y1 y2 y3
   unfold colophonref21_Set_Levels.l0
   repeat' first
   |(with_reducible exact ih0 _ _ _)
   |(with_reducible exact ih1 _ _ _ _)
   |(with_reducible exact ih2 _ _ _ _ _ _ _ _ _)
   |(with_reducible exact ih3 _ _ _ _ _ _ _ _ _ _)
   |(with_reducible exact ih4 _ _ _ _ _ _ _ _ _ _)
   |(with_reducible exact colophonref04_Lowers.mono _ _)
   |(with_reducible exact colophonref21_fits.mono _ _ _ _)
   |(with_reducible exact colophonref21_may.mono _ _)
   |(with_reducible exact LeO.refl _)
   |(with_reducible exact LeO.none _)
   |(with_reducible refine LeO.ite ?_ ?_)
   |(with_reducible refine LeO.bind ?_ (fun _ => ?_))
   | exact ih0 _ _ _
   | exact ih1 _ _ _ _
   | exact ih2 _ _ _ _ _ _ _ _ _
   | exact ih3 _ _ _ _ _ _ _ _ _ _
   | exact ih4 _ _ _ _ _ _ _ _ _ _
   | exact colophonref04_Lowers.mono _ _
   | exact colophonref21_fits.mono _ _ _ _
   | exact colophonref21_may.mono _ _
   | exact LeO.none _
   | refine LeO.ite ?_ ?_
   | refine LeO.bind ?_ (fun _ => ?_)
  ·intro y0 y1 y2 y3 y4 y5 y6 y7 y8
   unfold colophonref21_Set_Levels.l1
   repeat' first
   |(with_reducible exact ih0 _ _ _)
   |(with_reducible exact ih1 _ _ _ _)
   |(with_reducible exact ih2 _ _ _ _ _ _ _ _ _)
   |(with_reducible exact ih3 _ _ _ _ _ _ _ _ _ _)
   |(with_reducible exact ih4 _ _ _ _ _ _ _ _ _ _)
   |(with_reducible exact colophonref04_Lowers.mono _ _)
   |(with_reducible exact colophonref21_fits.mono _ _ _ _)
   |(with_reducible exact colophonref21_may.mono _ _)
   |(with_reducible exact LeO.refl _)
   |(with_reducible exact LeO.none _)
   |(with_reducible refine LeO.ite ?_ ?_)
   |(with_reducible refine LeO.bind ?_ (fun _ => ?_))
   | exact ih0 _ _ _
   | exact ih1 _ _ _ _
   | exact ih2 _ _ _ _ _ _ _ _ _
   | exact ih3 _ _ _ _ _ _ _ _ _ _
   | exact ih4 _ _ _ _ _ _ _ _ _ _
   | exact colophonref04_Lowers.mono _ _
   | exact colophonref21_fits.mono _ _ _ _
   | exact colophonref21_may.mono _ _
   | exact LeO.none _
   | refine LeO.ite ?_ ?_
   | refine LeO.bind ?_ (fun _ => ?_)
  ·intro y0 y1 y2 y3 y4 y5 y6 y7 y8 y9
   unfold colophonref21_Set_Levels.j3
   repeat' first
   |(with_reducible exact ih0 _ _ _)
   |(with_reducible exact ih1 _ _ _ _)
   |(with_reducible exact ih2 _ _ _ _ _ _ _ _ _)
   |(with_reducible exact ih3 _ _ _ _ _ _ _ _ _ _)
   |(with_reducible exact ih4 _ _ _ _ _ _ _ _ _ _)
   |(with_reducible exact colophonref04_Lowers.mono _ _)
   |(with_reducible exact colophonref21_fits.mono _ _ _ _)
   |(with_reducible exact colophonref21_may.mono _ _)
   |(with_reducible exact LeO.refl _)
   |(with_reducible exact LeO.none _)
   |(with_reducible refine LeO.ite ?_ ?_)
   |(with_reducible refine LeO.bind ?_ (fun _ => ?_))
   | exact ih0 _ _ _
   | exact ih1 _ _ _ _
   | exact ih2 _ _ _ _ _ _ _ _ _
   | exact ih3 _ _ _ _ _ _ _ _ _ _
   | exact ih4 _ _ _ _ _ _ _ _ _ _
   | exact colophonref04_Lowers.mono _ _
   | exact colophonref21_fits.mono _ _ _ _
   | exact colophonref21_may.mono _ _
   | exact LeO.none _
   | refine LeO.ite ?_ ?_
   | refine LeO.bind ?_ (fun _ => ?_)
  ·intro y0 y1 y2 y3 y4 y5 y6 y7 y8 y9
   unfold colophonref21_Set_Levels.l2
   repeat' first
   |(with_reducible exact ih0 _ _ _)
   |(with_reducible exact ih1 _ _ _ _)
   |(with_reducible exact ih2 _ _ _ _ _ _ _ _ _)
   |(with_reducible exact ih3 _ _ _ _ _ _ _ _ _ _)
   |(with_reducible exact ih4 _ _ _ _ _ _ _ _ _ _)
   |(with_reducible exact colophonref04_Lowers.mono _ _)
   |(with_reducible exact colophonref21_fits.mono _ _ _ _)
   |(with_reducible exact colophonref21_may.mono _ _)
   |(with_reducible exact LeO.refl _)
   |(with_reducible exact LeO.none _)
   |(with_reducible refine LeO.ite ?_ ?_)
   |(with_reducible refine LeO.bind ?_ (fun _ => ?_))
   | exact ih0 _ _ _
   | exact ih1 _ _ _ _
   | exact ih2 _ _ _ _ _ _ _ _ _
   | exact ih3 _ _ _ _ _ _ _ _ _ _
   | exact ih4 _ _ _ _ _ _ _ _ _ _
   | exact colophonref04_Lowers.mono _ _
   | exact colophonref21_fits.mono _ _ _ _
   | exact colophonref21_may.mono _ _
   | exact LeO.none _
   | refine LeO.ite ?_ ?_
   | refine LeO.bind ?_ (fun _ => ?_)
theorem colophonref21_Set_Levels.mono : ∀ a0 a1 k, LeO (colophonref21_Set_Levels.f k a0 a1) (colophonref21_Set_Levels.f (k + 1) a0 a1) := by
 intro a0 a1 k
 obtain ⟨ih0, ih1, ih2, ih3, ih4⟩ := colophonref21_Set_Levels.mono_l k
 unfold colophonref21_Set_Levels.f
 repeat' first
   |(with_reducible exact ih0 _ _ _)
   |(with_reducible exact ih1 _ _ _ _)
   |(with_reducible exact ih2 _ _ _ _ _ _ _ _ _)
   |(with_reducible exact ih3 _ _ _ _ _ _ _ _ _ _)
   |(with_reducible exact ih4 _ _ _ _ _ _ _ _ _ _)
   |(with_reducible exact colophonref04_Lowers.mono _ _)
   |(with_reducible exact colophonref21_fits.mono _ _ _ _)
   |(with_reducible exact colophonref21_may.mono _ _)
   |(with_reducible exact LeO.refl _)
   |(with_reducible exact LeO.none _)
   |(with_reducible refine LeO.ite ?_ ?_)
   |(with_reducible refine LeO.bind ?_ (fun _ => ?_))
   | exact ih0 _ _ _
   | exact ih1 _ _ _ _
   | exact ih2 _ _ _ _ _ _ _ _ _
   | exact ih3 _ _ _ _ _ _ _ _ _ _
   | exact ih4 _ _ _ _ _ _ _ _ _ _
   | exact colophonref04_Lowers.mono _ _
   | exact colophonref21_fits.mono _ _ _ _
   | exact colophonref21_may.mono _ _
   | exact LeO.none _
   | refine LeO.ite ?_ ?_
   | refine LeO.bind ?_ (fun _ => ?_)
noncomputable def colophonref21_Set_Levels.T16 := rtab .any (opsOf Tryd.f18 16)
def colophonref21_Set_Levels.B16 : List Nat := [0, 0, 0, 6, 0, 0, 0, 96, 240, 496, 0, 1024, 0, 7168, 15360, 32752, 65535, 131071]
end Go.Proofs.YtenhfmlkdcfbbaaDoor.PHyphenPoints
