-- Written by a copy of the print that this session has turned (wip/tools/patchprint.py): arrays as records.
import Derived.Test.YtdoponngnjmkkaaCap
import Derived.Test.YtdoponngnjmkkaaPAnchorsFragsx0
namespace Go.Proofs.Ytdoponngnjmkkaa.PAnchorsFrags
open Go.RowKit Go.Proofs.YtdoponngnjmkkaaW.PrintWords Go.Proofs.YtdoponngnjmkkaaW.PrintLast Go.Proofs.YtdoponngnjmkkaaW.PrintMore
attribute [local go_sem] max2_int min2_int max_two min_two max_three min_three max_four min_four   -- for this text's walks alone
set_option linter.unusedVariables false
set_option linter.unusedSimpArgs false

/-! ### anchors_Parents: function 14 -/
mutual
def anchors_Parents.l0 : Nat → List Int → List Int → List Int → List Int → Int → Int → Option (List Int)
  | 0, _, _, _, _, _, _ => none
  | k + 1, x0, x3, x4, x8, x9, x10 => if x10 < x9 then (if 0 ≤ x10 then (if x10 < (x8.length : Int) then (anchors_Parents.l1 k x0 x3 x4 x10 (rd x8 x10) (x4.length : Int) x8 x9 x10) else (none)) else (none)) else (some x3)
def anchors_Parents.l1 : Nat → List Int → List Int → List Int → Int → Int → Int → List Int → Int → Int → Option (List Int)
  | 0, _, _, _, _, _, _, _, _, _ => none
  | k + 1, x0, x3, x4, x5, x6, x7, x8, x9, x10 => if x7 > 0 then (if 0 ≤ (wrap64 (x7 - 1)) then (if (wrap64 (x7 - 1)) < (x4.length : Int) then (if 0 ≤ (rd x4 (wrap64 (x7 - 1))) then (if (rd x4 (wrap64 (x7 - 1))) < (x0.length : Int) then (if (rd x0 (rd x4 (wrap64 (x7 - 1)))) ≥ x6 then (anchors_Parents.l1 k x0 x3 x4 x5 x6 (wrap64 (x7 - 1)) x8 x9 x10) else (if 0 ≤ x7 then (if x7 ≤ (x4.length : Int) then ((some (x4.take (x7 : Int).toNat : List Int)).bind fun y104 => (if x3.length < 17592186044416 then ((some (x3 ++ [(-1)] : List Int)).bind fun y107 => (if (wrap64 (x7 - 1)) < (y104.length : Int) then (if 0 ≤ x5 then (if x5 < (y107.length : Int) then (if y104.length < 17592186044416 then (anchors_Parents.l0 k x0 (y107.set (x5 : Int).toNat (rd y104 (wrap64 (x7 - 1)))) (y104 ++ [x5]) x8 x9 (wrap64 (x10 + 1))) else (none)) else (none)) else (none)) else (none))) else (none))) else (none)) else (none))) else (none)) else (none)) else (none)) else (none)) else (if 0 ≤ x7 then (if x7 ≤ (x4.length : Int) then ((some (x4.take (x7 : Int).toNat : List Int)).bind fun y115 => (if x3.length < 17592186044416 then (if y115.length < 17592186044416 then (anchors_Parents.l0 k x0 (x3 ++ [(-1)]) (y115 ++ [x5]) x8 x9 (wrap64 (x10 + 1))) else (none)) else (none))) else (none)) else (none))
end
def anchors_Parents.f (k : Nat) (l0 : List Int) : Option (List Int) := anchors_Parents.l0 k l0 ([] : List Int) ([] : List Int) l0 (l0.length : Int) 0
theorem anchors_Parents.mono_l : ∀ k, (∀ y0 y1 y2 y3 y4 y5, LeO (anchors_Parents.l0 k y0 y1 y2 y3 y4 y5) (anchors_Parents.l0 (k + 1) y0 y1 y2 y3 y4 y5)) ∧ (∀ y0 y1 y2 y3 y4 y5 y6 y7 y8, LeO (anchors_Parents.l1 k y0 y1 y2 y3 y4 y5 y6 y7 y8) (anchors_Parents.l1 (k + 1) y0 y1 y2 y3 y4 y5 y6 y7 y8))
  | 0 => ⟨fun _ _ _ _ _ _ r h => by simp [anchors_Parents.l0] at h, fun _ _ _ _ _ _ _ _ _ r h => by simp [anchors_Parents.l1] at h⟩
  | k + 1 => by
    obtain ⟨ih0, ih1⟩ := anchors_Parents.mono_l k
    refine ⟨?_, ?_⟩
    · intro y0 y1 y2 y3 y4 y5
      unfold anchors_Parents.l0
      repeat' first
      | (with_reducible exact ih0 _ _ _ _ _ _)
      | (with_reducible exact ih1 _ _ _ _ _ _ _ _ _)
      | (with_reducible exact LeO.refl _)
      | (with_reducible exact LeO.none _)
      | (with_reducible refine LeO.ite ?_ ?_)
      | (with_reducible refine LeO.bind ?_ (fun _ => ?_))
      | exact ih0 _ _ _ _ _ _
      | exact ih1 _ _ _ _ _ _ _ _ _
      | exact LeO.none _
      | refine LeO.ite ?_ ?_
      | refine LeO.bind ?_ (fun _ => ?_)
    · intro y0 y1 y2 y3 y4 y5 y6 y7 y8
      unfold anchors_Parents.l1
      repeat' first
      | (with_reducible exact ih0 _ _ _ _ _ _)
      | (with_reducible exact ih1 _ _ _ _ _ _ _ _ _)
      | (with_reducible exact LeO.refl _)
      | (with_reducible exact LeO.none _)
      | (with_reducible refine LeO.ite ?_ ?_)
      | (with_reducible refine LeO.bind ?_ (fun _ => ?_))
      | exact ih0 _ _ _ _ _ _
      | exact ih1 _ _ _ _ _ _ _ _ _
      | exact LeO.none _
      | refine LeO.ite ?_ ?_
      | refine LeO.bind ?_ (fun _ => ?_)
theorem anchors_Parents.mono : ∀ a0 k, LeO (anchors_Parents.f k a0) (anchors_Parents.f (k + 1) a0) := by
  intro a0 k
  obtain ⟨ih0, ih1⟩ := anchors_Parents.mono_l k
  unfold anchors_Parents.f
  repeat' first
      | (with_reducible exact ih0 _ _ _ _ _ _)
      | (with_reducible exact ih1 _ _ _ _ _ _ _ _ _)
      | (with_reducible exact LeO.refl _)
      | (with_reducible exact LeO.none _)
      | (with_reducible refine LeO.ite ?_ ?_)
      | (with_reducible refine LeO.bind ?_ (fun _ => ?_))
      | exact ih0 _ _ _ _ _ _
      | exact ih1 _ _ _ _ _ _ _ _ _
      | exact LeO.none _
      | refine LeO.ite ?_ ?_
      | refine LeO.bind ?_ (fun _ => ?_)
set_option maxHeartbeats 8000000 in
set_option maxRecDepth 100000 in
theorem anchors_Parents.calls (k : Nat) (A0 : Option Addr) (c0 : Nat) (l0 : List Int) (r : List Int) (w : World) (hr0 : Kd.C (Kd.int .i64) w A0 l0.length l0) (hc0 : l0.length ≤ c0) (h : anchors_Parents.f k l0 = some r) :
    Calls Try.prog 14 #[.slice A0 l0.length c0] w fun e w' => ∃ v0_ : Value, e = .returned (v0_) ∧ Kd.R (Kd.int .i64) 3 w' w.heap.size (fun _ => True) v0_ r ∧ Below w.heap.size w w' := by
  have HR0 := Aside0.mk hr0
  have HC0 := Aside0.mk hc0
  clear hr0 hc0
  have HB := Aside0.mk (Below.refl w.heap.size w)
  have H : (anchors_Parents.l0 k l0 ([] : List Int) ([] : List Int) l0 (l0.length : Int) 0) = some r := h
  clear h
  have H' := Aside0.mk H
  clear H
  go_enter Try.func14, Try.ntmps14
  go_wp2
  go_loopg [3, 4, 10] k (fun kq v3 v4 v10 w' => ∃ (x3_1 : List Int) (x4_1 : List Int) (x10_1 : Int), v10 = .int .i64 x10_1 ∧ Aside0 (anchors_Parents.l0 kq l0 x3_1 x4_1 l0 (l0.length : Int) x10_1 = some r) ∧ Aside0 (kq ≤ k) ∧ Aside0 (Kd.R (Kd.int .i64) 3 w' w.heap.size (fun k_ => some k_ ≠ (v4 : Value).ownBlock) v3 x3_1) ∧ Aside0 (Kd.R (Kd.int .i64) 3 w' w.heap.size (fun k_ => some k_ ≠ (v3 : Value).ownBlock) v4 x4_1) ∧ Aside0 (Below w.heap.size w w'))
  case atStart => exact ⟨(([] : List Int)), (([] : List Int)), (0), (by first | rfl | (simp; done) | (simp [*]; done)), H', ⟨Nat.le_refl _⟩, ⟨by first | exact Kd.R_nil _ _ _ _ _ | exact Kd.N_nil _ _ _ _ _ | exact Kd.V_nil _ _ _ _ _ | exact Kd.Q_nil _ _ _ _ _ | exact Kd.S_nil _ _ _ _ _⟩, ⟨by first | exact Kd.R_nil _ _ _ _ _ | exact Kd.N_nil _ _ _ _ _ | exact Kd.V_nil _ _ _ _ _ | exact Kd.Q_nil _ _ _ _ _ | exact Kd.S_nil _ _ _ _ _⟩, ⟨by repeat (first | (with_reducible first | exact HB.out | apply below_alloc | apply pw_below_drewN | apply below_drew1) | exact HB.out)⟩⟩
  case round =>
    clear H'
    try clear c1
    obtain ⟨x3_1, x4_1, x10_1, rfl, HA, HK1, HO_3, HO_4, HB⟩ := hrel
    cases gk with
    | zero => exact absurd HA.out (by simp [anchors_Parents.l0])
    | succ k1 =>
      have H := HA.out
      clear HA
      simp only [anchors_Parents.l0] at H
      by_cases c2 : x10_1 < (l0.length : Int)
      · rw [if_pos c2] at H
        have c2b0 : decide (x10_1 < (l0.length : Int)) = true := decide_eq_true c2
        clear c2
        by_cases c3 : 0 ≤ x10_1
        · rw [if_pos c3] at H
          have c3b0 : decide (0 ≤ x10_1) = true := decide_eq_true c3
          clear c3
          by_cases c4 : x10_1 < (l0.length : Int)
          · rw [if_pos c4] at H
            have c4b0 : decide (x10_1 < (l0.length : Int)) = true := decide_eq_true c4
            clear c4
            have H' := Aside0.mk H
            clear H
            have p101 : 0 ≤ (x10_1 : Int) := of_decide_eq_true (by first | (with_reducible assumption) | assumption)
            have q101 : x10_1 < (l0.length : Int) := of_decide_eq_true (by first | (with_reducible assumption) | assumption)
            obtain ⟨ad101, e101, hx101_0⟩ := Kd.at_int HR0.out x10_1 p101 q101
            cases e101
            replace hx101_0 := (HB.out.cell (World.block_lt_of_cell? w _ hx101_0)).trans hx101_0
            replace p101 := eq_true p101
            replace q101 := eq_true q101
            obtain ⟨Ao5, co5, eo5⟩ := Kd.R_slice HO_4.out
            subst eo5
            go_wp2
            go_loopg [7] k1 (fun kq v7 w' => ∃ (x7_2 : Int), v7 = .int .i64 x7_2 ∧ Aside0 (anchors_Parents.l1 kq l0 x3_1 x4_1 x10_1 (rd l0 x10_1) x7_2 l0 (l0.length : Int) x10_1 = some r) ∧ Aside0 (kq ≤ k1) ∧ Aside0 (Kd.R (Kd.int .i64) 3 w' w.heap.size (fun k_ => some k_ ≠ ((.slice Ao5 x4_1.length co5) : Value).ownBlock) u3 x3_1) ∧ Aside0 (Kd.R (Kd.int .i64) 3 w' w.heap.size (fun k_ => some k_ ≠ (u3 : Value).ownBlock) (.slice Ao5 x4_1.length co5) x4_1) ∧ Aside0 (Below w.heap.size w w'))
            case atStart => exact ⟨((x4_1.length : Int)), (by first | rfl | (simp; done) | (simp [*]; done)), H', ⟨Nat.le_refl _⟩, ⟨by (with_reducible repeat (first | apply Kd.R_alloc | apply Kd.R_drewN | apply Kd.R_drew)); exact HO_3.out⟩, ⟨by (with_reducible repeat (first | apply Kd.R_alloc | apply Kd.R_drewN | apply Kd.R_drew)); exact HO_4.out⟩, ⟨by repeat (first | (with_reducible first | exact HB.out | apply below_alloc | apply pw_below_drewN | apply below_drew1) | exact HB.out)⟩⟩
            case round =>
              clear H'
              try clear c1
              try clear p1
              try clear q1
              try clear hx1
              try clear c2
              try clear c2b0
              try clear p2
              try clear c3
              try clear c3b0
              try clear c4
              try clear c4b0
              try clear hx101_0
              try clear p101
              try clear q101
              obtain ⟨x7_2, rfl, HA, HK2, HO_3, HO_4, HB⟩ := hrel
              cases gk with
              | zero => exact absurd HA.out (by simp [anchors_Parents.l1])
              | succ k2 =>
                have H := HA.out
                clear HA
                simp only [anchors_Parents.l1] at H
                by_cases c6 : x7_2 > 0
                · rw [if_pos c6] at H
                  have c6b0 : decide (0 < x7_2) = true := decide_eq_true c6
                  clear c6
                  obtain ⟨ji7, hji7⟩ : ∃ j_ : Int, (wrap64 (x7_2 - 1)) = j_ := ⟨_, rfl⟩
                  replace H : (if 0 ≤ (ji7) then (if (ji7) < (x4_1.length : Int) then (if 0 ≤ (rd x4_1 (ji7)) then (if (rd x4_1 (ji7)) < (l0.length : Int) then (if (rd l0 (rd x4_1 (ji7))) ≥ (rd l0 x10_1) then (anchors_Parents.l1 k2 l0 x3_1 x4_1 x10_1 (rd l0 x10_1) ji7 l0 (l0.length : Int) x10_1) else (if 0 ≤ x7_2 then (if x7_2 ≤ (x4_1.length : Int) then ((some (x4_1.take (x7_2 : Int).toNat : List Int)).bind fun y104 => (if x3_1.length < 17592186044416 then ((some (x3_1 ++ [(-1)] : List Int)).bind fun y107 => (if (ji7) < (y104.length : Int) then (if 0 ≤ x10_1 then (if x10_1 < (y107.length : Int) then (if y104.length < 17592186044416 then (anchors_Parents.l0 k2 l0 (y107.set (x10_1 : Int).toNat (rd y104 (ji7))) (y104 ++ [x10_1]) l0 (l0.length : Int) (wrap64 (x10_1 + 1))) else (none)) else (none)) else (none)) else (none))) else (none))) else (none)) else (none))) else (none)) else (none)) else (none)) else (none)) = some r := by first | (rw [hji7] at H; exact H) | (simp only [hji7] at H ⊢; exact H)
                  have hji7w : (IntKind.i64.wrap (x7_2 - 1)) = ji7 := (i64_w _).trans hji7
                  by_cases c8 : 0 ≤ (ji7)
                  · rw [if_pos c8] at H
                    have c8b0 : decide (0 ≤ (ji7)) = true := decide_eq_true c8
                    clear c8
                    by_cases c9 : (ji7) < (x4_1.length : Int)
                    · rw [if_pos c9] at H
                      have c9b0 : decide ((ji7) < (x4_1.length : Int)) = true := decide_eq_true c9
                      clear c9
                      by_cases c10 : 0 ≤ (rd x4_1 (ji7))
                      · rw [if_pos c10] at H
                        have c10b0 : decide (0 ≤ (rd x4_1 (ji7))) = true := decide_eq_true c10
                        clear c10
                        by_cases c11 : (rd x4_1 (ji7)) < (l0.length : Int)
                        · rw [if_pos c11] at H
                          have c11b0 : decide ((rd x4_1 (ji7)) < (l0.length : Int)) = true := decide_eq_true c11
                          clear c11
                          by_cases c12 : (rd l0 (rd x4_1 (ji7))) ≥ (rd l0 x10_1)
                          · rw [if_pos c12] at H
                            have c12b0 : decide ((rd l0 x10_1) ≤ (rd l0 (rd x4_1 (ji7)))) = true := decide_eq_true c12
                            clear c12
                            have H' := Aside0.mk H
                            clear H
                            have p102 : 0 ≤ ((ji7) : Int) := of_decide_eq_true (by first | (with_reducible assumption) | assumption)
                            have q102 : (ji7) < (x4_1.length : Int) := of_decide_eq_true (by first | (with_reducible assumption) | assumption)
                            obtain ⟨ad102, e102, hx102_0⟩ := Kd.at_int (Kd.R_reads' HO_4.out).2.2 (ji7) p102 q102
                            cases e102
                            replace p102 := eq_true p102
                            replace q102 := eq_true q102
                            have p103 : 0 ≤ ((rd x4_1 (ji7)) : Int) := of_decide_eq_true (by first | (with_reducible assumption) | assumption)
                            have q103 : (rd x4_1 (ji7)) < (l0.length : Int) := of_decide_eq_true (by first | (with_reducible assumption) | assumption)
                            obtain ⟨ad103, e103, hx103_0⟩ := Kd.at_int HR0.out (rd x4_1 (ji7)) p103 q103
                            obtain rfl : ad101 = ad103 := (by injection e103)
                            replace hx103_0 := (HB.out.cell (World.block_lt_of_cell? w _ hx103_0)).trans hx103_0
                            replace p103 := eq_true p103
                            replace q103 := eq_true q103
                            go_wp2
                            go_roundg k2
                            case measure => have := HK1.out; have := HK2.out; omega
                            case rel => exact ⟨(ji7), (by first | rfl | (simp; done) | (simp only [← hji7] <;> (first | rfl | simp)) | (simp [*]; done)), H', ⟨by have := HK1.out; have := HK2.out; omega⟩, ⟨by (with_reducible repeat (first | apply Kd.R_alloc | apply Kd.R_drewN | apply Kd.R_drew)); exact HO_3.out⟩, ⟨by (with_reducible repeat (first | apply Kd.R_alloc | apply Kd.R_drewN | apply Kd.R_drew)); exact HO_4.out⟩, ⟨by repeat (first | (with_reducible first | exact HB.out | apply below_alloc | apply pw_below_drewN | apply below_drew1) | exact HB.out)⟩⟩
                          · rw [if_neg c12] at H
                            have c12b0 : decide ((rd l0 x10_1) ≤ (rd l0 (rd x4_1 (ji7)))) = false := decide_eq_false c12
                            clear c12
                            by_cases c13 : 0 ≤ x7_2
                            · rw [if_pos c13] at H
                              have c13b0 := eq_true c13
                              have c13b1 : decide (0 ≤ x7_2) = true := decide_eq_true c13
                              clear c13
                              by_cases c14 : x7_2 ≤ (x4_1.length : Int)
                              · rw [if_pos c14] at H
                                have c14b0 := eq_true c14
                                have c14b1 : decide (x7_2 ≤ (x4_1.length : Int)) = true := decide_eq_true c14
                                clear c14
                                obtain ⟨y104, hy104⟩ : ∃ y_ : List Int, y_ = (x4_1.take (x7_2 : Int).toNat) := ⟨_, rfl⟩
                                replace H : (if x3_1.length < 17592186044416 then ((some (x3_1 ++ [(-1)] : List Int)).bind fun y107 => (if (ji7) < (y104.length : Int) then (if 0 ≤ x10_1 then (if x10_1 < (y107.length : Int) then (if y104.length < 17592186044416 then (anchors_Parents.l0 k2 l0 (y107.set (x10_1 : Int).toNat (rd y104 (ji7))) (y104 ++ [x10_1]) l0 (l0.length : Int) (wrap64 (x10_1 + 1))) else (none)) else (none)) else (none)) else (none))) else (none)) = some r := by first | (rw [hy104]; with_reducible exact H) | (have H2_ := (Option.bind_some _ _).symm.trans H; rw [hy104]; with_reducible exact H2_) | (have H2_ := (Option.bind_some _ _).symm.trans H; with_reducible exact H2_) | with_reducible exact H | (rw [hy104]; exact H) | exact H
                                have Ny104 := Aside0.mk hy104
                                clear hy104
                                by_cases c15 : x3_1.length < 17592186044416
                                · rw [if_pos c15] at H
                                  have LMc15 := Aside0.mk c15
                                  clear c15
                                  obtain ⟨y107, hy107⟩ : ∃ y_ : List Int, y_ = (x3_1 ++ [(-1)]) := ⟨_, rfl⟩
                                  replace H : (if (ji7) < (y104.length : Int) then (if 0 ≤ x10_1 then (if x10_1 < (y107.length : Int) then (if y104.length < 17592186044416 then (anchors_Parents.l0 k2 l0 (y107.set (x10_1 : Int).toNat (rd y104 (ji7))) (y104 ++ [x10_1]) l0 (l0.length : Int) (wrap64 (x10_1 + 1))) else (none)) else (none)) else (none)) else (none)) = some r := by first | (rw [hy107]; with_reducible exact H) | (have H2_ := (Option.bind_some _ _).symm.trans H; rw [hy107]; with_reducible exact H2_) | (have H2_ := (Option.bind_some _ _).symm.trans H; with_reducible exact H2_) | with_reducible exact H | (rw [hy107]; exact H) | exact H
                                  have Ny107 := Aside0.mk hy107
                                  clear hy107
                                  by_cases c16 : (ji7) < (y104.length : Int)
                                  · rw [if_pos c16] at H
                                    have c16b0 : decide ((ji7) < (y104.length : Int)) = true := decide_eq_true c16
                                    clear c16
                                    by_cases c17 : 0 ≤ x10_1
                                    · rw [if_pos c17] at H
                                      have c17b0 : decide (0 ≤ x10_1) = true := decide_eq_true c17
                                      clear c17
                                      by_cases c18 : x10_1 < (y107.length : Int)
                                      · rw [if_pos c18] at H
                                        have c18b0 : decide (x10_1 < (y107.length : Int)) = true := decide_eq_true c18
                                        clear c18
                                        obtain ⟨y111, hy111⟩ : ∃ y_ : List Int, y_ = (y107.set (x10_1 : Int).toNat (rd y104 (ji7))) := ⟨_, rfl⟩
                                        replace H : (if y104.length < 17592186044416 then (anchors_Parents.l0 k2 l0 y111 (y104 ++ [x10_1]) l0 (l0.length : Int) (wrap64 (x10_1 + 1))) else (none)) = some r := by first | (rw [hy111]; with_reducible exact H) | (have H2_ := (Option.bind_some _ _).symm.trans H; rw [hy111]; with_reducible exact H2_) | (have H2_ := (Option.bind_some _ _).symm.trans H; with_reducible exact H2_) | with_reducible exact H | (rw [hy111]; exact H) | exact H
                                        have Ny111 := Aside0.mk hy111
                                        clear hy111
                                        by_cases c20 : y104.length < 17592186044416
                                        · rw [if_pos c20] at H
                                          have LMc20 := Aside0.mk c20
                                          clear c20
                                          obtain ⟨y112, hy112⟩ : ∃ y_ : List Int, y_ = (y104 ++ [x10_1]) := ⟨_, rfl⟩
                                          replace H : (anchors_Parents.l0 k2 l0 y111 y112 l0 (l0.length : Int) (wrap64 (x10_1 + 1))) = some r := by first | (rw [hy112]; with_reducible exact H) | (have H2_ := (Option.bind_some _ _).symm.trans H; rw [hy112]; with_reducible exact H2_) | (have H2_ := (Option.bind_some _ _).symm.trans H; with_reducible exact H2_) | with_reducible exact H | (rw [hy112]; exact H) | exact H
                                          have Ny112 := Aside0.mk hy112
                                          clear hy112
                                          have H' := Aside0.mk H
                                          clear H
                                          have p102 : 0 ≤ ((ji7) : Int) := of_decide_eq_true (by first | (with_reducible assumption) | assumption)
                                          have q102 : (ji7) < (x4_1.length : Int) := of_decide_eq_true (by first | (with_reducible assumption) | assumption)
                                          obtain ⟨ad102, e102, hx102_0⟩ := Kd.at_int (Kd.R_reads' HO_4.out).2.2 (ji7) p102 q102
                                          cases e102
                                          replace p102 := eq_true p102
                                          replace q102 := eq_true q102
                                          have p103 : 0 ≤ ((rd x4_1 (ji7)) : Int) := of_decide_eq_true (by first | (with_reducible assumption) | assumption)
                                          have q103 : (rd x4_1 (ji7)) < (l0.length : Int) := of_decide_eq_true (by first | (with_reducible assumption) | assumption)
                                          obtain ⟨ad103, e103, hx103_0⟩ := Kd.at_int HR0.out (rd x4_1 (ji7)) p103 q103
                                          obtain rfl : ad101 = ad103 := (by injection e103)
                                          replace hx103_0 := (HB.out.cell (World.block_lt_of_cell? w _ hx103_0)).trans hx103_0
                                          replace p103 := eq_true p103
                                          replace q103 := eq_true q103
                                          have q21 : (x7_2 : Int) ≤ ((x4_1.length : Int) : Int) := of_decide_eq_true (by first | (with_reducible assumption) | assumption)
                                          obtain ⟨i021, hi021, _, hsz21, _⟩ := info_parts info3
                                          have hcut21 := Cap.cut_to3 (P := Try.prog) 22 3 .i64 .i64 Try.underlying22 hi021 (some ad102) x4_1.length co5 x7_2 (of_decide_eq_true (by first | (with_reducible assumption) | assumption)) q21 (Kd.R_reads' HO_4.out).2.1
                                          have hr21 := Kd.R_take (m := (x7_2 : Int).toNat) HO_4.out (by omega)
                                          have hy21 : y104.length = (x7_2 : Int).toNat := (by rw [Ny104.out, List.length_take]; omega)
                                          rw [← Ny104.out] at hr21
                                          rw [← hy21] at hr21 hcut21
                                          have HYC := Aside0.mk hy21; clear hy21 hi021 hsz21 HO_4
                                          have HO106 := Aside0.mk hr21
                                          clear hr21
                                          replace q21 := eq_true q21
                                          go_wp2_with (first | ((with_reducible refine gate_builtin (b := .append) (xs := #[.tmp 37, .tmp 38]) rfl ?_); at_builtin; refine Kd.R_append (Kd.int .i64) (w0 := w) w.heap.size rfl (.tmp 37) (.tmp 38) 22 3 (.int .i64 0) 8 rfl Try.underlying22 info3 rfl (by decide) (by omega) u3 x3_1 (-1) [.int .i64 (-1)] (fun k_ => some k_ ≠ (.slice (some ad102) y104.length co5 : Value).ownBlock) (fun _ => False) rfl rfl ?aP (fun _ hk => hk.elim) ?aF ?aO ?aB ?aS ?aL ?_; (case aP => exact rfl); (case aB => exact (by repeat (first | (with_reducible first | exact HB.out | apply below_alloc | apply pw_below_drewN | apply below_drew1) | exact HB.out))); (case aF => exact (fun k_ hk => Kd.fresh' (Kd.R_lt (by (with_reducible repeat (first | apply Kd.R_alloc | apply Kd.R_drewN | apply Kd.R_drew)); exact HO106.out)) k_ hk)); (case aO => exact (by (with_reducible repeat (first | apply Kd.R_alloc | apply Kd.R_drewN | apply Kd.R_drew)); exact HO_3.out)); (case aS => exact (below_size (by repeat (first | (with_reducible first | exact HB.out | apply below_alloc | apply pw_below_drewN | apply below_drew1) | exact HB.out)))); (case aL => have := LMc15.out; omega); intro v108 w22 ho hb hg hat; rw [← Ny107.out] at ho; have n0_ := Aside0.mk (Kd.R_after (ok := (fun _ => True)) (by (with_reducible repeat (first | apply Kd.R_alloc | apply Kd.R_drewN | apply Kd.R_drew)); exact Kd.R_mono HO106.out (fun _ hk => ⟨trivial, hk⟩)) hg hat); have n1_ := Aside0.mk (hb); have n2_ := Aside0.mk (ho); clear HO106; clear HB; clear HO_3; have HO106 := n0_; have HB := n1_; have HO109 := n2_; clear n0_ n1_ n2_; clear ho hb hg hat; have p110 : 0 ≤ ((ji7) : Int) := of_decide_eq_true (by first | (with_reducible assumption) | assumption); have q110 : (ji7) < (y104.length : Int) := of_decide_eq_true (by first | (with_reducible assumption) | assumption); obtain ⟨ad110, e110, hx110_0⟩ := Kd.at_int (Kd.R_reads' HO106.out).2.2 (ji7) p110 q110; obtain rfl : ad102 = ad110 := (by injection e110); replace p110 := eq_true p110; replace q110 := eq_true q110; have p19 : 0 ≤ (x10_1 : Int) := of_decide_eq_true (by first | (with_reducible assumption) | assumption); have q19 : (x10_1 : Int) < ((y107.length : Int) : Int) := of_decide_eq_true (by first | (with_reducible assumption) | assumption); obtain ⟨go19, co19, eo19, gb19, gl19, cl19, HG19⟩ := Kd.R_form HO109.out (by omega); (first | cases eo19 | (injection eo19 with ea_ en_ ec_; (first | subst ea_ | (injection ea_ with ea_; subst ea_)); subst ec_; clear en_)); have GB19 := Aside0.mk gb19; have GG19 := Aside0.mk HG19; clear gb19 gl19 HG19; obtain ⟨hx19_0, hf19_0⟩ := Kd.R_celln 0 HO109.out (x10_1 : Int) p19 q19; replace p19 := eq_true p19; replace q19 := eq_true q19; obtain ⟨hy23_, hz23_⟩ := Kd.R_celln 0 HO109.out (x10_1 : Int) (of_decide_eq_true (by first | (with_reducible assumption) | assumption)) (of_decide_eq_true (by first | (with_reducible assumption) | assumption)); have HP23 := Kd.R_putg HO109.out (x10_1 : Int) (rd y104 (ji7))) | ((with_reducible refine gate_store (t := 3) (p := 49) rfl ?_); refine store_event (t := 3) (p := 49) (v := ?vo_w24) (w1 := (w22.setCell ⟨go19, (x10_1 : Int).toNat, none⟩ (.int .i64 (rd y104 (ji7))))) ?hg ?ho ?hn ?hr ?_; (case ho => rfl); (case hg => rfl); (case hn => rfl); (case hr => first | (go_simp; done) | (go_simp; rfl)); intro w24 hw; have hg : w22.grownBy w24 (some go19) := (by rw [hw]; exact HP23.2); have hp_ : Kd.R (Kd.int .i64) 3 w24 w.heap.size (fun k_ => some k_ ≠ (.slice (some ad102) y104.length co5 : Value).ownBlock) (.slice (some ⟨go19, 0, none⟩) y107.length co19) y111 := (by rw [hw, Ny111.out]; exact HP23.1); clear HP23; have n0_ := Aside0.mk (Kd.R_after (v := (.slice (some ⟨go19, 0, none⟩) y107.length co19)) (v1 := (.slice (some ⟨go19, 0, none⟩) y107.length co19)) (ok := (fun _ => True)) (by (with_reducible repeat (first | apply Kd.R_alloc | apply Kd.R_drewN | apply Kd.R_drew)); exact HO106.out) hg (.inl rfl)); have n1_ := Aside0.mk (hp_); have n2_ := Aside0.mk ((by rw [hw]; exact below_set (HB.out) GB19.out : Below w.heap.size w w24)); clear HO106; clear HO109; clear HB; have HO106 := n0_; have HO109 := n1_; have HB := n2_; clear n0_ n1_ n2_; clear hg hw hp_) | ((with_reducible refine gate_builtin (b := .append) (xs := #[.tmp 50, .tmp 52]) rfl ?_); at_builtin; refine Cap.R_append_cut (Kd.int .i64) (w0 := w) w.heap.size rfl (.tmp 50) (.tmp 52) 22 3 (.int .i64 0) 8 rfl Try.underlying22 info3 rfl (by decide) (by omega) (some ad102) co5 y104 x10_1 [.int .i64 x10_1] (fun k_ => some k_ ≠ (.slice (some ⟨go19, 0, none⟩) y107.length co19 : Value).ownBlock) (fun _ => False) rfl rfl ?aP (fun _ hk => hk.elim) ?aF ?aO ?aB ?aS ?aL ?_; (case aP => exact rfl); (case aB => exact (by repeat (first | (with_reducible first | exact HB.out | apply below_alloc | apply pw_below_drewN | apply below_drew1) | exact HB.out))); (case aF => exact (fun k_ hk => Kd.fresh' (Kd.R_lt (by (with_reducible repeat (first | apply Kd.R_alloc | apply Kd.R_drewN | apply Kd.R_drew)); exact HO109.out)) k_ hk)); (case aO => exact (by (with_reducible repeat (first | apply Kd.R_alloc | apply Kd.R_drewN | apply Kd.R_drew)); exact Kd.R_mono HO106.out (fun _ hk => hk.2))); (case aS => exact (below_size (by repeat (first | (with_reducible first | exact HB.out | apply below_alloc | apply pw_below_drewN | apply below_drew1) | exact HB.out)))); (case aL => have := LMc20.out; omega); intro v113 w25 ho hb hg hat; rw [← Ny112.out] at ho; have n0_ := Aside0.mk (Kd.R_after (ok := (fun _ => True)) (by (with_reducible repeat (first | apply Kd.R_alloc | apply Kd.R_drewN | apply Kd.R_drew)); exact Kd.R_mono HO109.out (fun _ hk => ⟨trivial, hk⟩)) hg hat); have n1_ := Aside0.mk (hb); have n2_ := Aside0.mk (ho); clear HO109; clear HB; clear HO106; have HO109 := n0_; have HB := n1_; have HO114 := n2_; clear n0_ n1_ n2_; clear ho hb hg hat))
                                          go_roundg k2
                                          case measure => have := HK1.out; have := HK2.out; omega
                                          case rel => exact ⟨(y111), (y112), (wrap64 (x10_1 + 1)), (by first | rfl | (simp; done) | (simp [*]; done)), H', ⟨by have := HK1.out; have := HK2.out; omega⟩, ⟨by (with_reducible repeat (first | apply Kd.R_alloc | apply Kd.R_drewN | apply Kd.R_drew)); exact Kd.R_mono HO109.out (fun _ hk => hk.2)⟩, ⟨by (with_reducible repeat (first | apply Kd.R_alloc | apply Kd.R_drewN | apply Kd.R_drew)); exact HO114.out⟩, ⟨by repeat (first | (with_reducible first | exact HB.out | apply below_alloc | apply pw_below_drewN | apply below_drew1) | exact HB.out)⟩⟩
                                        · rw [if_neg c20] at H
                                          exact absurd H (by simp)
                                      · rw [if_neg c18] at H
                                        exact absurd H (by simp)
                                    · rw [if_neg c17] at H
                                      exact absurd H (by simp)
                                  · rw [if_neg c16] at H
                                    exact absurd H (by simp)
                                · rw [if_neg c15] at H
                                  exact absurd H (by simp)
                              · rw [if_neg c14] at H
                                exact absurd H (by simp)
                            · rw [if_neg c13] at H
                              exact absurd H (by simp)
                        · rw [if_neg c11] at H
                          exact absurd H (by simp)
                      · rw [if_neg c10] at H
                        exact absurd H (by simp)
                    · rw [if_neg c9] at H
                      exact absurd H (by simp)
                  · rw [if_neg c8] at H
                    exact absurd H (by simp)
                · rw [if_neg c6] at H
                  have c6b0 : decide (0 < x7_2) = false := decide_eq_false c6
                  clear c6
                  by_cases c26 : 0 ≤ x7_2
                  · rw [if_pos c26] at H
                    have c26b0 := eq_true c26
                    have c26b1 : decide (0 ≤ x7_2) = true := decide_eq_true c26
                    clear c26
                    by_cases c27 : x7_2 ≤ (x4_1.length : Int)
                    · rw [if_pos c27] at H
                      have c27b0 := eq_true c27
                      have c27b1 : decide (x7_2 ≤ (x4_1.length : Int)) = true := decide_eq_true c27
                      clear c27
                      obtain ⟨y115, hy115⟩ : ∃ y_ : List Int, y_ = (x4_1.take (x7_2 : Int).toNat) := ⟨_, rfl⟩
                      replace H : (if x3_1.length < 17592186044416 then (if y115.length < 17592186044416 then (anchors_Parents.l0 k2 l0 (x3_1 ++ [(-1)]) (y115 ++ [x10_1]) l0 (l0.length : Int) (wrap64 (x10_1 + 1))) else (none)) else (none)) = some r := by first | (rw [hy115]; with_reducible exact H) | (have H2_ := (Option.bind_some _ _).symm.trans H; rw [hy115]; with_reducible exact H2_) | (have H2_ := (Option.bind_some _ _).symm.trans H; with_reducible exact H2_) | with_reducible exact H | (rw [hy115]; exact H) | exact H
                      have Ny115 := Aside0.mk hy115
                      clear hy115
                      by_cases c28 : x3_1.length < 17592186044416
                      · rw [if_pos c28] at H
                        have LMc28 := Aside0.mk c28
                        clear c28
                        obtain ⟨y118, hy118⟩ : ∃ y_ : List Int, y_ = (x3_1 ++ [(-1)]) := ⟨_, rfl⟩
                        replace H : (if y115.length < 17592186044416 then (anchors_Parents.l0 k2 l0 y118 (y115 ++ [x10_1]) l0 (l0.length : Int) (wrap64 (x10_1 + 1))) else (none)) = some r := by first | (rw [hy118]; with_reducible exact H) | (have H2_ := (Option.bind_some _ _).symm.trans H; rw [hy118]; with_reducible exact H2_) | (have H2_ := (Option.bind_some _ _).symm.trans H; with_reducible exact H2_) | with_reducible exact H | (rw [hy118]; exact H) | exact H
                        have Ny118 := Aside0.mk hy118
                        clear hy118
                        by_cases c29 : y115.length < 17592186044416
                        · rw [if_pos c29] at H
                          have LMc29 := Aside0.mk c29
                          clear c29
                          obtain ⟨y121, hy121⟩ : ∃ y_ : List Int, y_ = (y115 ++ [x10_1]) := ⟨_, rfl⟩
                          replace H : (anchors_Parents.l0 k2 l0 y118 y121 l0 (l0.length : Int) (wrap64 (x10_1 + 1))) = some r := by first | (rw [hy121]; with_reducible exact H) | (have H2_ := (Option.bind_some _ _).symm.trans H; rw [hy121]; with_reducible exact H2_) | (have H2_ := (Option.bind_some _ _).symm.trans H; with_reducible exact H2_) | with_reducible exact H | (rw [hy121]; exact H) | exact H
                          have Ny121 := Aside0.mk hy121
                          clear hy121
                          have H' := Aside0.mk H
                          clear H
                          have q30 : (x7_2 : Int) ≤ ((x4_1.length : Int) : Int) := of_decide_eq_true (by first | (with_reducible assumption) | assumption)
                          obtain ⟨i030, hi030, _, hsz30, _⟩ := info_parts info3
                          have hcut30 := Cap.cut_to3 (P := Try.prog) 22 3 .i64 .i64 Try.underlying22 hi030 Ao5 x4_1.length co5 x7_2 (of_decide_eq_true (by first | (with_reducible assumption) | assumption)) q30 (Kd.R_reads' HO_4.out).2.1
                          have hr30 := Kd.R_take (m := (x7_2 : Int).toNat) HO_4.out (by omega)
                          have hy30 : y115.length = (x7_2 : Int).toNat := (by rw [Ny115.out, List.length_take]; omega)
                          rw [← Ny115.out] at hr30
                          rw [← hy30] at hr30 hcut30
                          have HYC := Aside0.mk hy30; clear hy30 hi030 hsz30 HO_4
                          have HO117 := Aside0.mk hr30
                          clear hr30
                          replace q30 := eq_true q30
                          go_wp2_with (first | ((with_reducible refine gate_builtin (b := .append) (xs := #[.tmp 37, .tmp 38]) rfl ?_); at_builtin; refine Kd.R_append (Kd.int .i64) (w0 := w) w.heap.size rfl (.tmp 37) (.tmp 38) 22 3 (.int .i64 0) 8 rfl Try.underlying22 info3 rfl (by decide) (by omega) u3 x3_1 (-1) [.int .i64 (-1)] (fun k_ => some k_ ≠ (.slice Ao5 y115.length co5 : Value).ownBlock) (fun _ => False) rfl rfl ?aP (fun _ hk => hk.elim) ?aF ?aO ?aB ?aS ?aL ?_; (case aP => exact rfl); (case aB => exact (by repeat (first | (with_reducible first | exact HB.out | apply below_alloc | apply pw_below_drewN | apply below_drew1) | exact HB.out))); (case aF => exact (fun k_ hk => Kd.fresh' (Kd.R_lt (by (with_reducible repeat (first | apply Kd.R_alloc | apply Kd.R_drewN | apply Kd.R_drew)); exact HO117.out)) k_ hk)); (case aO => exact (by (with_reducible repeat (first | apply Kd.R_alloc | apply Kd.R_drewN | apply Kd.R_drew)); exact Kd.R_mono HO_3.out (fun k_ hk_ => by revert hk_; cases Ao5 <;> exact id))); (case aS => exact (below_size (by repeat (first | (with_reducible first | exact HB.out | apply below_alloc | apply pw_below_drewN | apply below_drew1) | exact HB.out)))); (case aL => have := LMc28.out; omega); intro v119 w31 ho hb hg hat; rw [← Ny118.out] at ho; have n0_ := Aside0.mk (Kd.R_after (ok := (fun _ => True)) (by (with_reducible repeat (first | apply Kd.R_alloc | apply Kd.R_drewN | apply Kd.R_drew)); exact Kd.R_mono HO117.out (fun _ hk => ⟨trivial, hk⟩)) hg hat); have n1_ := Aside0.mk (hb); have n2_ := Aside0.mk (ho); clear HO117; clear HB; clear HO_3; have HO117 := n0_; have HB := n1_; have HO120 := n2_; clear n0_ n1_ n2_; clear ho hb hg hat) | ((with_reducible refine gate_builtin (b := .append) (xs := #[.tmp 50, .tmp 52]) rfl ?_); at_builtin; refine Cap.R_append_cut (Kd.int .i64) (w0 := w) w.heap.size rfl (.tmp 50) (.tmp 52) 22 3 (.int .i64 0) 8 rfl Try.underlying22 info3 rfl (by decide) (by omega) Ao5 co5 y115 x10_1 [.int .i64 x10_1] (fun k_ => some k_ ≠ (v119 : Value).ownBlock) (fun _ => False) rfl rfl ?aP (fun _ hk => hk.elim) ?aF ?aO ?aB ?aS ?aL ?_; (case aP => exact rfl); (case aB => exact (by repeat (first | (with_reducible first | exact HB.out | apply below_alloc | apply pw_below_drewN | apply below_drew1) | exact HB.out))); (case aF => exact (fun k_ hk => Kd.fresh' (Kd.R_lt (by (with_reducible repeat (first | apply Kd.R_alloc | apply Kd.R_drewN | apply Kd.R_drew)); exact HO120.out)) k_ hk)); (case aO => exact (by (with_reducible repeat (first | apply Kd.R_alloc | apply Kd.R_drewN | apply Kd.R_drew)); exact Kd.R_mono HO117.out (fun _ hk => hk.2))); (case aS => exact (below_size (by repeat (first | (with_reducible first | exact HB.out | apply below_alloc | apply pw_below_drewN | apply below_drew1) | exact HB.out)))); (case aL => have := LMc29.out; omega); intro v122 w32 ho hb hg hat; rw [← Ny121.out] at ho; have n0_ := Aside0.mk (Kd.R_after (ok := (fun _ => True)) (by (with_reducible repeat (first | apply Kd.R_alloc | apply Kd.R_drewN | apply Kd.R_drew)); exact Kd.R_mono HO120.out (fun _ hk => ⟨trivial, hk⟩)) hg hat); have n1_ := Aside0.mk (hb); have n2_ := Aside0.mk (ho); clear HO120; clear HB; clear HO117; have HO120 := n0_; have HB := n1_; have HO123 := n2_; clear n0_ n1_ n2_; clear ho hb hg hat))
                          go_roundg k2
                          case measure => have := HK1.out; have := HK2.out; omega
                          case rel => exact ⟨(y118), (y121), (wrap64 (x10_1 + 1)), (by first | rfl | (simp; done) | (simp [*]; done)), H', ⟨by have := HK1.out; have := HK2.out; omega⟩, ⟨by (with_reducible repeat (first | apply Kd.R_alloc | apply Kd.R_drewN | apply Kd.R_drew)); exact Kd.R_mono HO120.out (fun _ hk => hk.2)⟩, ⟨by (with_reducible repeat (first | apply Kd.R_alloc | apply Kd.R_drewN | apply Kd.R_drew)); exact HO123.out⟩, ⟨by repeat (first | (with_reducible first | exact HB.out | apply below_alloc | apply pw_below_drewN | apply below_drew1) | exact HB.out)⟩⟩
                        · rw [if_neg c29] at H
                          exact absurd H (by simp)
                      · rw [if_neg c28] at H
                        exact absurd H (by simp)
                    · rw [if_neg c27] at H
                      exact absurd H (by simp)
                  · rw [if_neg c26] at H
                    exact absurd H (by simp)
          · rw [if_neg c4] at H
            exact absurd H (by simp)
        · rw [if_neg c3] at H
          exact absurd H (by simp)
      · rw [if_neg c2] at H
        have c2b0 : decide (x10_1 < (l0.length : Int)) = false := decide_eq_false c2
        clear c2
        obtain rfl := Option.some.inj H
        go_wp2
        go_ret
        exact ⟨_, by first | rfl | (simp [errW_none, errW_some] <;> rfl) | (simp [*, errW_none, errW_some] <;> rfl), by (with_reducible repeat (first | apply Kd.R_alloc | apply Kd.R_drewN | apply Kd.R_drew)); exact Kd.R_mono HO_3.out (fun _ hk => trivial), by repeat (first | (with_reducible first | exact HB.out | apply below_alloc | apply pw_below_drewN | apply below_drew1) | exact HB.out)⟩

end Go.Proofs.Ytdoponngnjmkkaa.PAnchorsFrags
