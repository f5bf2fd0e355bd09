-- Written by a copy of the print that this session has turned (wip/tools/patchprint.py): arrays as records.
import Derived.Test.YtdoponngnjmkkaaPAnchorsReachx0
import Derived.Test.YtdoponngnjmkkaaPAnchorsReachx2
namespace Go.Proofs.Ytdoponngnjmkkaa.PAnchorsReach
open Go.RowKit Go.Proofs.YtdoponngnjmkkaaW.PrintWords Go.Proofs.YtdoponngnjmkkaaW.PrintLast Go.Proofs.YtdoponngnjmkkaaW.PrintMore
attribute [local go_sem] max2_int min2_int max_two min_two max_three min_three max_four min_four   -- for this text's walks alone
set_option linter.unusedVariables false
set_option linter.unusedSimpArgs false

/-! ### anchors_Knots: function 9 -/
mutual
def anchors_Knots.l0 : Nat → List (S27) → List (S71) → List Int → Int → Int → Option ((List (S27)))
  | 0, _, _, _, _, _ => none
  | k + 1, x4, x5, x14, x15, x16 => if x16 < x15 then (if 0 ≤ x16 then (if x16 < (x14.length : Int) then (if (-9223372036854775808) ≤ (rd x14 x16) then (if (rd x14 x16) ≤ 9223372036854775807 then (if x4.length < 2932031007402 then ((some (x4 ++ [(⟨rd x14 x16, wrap64 ((mget71 x5 (rd x14 x16)) - 1), (-1), (-1), (-1), 0⟩ : S27)] : List (S27))).bind fun y145 => (if (wrap64 ((mget71 x5 (rd x14 x16)) - 1)) ≥ 0 then (if 0 ≤ (wrap64 ((mget71 x5 (rd x14 x16)) - 1)) then (if (wrap64 ((mget71 x5 (rd x14 x16)) - 1)) < (y145.length : Int) then ((some (y145.set ((wrap64 ((mget71 x5 (rd x14 x16)) - 1)) : Int).toNat (⟨(rd_T27 y145 (wrap64 ((mget71 x5 (rd x14 x16)) - 1))).f0, (rd_T27 y145 (wrap64 ((mget71 x5 (rd x14 x16)) - 1))).f1, x16, (rd_T27 y145 (wrap64 ((mget71 x5 (rd x14 x16)) - 1))).f3, (rd_T27 y145 (wrap64 ((mget71 x5 (rd x14 x16)) - 1))).f4, (rd_T27 y145 (wrap64 ((mget71 x5 (rd x14 x16)) - 1))).f5⟩ : S27) : List (S27))).bind fun y148 => (if (rd x14 x16) ≥ 0 then (if 0 ≤ (rd x14 x16) then (if (rd x14 x16) < (y145.length : Int) then (if x5.length < 9223372036854775807 then (anchors_Knots.l0 k (y148.set ((rd x14 x16) : Int).toNat (⟨(rd_T27 y148 (rd x14 x16)).f0, (rd_T27 y148 (rd x14 x16)).f1, (rd_T27 y148 (rd x14 x16)).f2, (rd_T27 y148 (rd x14 x16)).f3, x16, (rd_T27 y148 (rd x14 x16)).f5⟩ : S27)) ((⟨rd x14 x16, wrap64 (x16 + 1)⟩ : S71) :: x5) x14 x15 (wrap64 (x16 + 1))) else (none)) else (none)) else (none)) else (if x5.length < 9223372036854775807 then (anchors_Knots.l0 k y148 ((⟨rd x14 x16, wrap64 (x16 + 1)⟩ : S71) :: x5) x14 x15 (wrap64 (x16 + 1))) else (none)))) else (none)) else (none)) else (if (rd x14 x16) ≥ 0 then (if 0 ≤ (rd x14 x16) then (if (rd x14 x16) < (y145.length : Int) then ((some (y145.set ((rd x14 x16) : Int).toNat (⟨(rd_T27 y145 (rd x14 x16)).f0, (rd_T27 y145 (rd x14 x16)).f1, (rd_T27 y145 (rd x14 x16)).f2, x16, (rd_T27 y145 (rd x14 x16)).f4, (rd_T27 y145 (rd x14 x16)).f5⟩ : S27) : List (S27))).bind fun y152 => (if x5.length < 9223372036854775807 then (anchors_Knots.l0 k (y152.set ((rd x14 x16) : Int).toNat (⟨(rd_T27 y152 (rd x14 x16)).f0, (rd_T27 y152 (rd x14 x16)).f1, (rd_T27 y152 (rd x14 x16)).f2, (rd_T27 y152 (rd x14 x16)).f3, x16, (rd_T27 y152 (rd x14 x16)).f5⟩ : S27)) ((⟨rd x14 x16, wrap64 (x16 + 1)⟩ : S71) :: x5) x14 x15 (wrap64 (x16 + 1))) else (none))) else (none)) else (none)) else (if x5.length < 9223372036854775807 then (anchors_Knots.l0 k y145 ((⟨rd x14 x16, wrap64 (x16 + 1)⟩ : S71) :: x5) x14 x15 (wrap64 (x16 + 1))) else (none))))) else (none)) else (none)) else (none)) else (none)) else (none)) else (anchors_Knots.l1 k x4 (wrap64 ((x4.length : Int) - 1)))
def anchors_Knots.l1 : Nat → List (S27) → Int → Option ((List (S27)))
  | 0, _, _ => none
  | k + 1, x4, x9 => if x9 ≥ 0 then (if 0 ≤ x9 then (if x9 < (x4.length : Int) then (if ((rd_T27 x4 x9).f0) ≥ 0 then (if 0 ≤ ((rd_T27 x4 x9).f0) then (if ((rd_T27 x4 x9).f0) < (x4.length : Int) then (anchors_Knots.l1 k (x4.set (((rd_T27 x4 x9).f0) : Int).toNat (⟨(rd_T27 x4 ((rd_T27 x4 x9).f0)).f0, (rd_T27 x4 ((rd_T27 x4 x9).f0)).f1, (rd_T27 x4 ((rd_T27 x4 x9).f0)).f2, (rd_T27 x4 ((rd_T27 x4 x9).f0)).f3, (rd_T27 x4 ((rd_T27 x4 x9).f0)).f4, wrap64 (((rd_T27 x4 ((rd_T27 x4 x9).f0)).f5) + (wrap64 (((rd_T27 x4 x9).f5) + 1)))⟩ : S27)) (wrap64 (x9 - 1))) else (none)) else (none)) else (anchors_Knots.l1 k x4 (wrap64 (x9 - 1)))) else (none)) else (none)) else (some x4)
end
def anchors_Knots.f (k : Nat) (l0 : List Int) : Option ((List (S27))) := (anchors_Parents.f k l0).bind fun t137 => (anchors_Knots.l0 k ([] : List (S27)) ([]) t137 (t137.length : Int) 0)
theorem anchors_Knots.mono_l : ∀ k, (∀ y0 y1 y2 y3 y4, LeO (anchors_Knots.l0 k y0 y1 y2 y3 y4) (anchors_Knots.l0 (k + 1) y0 y1 y2 y3 y4)) ∧ (∀ y0 y1, LeO (anchors_Knots.l1 k y0 y1) (anchors_Knots.l1 (k + 1) y0 y1))
  | 0 => ⟨fun _ _ _ _ _ r h => by simp [anchors_Knots.l0] at h, fun _ _ r h => by simp [anchors_Knots.l1] at h⟩
  | k + 1 => by
    obtain ⟨ih0, ih1⟩ := anchors_Knots.mono_l k
    refine ⟨?_, ?_⟩
    · intro y0 y1 y2 y3 y4
      unfold anchors_Knots.l0
      repeat' first
      | (with_reducible exact ih0 _ _ _ _ _)
      | (with_reducible exact ih1 _ _)
      | (with_reducible exact anchors_Parents.mono _ _)
      | (with_reducible exact LeO.refl _)
      | (with_reducible exact LeO.none _)
      | (with_reducible refine LeO.ite ?_ ?_)
      | (with_reducible refine LeO.bind ?_ (fun _ => ?_))
      | exact ih0 _ _ _ _ _
      | exact ih1 _ _
      | exact anchors_Parents.mono _ _
      | exact LeO.none _
      | refine LeO.ite ?_ ?_
      | refine LeO.bind ?_ (fun _ => ?_)
    · intro y0 y1
      unfold anchors_Knots.l1
      repeat' first
      | (with_reducible exact ih0 _ _ _ _ _)
      | (with_reducible exact ih1 _ _)
      | (with_reducible exact anchors_Parents.mono _ _)
      | (with_reducible exact LeO.refl _)
      | (with_reducible exact LeO.none _)
      | (with_reducible refine LeO.ite ?_ ?_)
      | (with_reducible refine LeO.bind ?_ (fun _ => ?_))
      | exact ih0 _ _ _ _ _
      | exact ih1 _ _
      | exact anchors_Parents.mono _ _
      | exact LeO.none _
      | refine LeO.ite ?_ ?_
      | refine LeO.bind ?_ (fun _ => ?_)
theorem anchors_Knots.mono : ∀ a0 k, LeO (anchors_Knots.f k a0) (anchors_Knots.f (k + 1) a0) := by
  intro a0 k
  obtain ⟨ih0, ih1⟩ := anchors_Knots.mono_l k
  unfold anchors_Knots.f
  repeat' first
      | (with_reducible exact ih0 _ _ _ _ _)
      | (with_reducible exact ih1 _ _)
      | (with_reducible exact anchors_Parents.mono _ _)
      | (with_reducible exact LeO.refl _)
      | (with_reducible exact LeO.none _)
      | (with_reducible refine LeO.ite ?_ ?_)
      | (with_reducible refine LeO.bind ?_ (fun _ => ?_))
      | exact ih0 _ _ _ _ _
      | exact ih1 _ _
      | exact anchors_Parents.mono _ _
      | exact LeO.none _
      | refine LeO.ite ?_ ?_
      | refine LeO.bind ?_ (fun _ => ?_)
def anchors_Knots.T22 : Bool × List (List Nat × List Nat) := (true, [([], []), ([], []), ([0, 1], [0, 1]), ([2], [2]), ([3], [3]), ([], []), ([], []), ([5, 6], [5, 6]), ([7], [7]), ([8], [8]), ([9], [9]), ([4, 10], [4, 10]), ([0, 1, 0, 1, 2, 3, 4, 5, 6, 7, 8, 9, 10, 11], [0, 1]), ([12, 0, 1, 2, 3, 4, 5, 6, 7, 8, 9, 10, 11], [12]), ([13, 11, 0, 1, 2, 3, 4, 5, 6, 7, 8, 9, 10, 11], [11, 13])])
def anchors_Knots.B22 : List Nat := [0, 0, 3, 7, 15, 0, 0, 96, 224, 480, 992, 2047, 4095, 8191, 16383]
theorem anchors_Knots.tab22 : rtab .any (opsOf Try.f9 22) = anchors_Knots.T22 := by kernel_rfl
theorem anchors_Knots.bits22 : waitsOk anchors_Knots.T22.2 anchors_Knots.B22 = true := by kernel_rfl
set_option maxHeartbeats 8000000 in
set_option maxRecDepth 100000 in
theorem anchors_Knots.calls (k : Nat) (A0 : Option Addr) (c0 : Nat) (l0 : List Int) (r : List (S27)) (w : World) (hr0 : Kd.C (Kd.int .i64) w A0 l0.length l0) (hc0 : l0.length ≤ c0) (h : anchors_Knots.f k l0 = some r) :
    Calls Try.prog 9 #[.slice A0 l0.length c0] w fun e w' => ∃ v0_ : Value, e = .returned (v0_) ∧ Kd.R k27 27 w' w.heap.size (fun _ => True) v0_ r ∧ Below w.heap.size w w' := by
  have hu27 := Try.underlying27
  have HR0 := Aside0.mk hr0
  have HC0 := Aside0.mk hc0
  clear hr0 hc0
  have HB := Aside0.mk (Below.refl w.heap.size w)
  have H : ((anchors_Parents.f k l0).bind fun t137 => (anchors_Knots.l0 k ([] : List (S27)) ([]) t137 (t137.length : Int) 0)) = some r := h
  clear h
  replace H := Option.bind_eq_some_iff.mp H
  obtain ⟨t137, A20, H⟩ := H
  replace H : (anchors_Knots.l0 k ([] : List (S27)) ([]) t137 (t137.length : Int) 0) = some r := H
  have A2 := Aside0.mk A20
  clear A20
  obtain ⟨y140, hy140⟩ : ∃ y_ : List (S71), y_ = ([]) := ⟨_, rfl⟩
  replace H : (anchors_Knots.l0 k ([] : List (S27)) y140 t137 (t137.length : Int) 0) = some r := by first | (rw [hy140]; with_reducible exact H) | (have H2_ := (Option.bind_some _ _).symm.trans H; rw [hy140]; with_reducible exact H2_) | (have H2_ := (Option.bind_some _ _).symm.trans H; with_reducible exact H2_) | with_reducible exact H | (rw [hy140]; exact H) | exact H
  have Ny140 := Aside0.mk hy140
  clear hy140
  have H' := Aside0.mk H
  clear H
  go_enter Try.func9, Try.ntmps9
  go_wp2_with (first | ((with_reducible refine gate_callee (f := 14) rfl ?_); refine goesL_ (some 12) rfl rfl Try.func14 (by kernel_rfl) rfl #[.slice A0 l0.length c0] rfl (by (try simp only [List.map_toArray, List.map_cons, List.map_nil]); first | done | rfl | (simp only [List.length_drop, List.length_take]; rfl)) ?_; (with_reducible refine (anchors_Parents.calls k _ _ l0 t137 _ ?side1 ?side2 A2.out).mono ?_); (case side1 => repeat (first | exact HR0.out | (with_reducible refine Kd.C_alloc ?_ _) | (with_reducible refine Kd.C_drewN ?_ _) | (with_reducible refine Kd.C_drew ?_))); (case side2 => exact HC0.out); rintro e w3 ⟨v138, rfl, ho0, hb⟩; refine ⟨_, rfl, ?_⟩; have n0_ := Aside0.mk (Kd.R_lower ho0 (below_size (by repeat (first | (with_reducible first | exact HB.out | apply below_alloc | apply pw_below_drewN | apply below_drew1) | exact HB.out)))); have n1_ := Aside0.mk (below_step (by repeat (first | (with_reducible first | exact HB.out | apply below_alloc | apply pw_below_drewN | apply below_drew1) | exact HB.out)) hb); clear HB; have HO139 := n0_; have HB := n1_; clear n0_ n1_; (try clear hb); (try clear hb2); (try clear hk); (try clear hi); (try clear ho0)) | ((with_reducible refine gate_dst (N := 13) rfl ?_); refine Kd.MP_make k71 71 rfl 52 rfl ?_; intro v141 w4 ho5 hb hg_ hnew_; clear hg_ hnew_; rw [← Ny140.out] at ho5; have n0_ := Aside0.mk (Kd.R_below (by (with_reducible repeat (first | apply Kd.R_alloc | apply Kd.R_drewN | apply Kd.R_drew)); exact HO139.out) hb); have n1_ := Aside0.mk (Kd.MP_lower ho5 (below_size (by repeat (first | (with_reducible first | exact HB.out | apply below_alloc | apply pw_below_drewN | apply below_drew1) | exact HB.out)))); have n2_ := Aside0.mk (below_step (by repeat (first | (with_reducible first | exact HB.out | apply below_alloc | apply pw_below_drewN | apply below_drew1) | exact HB.out)) hb); clear HO139; clear HB; have HO139 := n0_; have HO142 := n1_; have HB := n2_; clear n0_ n1_ n2_; clear hb ho5; obtain ⟨Ao6, co6, eo6⟩ := Kd.R_slice HO139.out; subst eo6))
  go_loopg [4, 16] k (fun kq v4 v16 w' => ∃ (x4_1 : List (S27)) (x5_1 : List (S71)) (x16_1 : Int), v16 = .int .i64 x16_1 ∧ Aside0 (anchors_Knots.l0 kq x4_1 x5_1 t137 (t137.length : Int) x16_1 = some r) ∧ Aside0 (kq ≤ k) ∧ Aside0 (Kd.R k27 27 w' w.heap.size (fun _ => True) v4 x4_1) ∧ Aside0 (Kd.MP k71 71 w' w.heap.size (fun _ => True) v141 x5_1) ∧ Aside0 (Kd.R (Kd.int .i64) 3 w' w.heap.size (fun _ => True) (.slice Ao6 t137.length co6) t137) ∧ Aside0 (Below w.heap.size w w'))
  case atStart => exact ⟨(([] : List (S27))), (y140), (0), (by first | rfl | (simp; done) | (simp [*]; done)), H', ⟨Nat.le_refl _⟩, ⟨by first | exact Kd.R_nil _ _ _ _ _ | exact Kd.N_nil _ _ _ _ _ | exact Kd.V_nil _ _ _ _ _ | exact Kd.Q_nil _ _ _ _ _ | exact Kd.S_nil _ _ _ _ _⟩, ⟨by (with_reducible repeat (first | apply Kd.MP_alloc | apply Kd.MP_drewN | apply Kd.MP_drew)); exact HO142.out⟩, ⟨by (with_reducible repeat (first | apply Kd.R_alloc | apply Kd.R_drewN | apply Kd.R_drew)); exact HO139.out⟩, ⟨by repeat (first | (with_reducible first | exact HB.out | apply below_alloc | apply pw_below_drewN | apply below_drew1) | exact HB.out)⟩⟩
  case round =>
    clear H'
    try clear c1
    try clear p2
    obtain ⟨x4_1, x5_1, x16_1, rfl, HA, HK1, HO_4, HO_5, HO_14, HB⟩ := hrel
    cases gk with
    | zero => exact absurd HA.out (by simp [anchors_Knots.l0])
    | succ k1 =>
      have H := HA.out
      clear HA
      simp only [anchors_Knots.l0] at H
      by_cases c7 : x16_1 < (t137.length : Int)
      · rw [if_pos c7] at H
        have c7b0 : decide (x16_1 < (t137.length : Int)) = true := decide_eq_true c7
        clear c7
        by_cases c8 : 0 ≤ x16_1
        · rw [if_pos c8] at H
          have c8b0 : decide (0 ≤ x16_1) = true := decide_eq_true c8
          clear c8
          by_cases c9 : x16_1 < (t137.length : Int)
          · rw [if_pos c9] at H
            have c9b0 : decide (x16_1 < (t137.length : Int)) = true := decide_eq_true c9
            clear c9
            by_cases c10 : (-9223372036854775808) ≤ (rd t137 x16_1)
            · rw [if_pos c10] at H
              have c10b0 := eq_true c10
              have c10b1 : decide ((-9223372036854775808) ≤ (rd t137 x16_1)) = true := decide_eq_true c10
              clear c10
              by_cases c11 : (rd t137 x16_1) ≤ 9223372036854775807
              · rw [if_pos c11] at H
                have c11b0 := eq_true c11
                have c11b1 : decide ((rd t137 x16_1) ≤ 9223372036854775807) = true := decide_eq_true c11
                try have c11b2 : (9223372036854775807 < (rd t137 x16_1)) = False := eq_false (Nat.not_lt.2 c11)
                clear c11
                by_cases c12 : x4_1.length < 2932031007402
                · rw [if_pos c12] at H
                  have LMc12 := Aside0.mk c12
                  clear c12
                  obtain ⟨y145, hy145⟩ : ∃ y_ : List (S27), y_ = (x4_1 ++ [(⟨rd t137 x16_1, wrap64 ((mget71 x5_1 (rd t137 x16_1)) - 1), (-1), (-1), (-1), 0⟩ : S27)]) := ⟨_, rfl⟩
                  replace H : (if (wrap64 ((mget71 x5_1 (rd t137 x16_1)) - 1)) ≥ 0 then (if 0 ≤ (wrap64 ((mget71 x5_1 (rd t137 x16_1)) - 1)) then (if (wrap64 ((mget71 x5_1 (rd t137 x16_1)) - 1)) < (y145.length : Int) then ((some (y145.set ((wrap64 ((mget71 x5_1 (rd t137 x16_1)) - 1)) : Int).toNat (⟨(rd_T27 y145 (wrap64 ((mget71 x5_1 (rd t137 x16_1)) - 1))).f0, (rd_T27 y145 (wrap64 ((mget71 x5_1 (rd t137 x16_1)) - 1))).f1, x16_1, (rd_T27 y145 (wrap64 ((mget71 x5_1 (rd t137 x16_1)) - 1))).f3, (rd_T27 y145 (wrap64 ((mget71 x5_1 (rd t137 x16_1)) - 1))).f4, (rd_T27 y145 (wrap64 ((mget71 x5_1 (rd t137 x16_1)) - 1))).f5⟩ : S27) : List (S27))).bind fun y148 => (if (rd t137 x16_1) ≥ 0 then (if 0 ≤ (rd t137 x16_1) then (if (rd t137 x16_1) < (y145.length : Int) then (if x5_1.length < 9223372036854775807 then (anchors_Knots.l0 k1 (y148.set ((rd t137 x16_1) : Int).toNat (⟨(rd_T27 y148 (rd t137 x16_1)).f0, (rd_T27 y148 (rd t137 x16_1)).f1, (rd_T27 y148 (rd t137 x16_1)).f2, (rd_T27 y148 (rd t137 x16_1)).f3, x16_1, (rd_T27 y148 (rd t137 x16_1)).f5⟩ : S27)) ((⟨rd t137 x16_1, wrap64 (x16_1 + 1)⟩ : S71) :: x5_1) t137 (t137.length : Int) (wrap64 (x16_1 + 1))) else (none)) else (none)) else (none)) else (if x5_1.length < 9223372036854775807 then (anchors_Knots.l0 k1 y148 ((⟨rd t137 x16_1, wrap64 (x16_1 + 1)⟩ : S71) :: x5_1) t137 (t137.length : Int) (wrap64 (x16_1 + 1))) else (none)))) else (none)) else (none)) else (if (rd t137 x16_1) ≥ 0 then (if 0 ≤ (rd t137 x16_1) then (if (rd t137 x16_1) < (y145.length : Int) then ((some (y145.set ((rd t137 x16_1) : Int).toNat (⟨(rd_T27 y145 (rd t137 x16_1)).f0, (rd_T27 y145 (rd t137 x16_1)).f1, (rd_T27 y145 (rd t137 x16_1)).f2, x16_1, (rd_T27 y145 (rd t137 x16_1)).f4, (rd_T27 y145 (rd t137 x16_1)).f5⟩ : S27) : List (S27))).bind fun y152 => (if x5_1.length < 9223372036854775807 then (anchors_Knots.l0 k1 (y152.set ((rd t137 x16_1) : Int).toNat (⟨(rd_T27 y152 (rd t137 x16_1)).f0, (rd_T27 y152 (rd t137 x16_1)).f1, (rd_T27 y152 (rd t137 x16_1)).f2, (rd_T27 y152 (rd t137 x16_1)).f3, x16_1, (rd_T27 y152 (rd t137 x16_1)).f5⟩ : S27)) ((⟨rd t137 x16_1, wrap64 (x16_1 + 1)⟩ : S71) :: x5_1) t137 (t137.length : Int) (wrap64 (x16_1 + 1))) else (none))) else (none)) else (none)) else (if x5_1.length < 9223372036854775807 then (anchors_Knots.l0 k1 y145 ((⟨rd t137 x16_1, wrap64 (x16_1 + 1)⟩ : S71) :: x5_1) t137 (t137.length : Int) (wrap64 (x16_1 + 1))) else (none)))) = some r := by first | (rw [hy145]; with_reducible exact H) | (have H2_ := (Option.bind_some _ _).symm.trans H; rw [hy145]; with_reducible exact H2_) | (have H2_ := (Option.bind_some _ _).symm.trans H; with_reducible exact H2_) | with_reducible exact H | (rw [hy145]; exact H) | exact H
                  have Ny145 := Aside0.mk hy145
                  clear hy145
                  by_cases c13 : (wrap64 ((mget71 x5_1 (rd t137 x16_1)) - 1)) ≥ 0
                  · rw [if_pos c13] at H
                    have c13b0 : decide (0 ≤ (wrap64 ((mget71 x5_1 (rd t137 x16_1)) - 1))) = true := decide_eq_true c13
                    clear c13
                    obtain ⟨ji14, hji14⟩ : ∃ j_ : Int, (wrap64 ((mget71 x5_1 (rd t137 x16_1)) - 1)) = j_ := ⟨_, rfl⟩
                    replace H : (if 0 ≤ (ji14) then (if (ji14) < (y145.length : Int) then ((some (y145.set ((ji14) : Int).toNat (⟨(rd_T27 y145 (ji14)).f0, (rd_T27 y145 (ji14)).f1, x16_1, (rd_T27 y145 (ji14)).f3, (rd_T27 y145 (ji14)).f4, (rd_T27 y145 (ji14)).f5⟩ : S27) : List (S27))).bind fun y148 => (if (rd t137 x16_1) ≥ 0 then (if 0 ≤ (rd t137 x16_1) then (if (rd t137 x16_1) < (y145.length : Int) then (if x5_1.length < 9223372036854775807 then (anchors_Knots.l0 k1 (y148.set ((rd t137 x16_1) : Int).toNat (⟨(rd_T27 y148 (rd t137 x16_1)).f0, (rd_T27 y148 (rd t137 x16_1)).f1, (rd_T27 y148 (rd t137 x16_1)).f2, (rd_T27 y148 (rd t137 x16_1)).f3, x16_1, (rd_T27 y148 (rd t137 x16_1)).f5⟩ : S27)) ((⟨rd t137 x16_1, wrap64 (x16_1 + 1)⟩ : S71) :: x5_1) t137 (t137.length : Int) (wrap64 (x16_1 + 1))) else (none)) else (none)) else (none)) else (if x5_1.length < 9223372036854775807 then (anchors_Knots.l0 k1 y148 ((⟨rd t137 x16_1, wrap64 (x16_1 + 1)⟩ : S71) :: x5_1) t137 (t137.length : Int) (wrap64 (x16_1 + 1))) else (none)))) else (none)) else (none)) = some r := by first | (rw [hji14] at H; exact H) | (simp only [hji14] at H ⊢; exact H)
                    (try rw [hji14] at c13b0)
                    (try rw [hji14] at Ny145)
                    have hji14w : (IntKind.i64.wrap ((mget71 x5_1 (rd t137 x16_1)) - 1)) = ji14 := (i64_w _).trans hji14
                    by_cases c15 : 0 ≤ (ji14)
                    · rw [if_pos c15] at H
                      have c15b0 : decide (0 ≤ (ji14)) = true := decide_eq_true c15
                      clear c15
                      by_cases c16 : (ji14) < (y145.length : Int)
                      · rw [if_pos c16] at H
                        have c16b0 : decide ((ji14) < (y145.length : Int)) = true := decide_eq_true c16
                        clear c16
                        obtain ⟨y148, hy148⟩ : ∃ y_ : List (S27), y_ = (y145.set ((ji14) : Int).toNat (⟨(rd_T27 y145 (ji14)).f0, (rd_T27 y145 (ji14)).f1, x16_1, (rd_T27 y145 (ji14)).f3, (rd_T27 y145 (ji14)).f4, (rd_T27 y145 (ji14)).f5⟩ : S27)) := ⟨_, rfl⟩
                        replace H : (if (rd t137 x16_1) ≥ 0 then (if 0 ≤ (rd t137 x16_1) then (if (rd t137 x16_1) < (y145.length : Int) then (if x5_1.length < 9223372036854775807 then (anchors_Knots.l0 k1 (y148.set ((rd t137 x16_1) : Int).toNat (⟨(rd_T27 y148 (rd t137 x16_1)).f0, (rd_T27 y148 (rd t137 x16_1)).f1, (rd_T27 y148 (rd t137 x16_1)).f2, (rd_T27 y148 (rd t137 x16_1)).f3, x16_1, (rd_T27 y148 (rd t137 x16_1)).f5⟩ : S27)) ((⟨rd t137 x16_1, wrap64 (x16_1 + 1)⟩ : S71) :: x5_1) t137 (t137.length : Int) (wrap64 (x16_1 + 1))) else (none)) else (none)) else (none)) else (if x5_1.length < 9223372036854775807 then (anchors_Knots.l0 k1 y148 ((⟨rd t137 x16_1, wrap64 (x16_1 + 1)⟩ : S71) :: x5_1) t137 (t137.length : Int) (wrap64 (x16_1 + 1))) else (none))) = some r := by first | (rw [hy148]; with_reducible exact H) | (have H2_ := (Option.bind_some _ _).symm.trans H; rw [hy148]; with_reducible exact H2_) | (have H2_ := (Option.bind_some _ _).symm.trans H; with_reducible exact H2_) | with_reducible exact H | (rw [hy148]; exact H) | exact H
                        have Ny148 := Aside0.mk hy148
                        clear hy148
                        by_cases c18 : (rd t137 x16_1) ≥ 0
                        · rw [if_pos c18] at H
                          have c18b0 : decide (0 ≤ (rd t137 x16_1)) = true := decide_eq_true c18
                          clear c18
                          by_cases c19 : 0 ≤ (rd t137 x16_1)
                          · rw [if_pos c19] at H
                            have c19b0 : decide (0 ≤ (rd t137 x16_1)) = true := decide_eq_true c19
                            clear c19
                            by_cases c20 : (rd t137 x16_1) < (y145.length : Int)
                            · rw [if_pos c20] at H
                              have c20b0 : decide ((rd t137 x16_1) < (y145.length : Int)) = true := decide_eq_true c20
                              clear c20
                              obtain ⟨y149, hy149⟩ : ∃ y_ : List (S27), y_ = (y148.set ((rd t137 x16_1) : Int).toNat (⟨(rd_T27 y148 (rd t137 x16_1)).f0, (rd_T27 y148 (rd t137 x16_1)).f1, (rd_T27 y148 (rd t137 x16_1)).f2, (rd_T27 y148 (rd t137 x16_1)).f3, x16_1, (rd_T27 y148 (rd t137 x16_1)).f5⟩ : S27)) := ⟨_, rfl⟩
                              replace H : (if x5_1.length < 9223372036854775807 then (anchors_Knots.l0 k1 y149 ((⟨rd t137 x16_1, wrap64 (x16_1 + 1)⟩ : S71) :: x5_1) t137 (t137.length : Int) (wrap64 (x16_1 + 1))) else (none)) = some r := by first | (rw [hy149]; with_reducible exact H) | (have H2_ := (Option.bind_some _ _).symm.trans H; rw [hy149]; with_reducible exact H2_) | (have H2_ := (Option.bind_some _ _).symm.trans H; with_reducible exact H2_) | with_reducible exact H | (rw [hy149]; exact H) | exact H
                              have Ny149 := Aside0.mk hy149
                              clear hy149
                              have c22b0 := eq_true (of_decide_eq_true (by first | (with_reducible assumption) | assumption) : (-9223372036854775808) ≤ (rd t137 x16_1))
                              have c23b0 := eq_true (of_decide_eq_true (by first | (with_reducible assumption) | assumption) : (rd t137 x16_1) ≤ 9223372036854775807)
                              by_cases c24 : x5_1.length < 9223372036854775807
                              · rw [if_pos c24] at H
                                have LMc24 := Aside0.mk c24
                                clear c24
                                obtain ⟨y150, hy150⟩ : ∃ y_ : List (S71), y_ = ((⟨rd t137 x16_1, wrap64 (x16_1 + 1)⟩ : S71) :: x5_1) := ⟨_, rfl⟩
                                replace H : (anchors_Knots.l0 k1 y149 y150 t137 (t137.length : Int) (wrap64 (x16_1 + 1))) = some r := by first | (rw [hy150]; with_reducible exact H) | (have H2_ := (Option.bind_some _ _).symm.trans H; rw [hy150]; with_reducible exact H2_) | (have H2_ := (Option.bind_some _ _).symm.trans H; with_reducible exact H2_) | with_reducible exact H | (rw [hy150]; exact H) | exact H
                                have Ny150 := Aside0.mk hy150
                                clear hy150
                                have H' := Aside0.mk H
                                clear H
                                have p143 : 0 ≤ (x16_1 : Int) := of_decide_eq_true (by first | (with_reducible assumption) | assumption)
                                have q143 : x16_1 < (t137.length : Int) := of_decide_eq_true (by first | (with_reducible assumption) | assumption)
                                obtain ⟨ad143, e143, hx143_0⟩ := Kd.at_int (Kd.R_reads' HO_14.out).2.2 x16_1 p143 q143
                                cases e143
                                replace p143 := eq_true p143
                                replace q143 := eq_true q143
                                go_wp2_with (first | ((with_reducible refine gate_dst (N := 24) rfl ?_); at_lookup; refine Kd.MP_lookup k71 rfl _ _ 52 rfl rfl kmap52 Try.underlying52 Try.underlying3 (zmap52 _) (show Kd.MP k71 71 _ w.heap.size (fun _ => True) v141 x5_1 from by (with_reducible repeat (first | apply Kd.MP_alloc | apply Kd.MP_drewN | apply Kd.MP_drew)); exact HO_5.out) (rd t137 x16_1) (mget71 x5_1 (rd t137 x16_1)) rfl rfl rfl (Go.Maps.keyOf_int_mk Try.underlying3 (Go.Proofs.YtdoponngnjmkkaaM.wf_i64 (of_decide_eq_true (by first | (with_reducible assumption) | assumption)) (of_decide_eq_true (by first | (with_reducible assumption) | assumption)))) ?_) | ((with_reducible refine gate_dst (N := 8) rfl ?_); refine box_event ?hg (N := 8) ?hd (cs := #[.int .i64 0, .int .i64 0, .int .i64 0, .int .i64 0, .int .i64 0, .int .i64 0]) (t := 27) ?hr ?_; (case hd => rfl); (case hg => rfl); (case hr => first | (go_simp; done) | (go_simp; rfl)); intro gb144 hg w25 hbox hb; have n0_ := Aside0.mk (Kd.R_below (Kd.R_elderB (by (with_reducible repeat (first | apply Kd.R_alloc | apply Kd.R_drewN | apply Kd.R_drew)); exact HO_4.out) gb144 (Nat.le_of_eq hg.symm)) hb); have n1_ := Aside0.mk (Kd.MP_below (by (with_reducible repeat (first | apply Kd.MP_alloc | apply Kd.MP_drewN | apply Kd.MP_drew)); exact HO_5.out) hb); have n2_ := Aside0.mk (Kd.R_below (by (with_reducible repeat (first | apply Kd.R_alloc | apply Kd.R_drewN | apply Kd.R_drew)); exact HO_14.out) hb); have n3_ := Aside0.mk (below_step (by repeat (first | (with_reducible first | exact HB.out | apply below_alloc | apply pw_below_drewN | apply below_drew1) | exact HB.out)) hb); have n4_ := Aside0.mk (hbox); have n5_ := Aside0.mk ((by rw [hg]; exact (below_size (by repeat (first | (with_reducible first | exact HB.out | apply below_alloc | apply pw_below_drewN | apply below_drew1) | exact HB.out))) : w.heap.size ≤ gb144)); have n6_ := Aside0.mk ((by rw [hg]; exact (below_size (by repeat (first | (with_reducible first | exact HB.out | apply below_alloc | apply pw_below_drewN | apply below_drew1) | exact HB.out))) : w.heap.size ≤ gb144)); clear HO_4; clear HO_5; clear HO_14; clear HB; have HO_4 := n0_; have HO_5 := n1_; have HO_14 := n2_; have HB := n3_; have BK144 := n4_; have GW144 := n5_; have GE144 := n6_; clear n0_ n1_ n2_ n3_ n4_ n5_ n6_; clear hb hbox hg; have hcz26_0 : w25.cell? ⟨gb144, 0, none⟩ = some (.int .i64 0) := (blk_cell BK144.out 0).trans rfl; have hcz26_1 : w25.cell? ⟨gb144, 1, none⟩ = some (.int .i64 0) := (blk_cell BK144.out 1).trans rfl; have hcz26_2 : w25.cell? ⟨gb144, 2, none⟩ = some (.int .i64 0) := (blk_cell BK144.out 2).trans rfl; have hcz26_3 : w25.cell? ⟨gb144, 3, none⟩ = some (.int .i64 0) := (blk_cell BK144.out 3).trans rfl; have hcz26_4 : w25.cell? ⟨gb144, 4, none⟩ = some (.int .i64 0) := (blk_cell BK144.out 4).trans rfl; have hcz26_5 : w25.cell? ⟨gb144, 5, none⟩ = some (.int .i64 0) := (blk_cell BK144.out 5).trans rfl; have hfz26_0 := blk_frozen BK144.out 0; have hfz26_1 := blk_frozen BK144.out 1; have hfz26_2 := blk_frozen BK144.out 2; have hfz26_3 := blk_frozen BK144.out 3; have hfz26_4 := blk_frozen BK144.out 4; have hfz26_5 := blk_frozen BK144.out 5) | ((with_reducible refine gate_builtin (b := .append) (xs := #[.tmp 27, .tmp 29]) rfl ?_); at_builtin; refine Kd.R_append k27 (w0 := w) w.heap.size rfl (.tmp 27) (.tmp 29) 24 27 (.agg #[(.int .i64 0), (.int .i64 0), (.int .i64 0), (.int .i64 0), (.int .i64 0), (.int .i64 0)]) 48 rfl Try.underlying24 info27 rfl (by decide) (by omega) u4 x4_1 (⟨rd t137 x16_1, ji14, (-1), (-1), (-1), 0⟩ : S27) [.int .i64 (rd t137 x16_1), .int .i64 ji14, .int .i64 (-1), .int .i64 (-1), .int .i64 (-1), .int .i64 0] (fun k_ => k_ ≠ gb144) (fun _ => False) rfl (by first | (go_simp; done) | (go_simp; rfl)) ?aP (fun _ hk => hk.elim) ?aF ?aO ?aB ?aS ?aL ?_; (case aP => exact k27_mkM _ _ _ (⟨rd t137 x16_1, ji14, (-1), (-1), (-1), 0⟩ : S27)); (case aB => exact (by repeat (first | (with_reducible first | exact HB.out | apply below_alloc | apply pw_below_drewN | apply below_drew1 | refine below_set ?_ GE144.out) | exact HB.out))); (case aF => exact (fun k_ hk => Kd.freshB (g := gb144) (o := .cells #[.int .i64 (rd t137 x16_1), .int .i64 ji14, .int .i64 (-1), .int .i64 (-1), .int .i64 (-1), .int .i64 0] 27 (0, 0)) (by (with_reducible repeat (first | refine blk_drewN ?_ _ | refine blk_drew ?_ | refine blk_alloc ?_ _)); refine blk_put (cs := #[.int .i64 (rd t137 x16_1), .int .i64 ji14, .int .i64 (-1), .int .i64 (-1), .int .i64 (-1), .int .i64 0]) ?_ 5 _ rfl; (with_reducible repeat (first | refine blk_drewN ?_ _ | refine blk_drew ?_ | refine blk_alloc ?_ _)); refine blk_put (cs := #[.int .i64 (rd t137 x16_1), .int .i64 ji14, .int .i64 (-1), .int .i64 (-1), .int .i64 0, .int .i64 0]) ?_ 4 _ rfl; (with_reducible repeat (first | refine blk_drewN ?_ _ | refine blk_drew ?_ | refine blk_alloc ?_ _)); refine blk_put (cs := #[.int .i64 (rd t137 x16_1), .int .i64 ji14, .int .i64 (-1), .int .i64 0, .int .i64 0, .int .i64 0]) ?_ 3 _ rfl; (with_reducible repeat (first | refine blk_drewN ?_ _ | refine blk_drew ?_ | refine blk_alloc ?_ _)); refine blk_put (cs := #[.int .i64 (rd t137 x16_1), .int .i64 ji14, .int .i64 0, .int .i64 0, .int .i64 0, .int .i64 0]) ?_ 2 _ rfl; (with_reducible repeat (first | refine blk_drewN ?_ _ | refine blk_drew ?_ | refine blk_alloc ?_ _)); refine blk_put (cs := #[.int .i64 (rd t137 x16_1), .int .i64 0, .int .i64 0, .int .i64 0, .int .i64 0, .int .i64 0]) ?_ 1 _ rfl; (with_reducible repeat (first | refine blk_drewN ?_ _ | refine blk_drew ?_ | refine blk_alloc ?_ _)); refine blk_put (cs := #[.int .i64 0, .int .i64 0, .int .i64 0, .int .i64 0, .int .i64 0, .int .i64 0]) ?_ 0 _ rfl; (with_reducible repeat (first | refine blk_drewN ?_ _ | refine blk_drew ?_ | refine blk_alloc ?_ _)); exact BK144.out) k_ hk)); (case aO => exact (by (with_reducible repeat (first | apply Kd.R_alloc | apply Kd.R_drewN | apply Kd.R_drew)); exact Kd.R_mono (Kd.R_far (p := ⟨gb144, 5, none⟩) (Kd.R_far (p := ⟨gb144, 4, none⟩) (Kd.R_far (p := ⟨gb144, 3, none⟩) (Kd.R_far (p := ⟨gb144, 2, none⟩) (Kd.R_far (p := ⟨gb144, 1, none⟩) (Kd.R_far (p := ⟨gb144, 0, none⟩) (Kd.R_mono HO_4.out (fun k_ hk => (⟨hk, hk.2⟩ : _ ∧ k_ ≠ gb144))) (fun _ hk => hk.2) (.int .i64 (rd t137 x16_1))) (fun _ hk => hk.2) (.int .i64 ji14)) (fun _ hk => hk.2) (.int .i64 (-1))) (fun _ hk => hk.2) (.int .i64 (-1))) (fun _ hk => hk.2) (.int .i64 (-1))) (fun _ hk => hk.2) (.int .i64 0)) (fun _ hk => hk.1.2))); (case aS => exact (below_size (by repeat (first | (with_reducible first | exact HB.out | apply below_alloc | apply pw_below_drewN | apply below_drew1 | refine below_set ?_ GE144.out) | exact HB.out)))); (case aL => have := LMc12.out; omega); intro v146 w27 ho hb hg hat; rw [← Ny145.out] at ho; have n0_ := Aside0.mk (Kd.MP_over' (by (with_reducible repeat (first | apply Kd.MP_alloc | apply Kd.MP_drewN | apply Kd.MP_drew)); exact (Kd.MP_mono (Kd.MP_far (p := ⟨gb144, 5, none⟩) (Kd.MP_far (p := ⟨gb144, 4, none⟩) (Kd.MP_far (p := ⟨gb144, 3, none⟩) (Kd.MP_far (p := ⟨gb144, 2, none⟩) (Kd.MP_far (p := ⟨gb144, 1, none⟩) (Kd.MP_far (p := ⟨gb144, 0, none⟩) (Kd.MP_types HO_5.out BK144.out (by decide)) (fun _ hk => hk.2) (.int .i64 (rd t137 x16_1))) (fun _ hk => hk.2) (.int .i64 ji14)) (fun _ hk => hk.2) (.int .i64 (-1))) (fun _ hk => hk.2) (.int .i64 (-1))) (fun _ hk => hk.2) (.int .i64 (-1))) (fun _ hk => hk.2) (.int .i64 0)) (fun _ h_ => h_.1))) (Kd.R_typed (by (with_reducible repeat (first | apply Kd.R_alloc | apply Kd.R_drewN | apply Kd.R_drew)); exact (Kd.R_mono (Kd.R_far (p := ⟨gb144, 5, none⟩) (Kd.R_far (p := ⟨gb144, 4, none⟩) (Kd.R_far (p := ⟨gb144, 3, none⟩) (Kd.R_far (p := ⟨gb144, 2, none⟩) (Kd.R_far (p := ⟨gb144, 1, none⟩) (Kd.R_far (p := ⟨gb144, 0, none⟩) (Kd.R_mono HO_4.out (fun k_ hk => (⟨hk, hk.2⟩ : _ ∧ k_ ≠ gb144))) (fun _ hk => hk.2) (.int .i64 (rd t137 x16_1))) (fun _ hk => hk.2) (.int .i64 ji14)) (fun _ hk => hk.2) (.int .i64 (-1))) (fun _ hk => hk.2) (.int .i64 (-1))) (fun _ hk => hk.2) (.int .i64 (-1))) (fun _ hk => hk.2) (.int .i64 0)) (fun _ h_ => h_.1)))) (by decide) hg); have n1_ := Aside0.mk (Kd.R_over' (by (with_reducible repeat (first | apply Kd.R_alloc | apply Kd.R_drewN | apply Kd.R_drew)); exact (Kd.R_mono (Kd.R_far (p := ⟨gb144, 5, none⟩) (Kd.R_far (p := ⟨gb144, 4, none⟩) (Kd.R_far (p := ⟨gb144, 3, none⟩) (Kd.R_far (p := ⟨gb144, 2, none⟩) (Kd.R_far (p := ⟨gb144, 1, none⟩) (Kd.R_far (p := ⟨gb144, 0, none⟩) (Kd.R_types HO_14.out BK144.out (by decide)) (fun _ hk => hk.2) (.int .i64 (rd t137 x16_1))) (fun _ hk => hk.2) (.int .i64 ji14)) (fun _ hk => hk.2) (.int .i64 (-1))) (fun _ hk => hk.2) (.int .i64 (-1))) (fun _ hk => hk.2) (.int .i64 (-1))) (fun _ hk => hk.2) (.int .i64 0)) (fun _ h_ => h_.1))) (Kd.R_typed (by (with_reducible repeat (first | apply Kd.R_alloc | apply Kd.R_drewN | apply Kd.R_drew)); exact (Kd.R_mono (Kd.R_far (p := ⟨gb144, 5, none⟩) (Kd.R_far (p := ⟨gb144, 4, none⟩) (Kd.R_far (p := ⟨gb144, 3, none⟩) (Kd.R_far (p := ⟨gb144, 2, none⟩) (Kd.R_far (p := ⟨gb144, 1, none⟩) (Kd.R_far (p := ⟨gb144, 0, none⟩) (Kd.R_mono HO_4.out (fun k_ hk => (⟨hk, hk.2⟩ : _ ∧ k_ ≠ gb144))) (fun _ hk => hk.2) (.int .i64 (rd t137 x16_1))) (fun _ hk => hk.2) (.int .i64 ji14)) (fun _ hk => hk.2) (.int .i64 (-1))) (fun _ hk => hk.2) (.int .i64 (-1))) (fun _ hk => hk.2) (.int .i64 (-1))) (fun _ hk => hk.2) (.int .i64 0)) (fun _ h_ => h_.1)))) (by decide) hg); have n2_ := Aside0.mk (blk_grown (g := gb144) (o := .cells #[.int .i64 (rd t137 x16_1), .int .i64 ji14, .int .i64 (-1), .int .i64 (-1), .int .i64 (-1), .int .i64 0] 27 (0, 0)) (by (with_reducible repeat (first | refine blk_drewN ?_ _ | refine blk_drew ?_ | refine blk_alloc ?_ _)); refine blk_put (cs := #[.int .i64 (rd t137 x16_1), .int .i64 ji14, .int .i64 (-1), .int .i64 (-1), .int .i64 (-1), .int .i64 0]) ?_ 5 _ rfl; (with_reducible repeat (first | refine blk_drewN ?_ _ | refine blk_drew ?_ | refine blk_alloc ?_ _)); refine blk_put (cs := #[.int .i64 (rd t137 x16_1), .int .i64 ji14, .int .i64 (-1), .int .i64 (-1), .int .i64 0, .int .i64 0]) ?_ 4 _ rfl; (with_reducible repeat (first | refine blk_drewN ?_ _ | refine blk_drew ?_ | refine blk_alloc ?_ _)); refine blk_put (cs := #[.int .i64 (rd t137 x16_1), .int .i64 ji14, .int .i64 (-1), .int .i64 0, .int .i64 0, .int .i64 0]) ?_ 3 _ rfl; (with_reducible repeat (first | refine blk_drewN ?_ _ | refine blk_drew ?_ | refine blk_alloc ?_ _)); refine blk_put (cs := #[.int .i64 (rd t137 x16_1), .int .i64 ji14, .int .i64 0, .int .i64 0, .int .i64 0, .int .i64 0]) ?_ 2 _ rfl; (with_reducible repeat (first | refine blk_drewN ?_ _ | refine blk_drew ?_ | refine blk_alloc ?_ _)); refine blk_put (cs := #[.int .i64 (rd t137 x16_1), .int .i64 0, .int .i64 0, .int .i64 0, .int .i64 0, .int .i64 0]) ?_ 1 _ rfl; (with_reducible repeat (first | refine blk_drewN ?_ _ | refine blk_drew ?_ | refine blk_alloc ?_ _)); refine blk_put (cs := #[.int .i64 0, .int .i64 0, .int .i64 0, .int .i64 0, .int .i64 0, .int .i64 0]) ?_ 0 _ rfl; (with_reducible repeat (first | refine blk_drewN ?_ _ | refine blk_drew ?_ | refine blk_alloc ?_ _)); exact BK144.out) hg (Kd.R_away HO_4.out (fun _ hk => hk.2))); have n3_ := Aside0.mk (hb); have n4_ := Aside0.mk (ho); clear HO_5; clear HO_14; clear BK144; clear HB; clear HO_4; have HO_5 := n0_; have HO_14 := n1_; have BK144 := n2_; have HB := n3_; have HO147 := n4_; clear n0_ n1_ n2_ n3_ n4_; clear ho hb hg hat; have hcz28_0 : w27.cell? ⟨gb144, 0, none⟩ = some (.int .i64 (rd t137 x16_1)) := (blk_cell BK144.out 0).trans rfl; have hcz28_1 : w27.cell? ⟨gb144, 1, none⟩ = some (.int .i64 ji14) := (blk_cell BK144.out 1).trans rfl; have hcz28_2 : w27.cell? ⟨gb144, 2, none⟩ = some (.int .i64 (-1)) := (blk_cell BK144.out 2).trans rfl; have hcz28_3 : w27.cell? ⟨gb144, 3, none⟩ = some (.int .i64 (-1)) := (blk_cell BK144.out 3).trans rfl; have hcz28_4 : w27.cell? ⟨gb144, 4, none⟩ = some (.int .i64 (-1)) := (blk_cell BK144.out 4).trans rfl; have hcz28_5 : w27.cell? ⟨gb144, 5, none⟩ = some (.int .i64 0) := (blk_cell BK144.out 5).trans rfl; have hfz28_0 := blk_frozen BK144.out 0; have hfz28_1 := blk_frozen BK144.out 1; have hfz28_2 := blk_frozen BK144.out 2; have hfz28_3 := blk_frozen BK144.out 3; have hfz28_4 := blk_frozen BK144.out 4; have hfz28_5 := blk_frozen BK144.out 5; have p17 : 0 ≤ ((ji14) : Int) := of_decide_eq_true (by first | (with_reducible assumption) | assumption); have q17 : ((ji14) : Int) < ((y145.length : Int) : Int) := of_decide_eq_true (by first | (with_reducible assumption) | assumption); obtain ⟨go17, co17, eo17, gb17, gl17, cl17, HG17⟩ := Kd.R_form HO147.out (by omega); (first | cases eo17 | (injection eo17 with ea_ en_ ec_; (first | subst ea_ | (injection ea_ with ea_; subst ea_)); subst ec_; clear en_)); have GB17 := Aside0.mk gb17; have GG17 := Aside0.mk HG17; clear gb17 gl17 HG17; obtain ⟨ce17, hcl17, hM17, hcc17, hfr17⟩ := Kd.R_elem HO147.out z27 ((ji14) : Int) p17 q17; obtain rfl := k27_openM hM17; have hx17_0 : w27.cell? ⟨go17, ((ji14) : Int).toNat * 6, none⟩ = some (.int .i64 ((rd_T27 y145 (ji14)).f0)) := hcc17 0 _ rfl; have hx17_1 : w27.cell? ⟨go17, ((ji14) : Int).toNat * 6 + 1, none⟩ = some (.int .i64 ((rd_T27 y145 (ji14)).f1)) := hcc17 1 _ rfl; have hx17_2 : w27.cell? ⟨go17, ((ji14) : Int).toNat * 6 + 2, none⟩ = some (.int .i64 ((rd_T27 y145 (ji14)).f2)) := hcc17 2 _ rfl; have hx17_3 : w27.cell? ⟨go17, ((ji14) : Int).toNat * 6 + 3, none⟩ = some (.int .i64 ((rd_T27 y145 (ji14)).f3)) := hcc17 3 _ rfl; have hx17_4 : w27.cell? ⟨go17, ((ji14) : Int).toNat * 6 + 4, none⟩ = some (.int .i64 ((rd_T27 y145 (ji14)).f4)) := hcc17 4 _ rfl; have hx17_5 : w27.cell? ⟨go17, ((ji14) : Int).toNat * 6 + 5, none⟩ = some (.int .i64 ((rd_T27 y145 (ji14)).f5)) := hcc17 5 _ rfl; have hf17_0 : w27.frozen? ⟨go17, ((ji14) : Int).toNat * 6, none⟩ = false := hfr17 0; have hf17_1 : w27.frozen? ⟨go17, ((ji14) : Int).toNat * 6 + 1, none⟩ = false := hfr17 1; have hf17_2 : w27.frozen? ⟨go17, ((ji14) : Int).toNat * 6 + 2, none⟩ = false := hfr17 2; have hf17_3 : w27.frozen? ⟨go17, ((ji14) : Int).toNat * 6 + 3, none⟩ = false := hfr17 3; have hf17_4 : w27.frozen? ⟨go17, ((ji14) : Int).toNat * 6 + 4, none⟩ = false := hfr17 4; have hf17_5 : w27.frozen? ⟨go17, ((ji14) : Int).toNat * 6 + 5, none⟩ = false := hfr17 5; clear hcl17 hcc17 hfr17 hM17; replace p17 := eq_true p17; replace q17 := eq_true q17; have HX29 := Aside0.mk (show Kd.R k27 27 w27 w.heap.size (fun k_ => k_ ≠ gb144) (.slice (some ⟨go17, 0, none⟩) y145.length co17) y145 from (by (with_reducible repeat (first | apply Kd.R_alloc | apply Kd.R_drewN | apply Kd.R_drew)); exact HO147.out)); obtain ⟨ce29, hcl29, hM29, hcc29, hfr29⟩ := Kd.R_elem HX29.out z27 ((ji14) : Int) (of_decide_eq_true (by first | (with_reducible assumption) | assumption)) (by have h_ : ((ji14) : Int) < ((y145.length : Int) : Int) := of_decide_eq_true (by first | (with_reducible assumption) | assumption); first | exact h_ | (have e_ := (Kd.R_reads' HO147.out).1; omega) | simpa using h_); obtain rfl := k27_openM hM29; have HP29 := Kd.R_seg HX29.out ((ji14) : Int) (of_decide_eq_true (by first | (with_reducible assumption) | assumption)) (by have h_ : ((ji14) : Int) < ((y145.length : Int) : Int) := of_decide_eq_true (by first | (with_reducible assumption) | assumption); first | exact h_ | (have e_ := (Kd.R_reads' HO147.out).1; omega) | simpa using h_) (seg := [.int .i64 x16_1]) (j := 2) hcl29 hcc29 (show 3 ≤ 6 from by decide) (x' := (⟨(rd_T27 y145 (ji14)).f0, (rd_T27 y145 (ji14)).f1, x16_1, (rd_T27 y145 (ji14)).f3, (rd_T27 y145 (ji14)).f4, (rd_T27 y145 (ji14)).f5⟩ : S27)) (k27_mkM _ _ _ (⟨(rd_T27 y145 (ji14)).f0, (rd_T27 y145 (ji14)).f1, x16_1, (rd_T27 y145 (ji14)).f3, (rd_T27 y145 (ji14)).f4, (rd_T27 y145 (ji14)).f5⟩ : S27) ) (fun _ hk => hk); have hx29_2 := hcc29 2 _ rfl; (try simp only [show (k27).sz = 6 from rfl, Nat.mul_one, Nat.add_zero] at hx29_2); have hf29_2 := hfr29 2; (try simp only [show (k27).sz = 6 from rfl, Nat.mul_one, Nat.add_zero] at hf29_2); clear hcl29 hcc29 hfr29 hM29) | ((with_reducible refine gate_store (t := 3) (p := 39) rfl ?_); refine store_event (t := 3) (p := 39) (v := ?vo_w30) (w1 := (w27.setCell ⟨go17, ((ji14) : Int).toNat * 6 + 2, none⟩ (.int .i64 x16_1))) ?hg ?ho ?hn ?hr ?_; (case ho => rfl); (case hg => rfl); (case hn => rfl); (case hr => first | (go_simp; done) | (go_simp; rfl)); intro w30 hw; have hg : w27.grownBy w30 (some go17) := (by rw [hw]; exact HP29.2); have hp_ : Kd.R k27 27 w30 w.heap.size (fun k_ => k_ ≠ gb144) (.slice (some ⟨go17, 0, none⟩) y145.length co17) y148 := (by rw [hw, Ny148.out]; exact HP29.1); clear HP29; have n0_ := Aside0.mk (Kd.MP_over' (v := (.slice (some ⟨go17, 0, none⟩) y145.length co17)) (by (with_reducible repeat (first | apply Kd.MP_alloc | apply Kd.MP_drewN | apply Kd.MP_drew)); exact HO_5.out) (Kd.R_typed HO147.out) (by decide) hg); have n1_ := Aside0.mk (Kd.R_over' (v := (.slice (some ⟨go17, 0, none⟩) y145.length co17)) (by (with_reducible repeat (first | apply Kd.R_alloc | apply Kd.R_drewN | apply Kd.R_drew)); exact HO_14.out) (Kd.R_typed HO147.out) (by decide) hg); have n2_ := Aside0.mk (blk_grown (g := gb144) (o := .cells #[.int .i64 (rd t137 x16_1), .int .i64 ji14, .int .i64 (-1), .int .i64 (-1), .int .i64 (-1), .int .i64 0] 27 (0, 0)) (by (with_reducible repeat (first | refine blk_drewN ?_ _ | refine blk_drew ?_ | refine blk_alloc ?_ _)); exact BK144.out) hg (Kd.R_away HO147.out (fun _ hk => hk))); have n3_ := Aside0.mk (hp_); have n4_ := Aside0.mk ((by rw [hw]; exact below_set (HB.out) GB17.out : Below w.heap.size w w30)); clear HO_5; clear HO_14; clear BK144; clear HO147; clear HB; have HO_5 := n0_; have HO_14 := n1_; have BK144 := n2_; have HO147 := n3_; have HB := n4_; clear n0_ n1_ n2_ n3_ n4_; clear hg hw hp_; have p21 : 0 ≤ ((rd t137 x16_1) : Int) := of_decide_eq_true (by first | (with_reducible assumption) | assumption); have q21 : ((rd t137 x16_1) : Int) < ((y145.length : Int) : Int) := of_decide_eq_true (by first | (with_reducible assumption) | assumption); obtain ⟨ce21, hcl21, hM21, hcc21, hfr21⟩ := Kd.R_elem HO147.out z27 ((rd t137 x16_1) : Int) p21 q21; obtain rfl := k27_openM hM21; have hx21_0 : w30.cell? ⟨go17, ((rd t137 x16_1) : Int).toNat * 6, none⟩ = some (.int .i64 ((rd_T27 y148 (rd t137 x16_1)).f0)) := hcc21 0 _ rfl; have hx21_1 : w30.cell? ⟨go17, ((rd t137 x16_1) : Int).toNat * 6 + 1, none⟩ = some (.int .i64 ((rd_T27 y148 (rd t137 x16_1)).f1)) := hcc21 1 _ rfl; have hx21_2 : w30.cell? ⟨go17, ((rd t137 x16_1) : Int).toNat * 6 + 2, none⟩ = some (.int .i64 ((rd_T27 y148 (rd t137 x16_1)).f2)) := hcc21 2 _ rfl; have hx21_3 : w30.cell? ⟨go17, ((rd t137 x16_1) : Int).toNat * 6 + 3, none⟩ = some (.int .i64 ((rd_T27 y148 (rd t137 x16_1)).f3)) := hcc21 3 _ rfl; have hx21_4 : w30.cell? ⟨go17, ((rd t137 x16_1) : Int).toNat * 6 + 4, none⟩ = some (.int .i64 ((rd_T27 y148 (rd t137 x16_1)).f4)) := hcc21 4 _ rfl; have hx21_5 : w30.cell? ⟨go17, ((rd t137 x16_1) : Int).toNat * 6 + 5, none⟩ = some (.int .i64 ((rd_T27 y148 (rd t137 x16_1)).f5)) := hcc21 5 _ rfl; have hf21_0 : w30.frozen? ⟨go17, ((rd t137 x16_1) : Int).toNat * 6, none⟩ = false := hfr21 0; have hf21_1 : w30.frozen? ⟨go17, ((rd t137 x16_1) : Int).toNat * 6 + 1, none⟩ = false := hfr21 1; have hf21_2 : w30.frozen? ⟨go17, ((rd t137 x16_1) : Int).toNat * 6 + 2, none⟩ = false := hfr21 2; have hf21_3 : w30.frozen? ⟨go17, ((rd t137 x16_1) : Int).toNat * 6 + 3, none⟩ = false := hfr21 3; have hf21_4 : w30.frozen? ⟨go17, ((rd t137 x16_1) : Int).toNat * 6 + 4, none⟩ = false := hfr21 4; have hf21_5 : w30.frozen? ⟨go17, ((rd t137 x16_1) : Int).toNat * 6 + 5, none⟩ = false := hfr21 5; clear hcl21 hcc21 hfr21 hM21; replace p21 := eq_true p21; replace q21 := eq_true q21; have HX31 := Aside0.mk (show Kd.R k27 27 w30 w.heap.size (fun k_ => k_ ≠ gb144) (.slice (some ⟨go17, 0, none⟩) y145.length co17) y148 from (by (with_reducible repeat (first | apply Kd.R_alloc | apply Kd.R_drewN | apply Kd.R_drew)); exact HO147.out)); obtain ⟨ce31, hcl31, hM31, hcc31, hfr31⟩ := Kd.R_elem HX31.out z27 ((rd t137 x16_1) : Int) (of_decide_eq_true (by first | (with_reducible assumption) | assumption)) (by have h_ : ((rd t137 x16_1) : Int) < ((y145.length : Int) : Int) := of_decide_eq_true (by first | (with_reducible assumption) | assumption); first | exact h_ | (have e_ := (Kd.R_reads' HO147.out).1; omega) | simpa using h_); obtain rfl := k27_openM hM31; have HP31 := Kd.R_seg HX31.out ((rd t137 x16_1) : Int) (of_decide_eq_true (by first | (with_reducible assumption) | assumption)) (by have h_ : ((rd t137 x16_1) : Int) < ((y145.length : Int) : Int) := of_decide_eq_true (by first | (with_reducible assumption) | assumption); first | exact h_ | (have e_ := (Kd.R_reads' HO147.out).1; omega) | simpa using h_) (seg := [.int .i64 x16_1]) (j := 4) hcl31 hcc31 (show 5 ≤ 6 from by decide) (x' := (⟨(rd_T27 y148 (rd t137 x16_1)).f0, (rd_T27 y148 (rd t137 x16_1)).f1, (rd_T27 y148 (rd t137 x16_1)).f2, (rd_T27 y148 (rd t137 x16_1)).f3, x16_1, (rd_T27 y148 (rd t137 x16_1)).f5⟩ : S27)) (k27_mkM _ _ _ (⟨(rd_T27 y148 (rd t137 x16_1)).f0, (rd_T27 y148 (rd t137 x16_1)).f1, (rd_T27 y148 (rd t137 x16_1)).f2, (rd_T27 y148 (rd t137 x16_1)).f3, x16_1, (rd_T27 y148 (rd t137 x16_1)).f5⟩ : S27) ) (fun _ hk => hk); have hx31_4 := hcc31 4 _ rfl; (try simp only [show (k27).sz = 6 from rfl, Nat.mul_one, Nat.add_zero] at hx31_4); have hf31_4 := hfr31 4; (try simp only [show (k27).sz = 6 from rfl, Nat.mul_one, Nat.add_zero] at hf31_4); clear hcl31 hcc31 hfr31 hM31) | ((with_reducible refine gate_store (t := 3) (p := 53) rfl ?_); refine store_event (t := 3) (p := 53) (v := ?vo_w32) (w1 := (w30.setCell ⟨go17, ((rd t137 x16_1) : Int).toNat * 6 + 4, none⟩ (.int .i64 x16_1))) ?hg ?ho ?hn ?hr ?_; (case ho => rfl); (case hg => rfl); (case hn => rfl); (case hr => first | (go_simp; done) | (go_simp; rfl)); intro w32 hw; have hg : w30.grownBy w32 (some go17) := (by rw [hw]; exact HP31.2); have hp_ : Kd.R k27 27 w32 w.heap.size (fun k_ => k_ ≠ gb144) (.slice (some ⟨go17, 0, none⟩) y145.length co17) y149 := (by rw [hw, Ny149.out]; exact HP31.1); clear HP31; have n0_ := Aside0.mk (Kd.MP_over' (v := (.slice (some ⟨go17, 0, none⟩) y145.length co17)) (by (with_reducible repeat (first | apply Kd.MP_alloc | apply Kd.MP_drewN | apply Kd.MP_drew)); exact HO_5.out) (Kd.R_typed HO147.out) (by decide) hg); have n1_ := Aside0.mk (Kd.R_over' (v := (.slice (some ⟨go17, 0, none⟩) y145.length co17)) (by (with_reducible repeat (first | apply Kd.R_alloc | apply Kd.R_drewN | apply Kd.R_drew)); exact HO_14.out) (Kd.R_typed HO147.out) (by decide) hg); have n2_ := Aside0.mk (blk_grown (g := gb144) (o := .cells #[.int .i64 (rd t137 x16_1), .int .i64 ji14, .int .i64 (-1), .int .i64 (-1), .int .i64 (-1), .int .i64 0] 27 (0, 0)) (by (with_reducible repeat (first | refine blk_drewN ?_ _ | refine blk_drew ?_ | refine blk_alloc ?_ _)); exact BK144.out) hg (Kd.R_away HO147.out (fun _ hk => hk))); have n3_ := Aside0.mk (hp_); have n4_ := Aside0.mk ((by rw [hw]; exact below_set (HB.out) GB17.out : Below w.heap.size w w32)); clear HO_5; clear HO_14; clear BK144; clear HO147; clear HB; have HO_5 := n0_; have HO_14 := n1_; have BK144 := n2_; have HO147 := n3_; have HB := n4_; clear n0_ n1_ n2_ n3_ n4_; clear hg hw hp_) | ((with_reducible refine Kd.gate_mapup (t := 52) (m := .tmp 54) rfl ?_); at_mapUpdate; refine Kd.MP_update k71 (w0 := w) (base := w.heap.size) rfl _ _ _ 52 rfl rfl kmap52 Try.underlying52 Try.underlying3 (show Kd.MP k71 71 _ w.heap.size (fun _ => True) v141 x5_1 from by (with_reducible repeat (first | apply Kd.MP_alloc | apply Kd.MP_drewN | apply Kd.MP_drew)); exact HO_5.out) (by have := LMc24.out; exact this) (⟨rd t137 x16_1, wrap64 (x16_1 + 1)⟩ : S71) (wrap64 (x16_1 + 1)) (rd t137 x16_1) rfl rfl rfl rfl (wrap64_wf _) (Go.Maps.keyOf_int_mk Try.underlying3 (Go.Proofs.YtdoponngnjmkkaaM.wf_i64 (of_decide_eq_true (by first | (with_reducible assumption) | assumption)) (of_decide_eq_true (by first | (with_reducible assumption) | assumption)))) ?aB ?aS ?_; (case aB => exact (by repeat (first | (with_reducible first | exact HB.out | apply below_alloc | apply pw_below_drewN | apply below_drew1 | refine below_set ?_ GE144.out) | exact HB.out))); (case aS => exact (below_size (by repeat (first | (with_reducible first | exact HB.out | apply below_alloc | apply pw_below_drewN | apply below_drew1 | refine below_set ?_ GE144.out) | exact HB.out)))); intro w33 ho hb hgm_; obtain ⟨bm_, hg, hbm_⟩ := hgm_; rw [← Ny150.out] at ho; have n0_ := Aside0.mk (Kd.R_mapped (by (with_reducible repeat (first | apply Kd.R_alloc | apply Kd.R_drewN | apply Kd.R_drew)); exact HO_14.out) hg hbm_); have n1_ := Aside0.mk (blk_grown (g := gb144) (o := .cells #[.int .i64 (rd t137 x16_1), .int .i64 ji14, .int .i64 (-1), .int .i64 (-1), .int .i64 (-1), .int .i64 0] 27 (0, 0)) (by (with_reducible repeat (first | refine blk_drewN ?_ _ | refine blk_drew ?_ | refine blk_alloc ?_ _)); exact BK144.out) hg (Kd.blk_mapped (by (with_reducible repeat (first | refine blk_drewN ?_ _ | refine blk_drew ?_ | refine blk_alloc ?_ _)); exact BK144.out) hbm_)); have n2_ := Aside0.mk (Kd.R_mapped (by (with_reducible repeat (first | apply Kd.R_alloc | apply Kd.R_drewN | apply Kd.R_drew)); exact HO147.out) hg hbm_); have n3_ := Aside0.mk (hb); have n4_ := Aside0.mk (ho); clear HO_14; clear BK144; clear HO147; clear HB; clear HO_5; have HO_14 := n0_; have BK144 := n1_; have HO147 := n2_; have HB := n3_; have HO_5 := n4_; clear n0_ n1_ n2_ n3_ n4_; clear ho hb hg hbm_))
                                go_roundg k1
                                case measure => have := HK1.out; omega
                                case rel => exact ⟨(y149), (y150), (wrap64 (x16_1 + 1)), (by first | rfl | (simp; done) | (simp [*]; done)), H', ⟨by have := HK1.out; omega⟩, ⟨by (with_reducible repeat (first | apply Kd.R_alloc | apply Kd.R_drewN | apply Kd.R_drew)); exact Kd.R_mono HO147.out (fun _ hk => trivial)⟩, ⟨by (with_reducible repeat (first | apply Kd.MP_alloc | apply Kd.MP_drewN | apply Kd.MP_drew)); exact HO_5.out⟩, ⟨by (with_reducible repeat (first | apply Kd.R_alloc | apply Kd.R_drewN | apply Kd.R_drew)); exact HO_14.out⟩, ⟨by repeat (first | (with_reducible first | exact HB.out | apply below_alloc | apply pw_below_drewN | apply below_drew1 | refine below_set ?_ GE144.out) | exact HB.out)⟩⟩
                              · rw [if_neg c24] at H
                                exact absurd H (by simp)
                            · rw [if_neg c20] at H
                              exact absurd H (by simp)
                          · rw [if_neg c19] at H
                            exact absurd H (by simp)
                        · rw [if_neg c18] at H
                          have c18b0 : decide (0 ≤ (rd t137 x16_1)) = false := decide_eq_false c18
                          clear c18
                          have c34b0 := eq_true (of_decide_eq_true (by first | (with_reducible assumption) | assumption) : (-9223372036854775808) ≤ (rd t137 x16_1))
                          have c35b0 := eq_true (of_decide_eq_true (by first | (with_reducible assumption) | assumption) : (rd t137 x16_1) ≤ 9223372036854775807)
                          by_cases c36 : x5_1.length < 9223372036854775807
                          · rw [if_pos c36] at H
                            have LMc36 := Aside0.mk c36
                            clear c36
                            obtain ⟨y151, hy151⟩ : ∃ y_ : List (S71), y_ = ((⟨rd t137 x16_1, wrap64 (x16_1 + 1)⟩ : S71) :: x5_1) := ⟨_, rfl⟩
                            replace H : (anchors_Knots.l0 k1 y148 y151 t137 (t137.length : Int) (wrap64 (x16_1 + 1))) = some r := by first | (rw [hy151]; with_reducible exact H) | (have H2_ := (Option.bind_some _ _).symm.trans H; rw [hy151]; with_reducible exact H2_) | (have H2_ := (Option.bind_some _ _).symm.trans H; with_reducible exact H2_) | with_reducible exact H | (rw [hy151]; exact H) | exact H
                            have Ny151 := Aside0.mk hy151
                            clear hy151
                            have H' := Aside0.mk H
                            clear H
                            have p143 : 0 ≤ (x16_1 : Int) := of_decide_eq_true (by first | (with_reducible assumption) | assumption)
                            have q143 : x16_1 < (t137.length : Int) := of_decide_eq_true (by first | (with_reducible assumption) | assumption)
                            obtain ⟨ad143, e143, hx143_0⟩ := Kd.at_int (Kd.R_reads' HO_14.out).2.2 x16_1 p143 q143
                            cases e143
                            replace p143 := eq_true p143
                            replace q143 := eq_true q143
                            go_wp2_with (first | ((with_reducible refine gate_dst (N := 24) rfl ?_); at_lookup; refine Kd.MP_lookup k71 rfl _ _ 52 rfl rfl kmap52 Try.underlying52 Try.underlying3 (zmap52 _) (show Kd.MP k71 71 _ w.heap.size (fun _ => True) v141 x5_1 from by (with_reducible repeat (first | apply Kd.MP_alloc | apply Kd.MP_drewN | apply Kd.MP_drew)); exact HO_5.out) (rd t137 x16_1) (mget71 x5_1 (rd t137 x16_1)) rfl rfl rfl (Go.Maps.keyOf_int_mk Try.underlying3 (Go.Proofs.YtdoponngnjmkkaaM.wf_i64 (of_decide_eq_true (by first | (with_reducible assumption) | assumption)) (of_decide_eq_true (by first | (with_reducible assumption) | assumption)))) ?_) | ((with_reducible refine gate_dst (N := 8) rfl ?_); refine box_event ?hg (N := 8) ?hd (cs := #[.int .i64 0, .int .i64 0, .int .i64 0, .int .i64 0, .int .i64 0, .int .i64 0]) (t := 27) ?hr ?_; (case hd => rfl); (case hg => rfl); (case hr => first | (go_simp; done) | (go_simp; rfl)); intro gb144 hg w37 hbox hb; have n0_ := Aside0.mk (Kd.R_below (Kd.R_elderB (by (with_reducible repeat (first | apply Kd.R_alloc | apply Kd.R_drewN | apply Kd.R_drew)); exact HO_4.out) gb144 (Nat.le_of_eq hg.symm)) hb); have n1_ := Aside0.mk (Kd.MP_below (by (with_reducible repeat (first | apply Kd.MP_alloc | apply Kd.MP_drewN | apply Kd.MP_drew)); exact HO_5.out) hb); have n2_ := Aside0.mk (Kd.R_below (by (with_reducible repeat (first | apply Kd.R_alloc | apply Kd.R_drewN | apply Kd.R_drew)); exact HO_14.out) hb); have n3_ := Aside0.mk (below_step (by repeat (first | (with_reducible first | exact HB.out | apply below_alloc | apply pw_below_drewN | apply below_drew1) | exact HB.out)) hb); have n4_ := Aside0.mk (hbox); have n5_ := Aside0.mk ((by rw [hg]; exact (below_size (by repeat (first | (with_reducible first | exact HB.out | apply below_alloc | apply pw_below_drewN | apply below_drew1) | exact HB.out))) : w.heap.size ≤ gb144)); have n6_ := Aside0.mk ((by rw [hg]; exact (below_size (by repeat (first | (with_reducible first | exact HB.out | apply below_alloc | apply pw_below_drewN | apply below_drew1) | exact HB.out))) : w.heap.size ≤ gb144)); clear HO_4; clear HO_5; clear HO_14; clear HB; have HO_4 := n0_; have HO_5 := n1_; have HO_14 := n2_; have HB := n3_; have BK144 := n4_; have GW144 := n5_; have GE144 := n6_; clear n0_ n1_ n2_ n3_ n4_ n5_ n6_; clear hb hbox hg; have hcz38_0 : w37.cell? ⟨gb144, 0, none⟩ = some (.int .i64 0) := (blk_cell BK144.out 0).trans rfl; have hcz38_1 : w37.cell? ⟨gb144, 1, none⟩ = some (.int .i64 0) := (blk_cell BK144.out 1).trans rfl; have hcz38_2 : w37.cell? ⟨gb144, 2, none⟩ = some (.int .i64 0) := (blk_cell BK144.out 2).trans rfl; have hcz38_3 : w37.cell? ⟨gb144, 3, none⟩ = some (.int .i64 0) := (blk_cell BK144.out 3).trans rfl; have hcz38_4 : w37.cell? ⟨gb144, 4, none⟩ = some (.int .i64 0) := (blk_cell BK144.out 4).trans rfl; have hcz38_5 : w37.cell? ⟨gb144, 5, none⟩ = some (.int .i64 0) := (blk_cell BK144.out 5).trans rfl; have hfz38_0 := blk_frozen BK144.out 0; have hfz38_1 := blk_frozen BK144.out 1; have hfz38_2 := blk_frozen BK144.out 2; have hfz38_3 := blk_frozen BK144.out 3; have hfz38_4 := blk_frozen BK144.out 4; have hfz38_5 := blk_frozen BK144.out 5) | ((with_reducible refine gate_builtin (b := .append) (xs := #[.tmp 27, .tmp 29]) rfl ?_); at_builtin; refine Kd.R_append k27 (w0 := w) w.heap.size rfl (.tmp 27) (.tmp 29) 24 27 (.agg #[(.int .i64 0), (.int .i64 0), (.int .i64 0), (.int .i64 0), (.int .i64 0), (.int .i64 0)]) 48 rfl Try.underlying24 info27 rfl (by decide) (by omega) u4 x4_1 (⟨rd t137 x16_1, ji14, (-1), (-1), (-1), 0⟩ : S27) [.int .i64 (rd t137 x16_1), .int .i64 ji14, .int .i64 (-1), .int .i64 (-1), .int .i64 (-1), .int .i64 0] (fun k_ => k_ ≠ gb144) (fun _ => False) rfl (by first | (go_simp; done) | (go_simp; rfl)) ?aP (fun _ hk => hk.elim) ?aF ?aO ?aB ?aS ?aL ?_; (case aP => exact k27_mkM _ _ _ (⟨rd t137 x16_1, ji14, (-1), (-1), (-1), 0⟩ : S27)); (case aB => exact (by repeat (first | (with_reducible first | exact HB.out | apply below_alloc | apply pw_below_drewN | apply below_drew1 | refine below_set ?_ GE144.out) | exact HB.out))); (case aF => exact (fun k_ hk => Kd.freshB (g := gb144) (o := .cells #[.int .i64 (rd t137 x16_1), .int .i64 ji14, .int .i64 (-1), .int .i64 (-1), .int .i64 (-1), .int .i64 0] 27 (0, 0)) (by (with_reducible repeat (first | refine blk_drewN ?_ _ | refine blk_drew ?_ | refine blk_alloc ?_ _)); refine blk_put (cs := #[.int .i64 (rd t137 x16_1), .int .i64 ji14, .int .i64 (-1), .int .i64 (-1), .int .i64 (-1), .int .i64 0]) ?_ 5 _ rfl; (with_reducible repeat (first | refine blk_drewN ?_ _ | refine blk_drew ?_ | refine blk_alloc ?_ _)); refine blk_put (cs := #[.int .i64 (rd t137 x16_1), .int .i64 ji14, .int .i64 (-1), .int .i64 (-1), .int .i64 0, .int .i64 0]) ?_ 4 _ rfl; (with_reducible repeat (first | refine blk_drewN ?_ _ | refine blk_drew ?_ | refine blk_alloc ?_ _)); refine blk_put (cs := #[.int .i64 (rd t137 x16_1), .int .i64 ji14, .int .i64 (-1), .int .i64 0, .int .i64 0, .int .i64 0]) ?_ 3 _ rfl; (with_reducible repeat (first | refine blk_drewN ?_ _ | refine blk_drew ?_ | refine blk_alloc ?_ _)); refine blk_put (cs := #[.int .i64 (rd t137 x16_1), .int .i64 ji14, .int .i64 0, .int .i64 0, .int .i64 0, .int .i64 0]) ?_ 2 _ rfl; (with_reducible repeat (first | refine blk_drewN ?_ _ | refine blk_drew ?_ | refine blk_alloc ?_ _)); refine blk_put (cs := #[.int .i64 (rd t137 x16_1), .int .i64 0, .int .i64 0, .int .i64 0, .int .i64 0, .int .i64 0]) ?_ 1 _ rfl; (with_reducible repeat (first | refine blk_drewN ?_ _ | refine blk_drew ?_ | refine blk_alloc ?_ _)); refine blk_put (cs := #[.int .i64 0, .int .i64 0, .int .i64 0, .int .i64 0, .int .i64 0, .int .i64 0]) ?_ 0 _ rfl; (with_reducible repeat (first | refine blk_drewN ?_ _ | refine blk_drew ?_ | refine blk_alloc ?_ _)); exact BK144.out) k_ hk)); (case aO => exact (by (with_reducible repeat (first | apply Kd.R_alloc | apply Kd.R_drewN | apply Kd.R_drew)); exact Kd.R_mono (Kd.R_far (p := ⟨gb144, 5, none⟩) (Kd.R_far (p := ⟨gb144, 4, none⟩) (Kd.R_far (p := ⟨gb144, 3, none⟩) (Kd.R_far (p := ⟨gb144, 2, none⟩) (Kd.R_far (p := ⟨gb144, 1, none⟩) (Kd.R_far (p := ⟨gb144, 0, none⟩) (Kd.R_mono HO_4.out (fun k_ hk => (⟨hk, hk.2⟩ : _ ∧ k_ ≠ gb144))) (fun _ hk => hk.2) (.int .i64 (rd t137 x16_1))) (fun _ hk => hk.2) (.int .i64 ji14)) (fun _ hk => hk.2) (.int .i64 (-1))) (fun _ hk => hk.2) (.int .i64 (-1))) (fun _ hk => hk.2) (.int .i64 (-1))) (fun _ hk => hk.2) (.int .i64 0)) (fun _ hk => hk.1.2))); (case aS => exact (below_size (by repeat (first | (with_reducible first | exact HB.out | apply below_alloc | apply pw_below_drewN | apply below_drew1 | refine below_set ?_ GE144.out) | exact HB.out)))); (case aL => have := LMc12.out; omega); intro v146 w39 ho hb hg hat; rw [← Ny145.out] at ho; have n0_ := Aside0.mk (Kd.MP_over' (by (with_reducible repeat (first | apply Kd.MP_alloc | apply Kd.MP_drewN | apply Kd.MP_drew)); exact (Kd.MP_mono (Kd.MP_far (p := ⟨gb144, 5, none⟩) (Kd.MP_far (p := ⟨gb144, 4, none⟩) (Kd.MP_far (p := ⟨gb144, 3, none⟩) (Kd.MP_far (p := ⟨gb144, 2, none⟩) (Kd.MP_far (p := ⟨gb144, 1, none⟩) (Kd.MP_far (p := ⟨gb144, 0, none⟩) (Kd.MP_types HO_5.out BK144.out (by decide)) (fun _ hk => hk.2) (.int .i64 (rd t137 x16_1))) (fun _ hk => hk.2) (.int .i64 ji14)) (fun _ hk => hk.2) (.int .i64 (-1))) (fun _ hk => hk.2) (.int .i64 (-1))) (fun _ hk => hk.2) (.int .i64 (-1))) (fun _ hk => hk.2) (.int .i64 0)) (fun _ h_ => h_.1))) (Kd.R_typed (by (with_reducible repeat (first | apply Kd.R_alloc | apply Kd.R_drewN | apply Kd.R_drew)); exact (Kd.R_mono (Kd.R_far (p := ⟨gb144, 5, none⟩) (Kd.R_far (p := ⟨gb144, 4, none⟩) (Kd.R_far (p := ⟨gb144, 3, none⟩) (Kd.R_far (p := ⟨gb144, 2, none⟩) (Kd.R_far (p := ⟨gb144, 1, none⟩) (Kd.R_far (p := ⟨gb144, 0, none⟩) (Kd.R_mono HO_4.out (fun k_ hk => (⟨hk, hk.2⟩ : _ ∧ k_ ≠ gb144))) (fun _ hk => hk.2) (.int .i64 (rd t137 x16_1))) (fun _ hk => hk.2) (.int .i64 ji14)) (fun _ hk => hk.2) (.int .i64 (-1))) (fun _ hk => hk.2) (.int .i64 (-1))) (fun _ hk => hk.2) (.int .i64 (-1))) (fun _ hk => hk.2) (.int .i64 0)) (fun _ h_ => h_.1)))) (by decide) hg); have n1_ := Aside0.mk (Kd.R_over' (by (with_reducible repeat (first | apply Kd.R_alloc | apply Kd.R_drewN | apply Kd.R_drew)); exact (Kd.R_mono (Kd.R_far (p := ⟨gb144, 5, none⟩) (Kd.R_far (p := ⟨gb144, 4, none⟩) (Kd.R_far (p := ⟨gb144, 3, none⟩) (Kd.R_far (p := ⟨gb144, 2, none⟩) (Kd.R_far (p := ⟨gb144, 1, none⟩) (Kd.R_far (p := ⟨gb144, 0, none⟩) (Kd.R_types HO_14.out BK144.out (by decide)) (fun _ hk => hk.2) (.int .i64 (rd t137 x16_1))) (fun _ hk => hk.2) (.int .i64 ji14)) (fun _ hk => hk.2) (.int .i64 (-1))) (fun _ hk => hk.2) (.int .i64 (-1))) (fun _ hk => hk.2) (.int .i64 (-1))) (fun _ hk => hk.2) (.int .i64 0)) (fun _ h_ => h_.1))) (Kd.R_typed (by (with_reducible repeat (first | apply Kd.R_alloc | apply Kd.R_drewN | apply Kd.R_drew)); exact (Kd.R_mono (Kd.R_far (p := ⟨gb144, 5, none⟩) (Kd.R_far (p := ⟨gb144, 4, none⟩) (Kd.R_far (p := ⟨gb144, 3, none⟩) (Kd.R_far (p := ⟨gb144, 2, none⟩) (Kd.R_far (p := ⟨gb144, 1, none⟩) (Kd.R_far (p := ⟨gb144, 0, none⟩) (Kd.R_mono HO_4.out (fun k_ hk => (⟨hk, hk.2⟩ : _ ∧ k_ ≠ gb144))) (fun _ hk => hk.2) (.int .i64 (rd t137 x16_1))) (fun _ hk => hk.2) (.int .i64 ji14)) (fun _ hk => hk.2) (.int .i64 (-1))) (fun _ hk => hk.2) (.int .i64 (-1))) (fun _ hk => hk.2) (.int .i64 (-1))) (fun _ hk => hk.2) (.int .i64 0)) (fun _ h_ => h_.1)))) (by decide) hg); have n2_ := Aside0.mk (blk_grown (g := gb144) (o := .cells #[.int .i64 (rd t137 x16_1), .int .i64 ji14, .int .i64 (-1), .int .i64 (-1), .int .i64 (-1), .int .i64 0] 27 (0, 0)) (by (with_reducible repeat (first | refine blk_drewN ?_ _ | refine blk_drew ?_ | refine blk_alloc ?_ _)); refine blk_put (cs := #[.int .i64 (rd t137 x16_1), .int .i64 ji14, .int .i64 (-1), .int .i64 (-1), .int .i64 (-1), .int .i64 0]) ?_ 5 _ rfl; (with_reducible repeat (first | refine blk_drewN ?_ _ | refine blk_drew ?_ | refine blk_alloc ?_ _)); refine blk_put (cs := #[.int .i64 (rd t137 x16_1), .int .i64 ji14, .int .i64 (-1), .int .i64 (-1), .int .i64 0, .int .i64 0]) ?_ 4 _ rfl; (with_reducible repeat (first | refine blk_drewN ?_ _ | refine blk_drew ?_ | refine blk_alloc ?_ _)); refine blk_put (cs := #[.int .i64 (rd t137 x16_1), .int .i64 ji14, .int .i64 (-1), .int .i64 0, .int .i64 0, .int .i64 0]) ?_ 3 _ rfl; (with_reducible repeat (first | refine blk_drewN ?_ _ | refine blk_drew ?_ | refine blk_alloc ?_ _)); refine blk_put (cs := #[.int .i64 (rd t137 x16_1), .int .i64 ji14, .int .i64 0, .int .i64 0, .int .i64 0, .int .i64 0]) ?_ 2 _ rfl; (with_reducible repeat (first | refine blk_drewN ?_ _ | refine blk_drew ?_ | refine blk_alloc ?_ _)); refine blk_put (cs := #[.int .i64 (rd t137 x16_1), .int .i64 0, .int .i64 0, .int .i64 0, .int .i64 0, .int .i64 0]) ?_ 1 _ rfl; (with_reducible repeat (first | refine blk_drewN ?_ _ | refine blk_drew ?_ | refine blk_alloc ?_ _)); refine blk_put (cs := #[.int .i64 0, .int .i64 0, .int .i64 0, .int .i64 0, .int .i64 0, .int .i64 0]) ?_ 0 _ rfl; (with_reducible repeat (first | refine blk_drewN ?_ _ | refine blk_drew ?_ | refine blk_alloc ?_ _)); exact BK144.out) hg (Kd.R_away HO_4.out (fun _ hk => hk.2))); have n3_ := Aside0.mk (hb); have n4_ := Aside0.mk (ho); clear HO_5; clear HO_14; clear BK144; clear HB; clear HO_4; have HO_5 := n0_; have HO_14 := n1_; have BK144 := n2_; have HB := n3_; have HO147 := n4_; clear n0_ n1_ n2_ n3_ n4_; clear ho hb hg hat; have hcz40_0 : w39.cell? ⟨gb144, 0, none⟩ = some (.int .i64 (rd t137 x16_1)) := (blk_cell BK144.out 0).trans rfl; have hcz40_1 : w39.cell? ⟨gb144, 1, none⟩ = some (.int .i64 ji14) := (blk_cell BK144.out 1).trans rfl; have hcz40_2 : w39.cell? ⟨gb144, 2, none⟩ = some (.int .i64 (-1)) := (blk_cell BK144.out 2).trans rfl; have hcz40_3 : w39.cell? ⟨gb144, 3, none⟩ = some (.int .i64 (-1)) := (blk_cell BK144.out 3).trans rfl; have hcz40_4 : w39.cell? ⟨gb144, 4, none⟩ = some (.int .i64 (-1)) := (blk_cell BK144.out 4).trans rfl; have hcz40_5 : w39.cell? ⟨gb144, 5, none⟩ = some (.int .i64 0) := (blk_cell BK144.out 5).trans rfl; have hfz40_0 := blk_frozen BK144.out 0; have hfz40_1 := blk_frozen BK144.out 1; have hfz40_2 := blk_frozen BK144.out 2; have hfz40_3 := blk_frozen BK144.out 3; have hfz40_4 := blk_frozen BK144.out 4; have hfz40_5 := blk_frozen BK144.out 5; have p17 : 0 ≤ ((ji14) : Int) := of_decide_eq_true (by first | (with_reducible assumption) | assumption); have q17 : ((ji14) : Int) < ((y145.length : Int) : Int) := of_decide_eq_true (by first | (with_reducible assumption) | assumption); obtain ⟨go17, co17, eo17, gb17, gl17, cl17, HG17⟩ := Kd.R_form HO147.out (by omega); (first | cases eo17 | (injection eo17 with ea_ en_ ec_; (first | subst ea_ | (injection ea_ with ea_; subst ea_)); subst ec_; clear en_)); have GB17 := Aside0.mk gb17; have GG17 := Aside0.mk HG17; clear gb17 gl17 HG17; obtain ⟨ce17, hcl17, hM17, hcc17, hfr17⟩ := Kd.R_elem HO147.out z27 ((ji14) : Int) p17 q17; obtain rfl := k27_openM hM17; have hx17_0 : w39.cell? ⟨go17, ((ji14) : Int).toNat * 6, none⟩ = some (.int .i64 ((rd_T27 y145 (ji14)).f0)) := hcc17 0 _ rfl; have hx17_1 : w39.cell? ⟨go17, ((ji14) : Int).toNat * 6 + 1, none⟩ = some (.int .i64 ((rd_T27 y145 (ji14)).f1)) := hcc17 1 _ rfl; have hx17_2 : w39.cell? ⟨go17, ((ji14) : Int).toNat * 6 + 2, none⟩ = some (.int .i64 ((rd_T27 y145 (ji14)).f2)) := hcc17 2 _ rfl; have hx17_3 : w39.cell? ⟨go17, ((ji14) : Int).toNat * 6 + 3, none⟩ = some (.int .i64 ((rd_T27 y145 (ji14)).f3)) := hcc17 3 _ rfl; have hx17_4 : w39.cell? ⟨go17, ((ji14) : Int).toNat * 6 + 4, none⟩ = some (.int .i64 ((rd_T27 y145 (ji14)).f4)) := hcc17 4 _ rfl; have hx17_5 : w39.cell? ⟨go17, ((ji14) : Int).toNat * 6 + 5, none⟩ = some (.int .i64 ((rd_T27 y145 (ji14)).f5)) := hcc17 5 _ rfl; have hf17_0 : w39.frozen? ⟨go17, ((ji14) : Int).toNat * 6, none⟩ = false := hfr17 0; have hf17_1 : w39.frozen? ⟨go17, ((ji14) : Int).toNat * 6 + 1, none⟩ = false := hfr17 1; have hf17_2 : w39.frozen? ⟨go17, ((ji14) : Int).toNat * 6 + 2, none⟩ = false := hfr17 2; have hf17_3 : w39.frozen? ⟨go17, ((ji14) : Int).toNat * 6 + 3, none⟩ = false := hfr17 3; have hf17_4 : w39.frozen? ⟨go17, ((ji14) : Int).toNat * 6 + 4, none⟩ = false := hfr17 4; have hf17_5 : w39.frozen? ⟨go17, ((ji14) : Int).toNat * 6 + 5, none⟩ = false := hfr17 5; clear hcl17 hcc17 hfr17 hM17; replace p17 := eq_true p17; replace q17 := eq_true q17; have HX41 := Aside0.mk (show Kd.R k27 27 w39 w.heap.size (fun k_ => k_ ≠ gb144) (.slice (some ⟨go17, 0, none⟩) y145.length co17) y145 from (by (with_reducible repeat (first | apply Kd.R_alloc | apply Kd.R_drewN | apply Kd.R_drew)); exact HO147.out)); obtain ⟨ce41, hcl41, hM41, hcc41, hfr41⟩ := Kd.R_elem HX41.out z27 ((ji14) : Int) (of_decide_eq_true (by first | (with_reducible assumption) | assumption)) (by have h_ : ((ji14) : Int) < ((y145.length : Int) : Int) := of_decide_eq_true (by first | (with_reducible assumption) | assumption); first | exact h_ | (have e_ := (Kd.R_reads' HO147.out).1; omega) | simpa using h_); obtain rfl := k27_openM hM41; have HP41 := Kd.R_seg HX41.out ((ji14) : Int) (of_decide_eq_true (by first | (with_reducible assumption) | assumption)) (by have h_ : ((ji14) : Int) < ((y145.length : Int) : Int) := of_decide_eq_true (by first | (with_reducible assumption) | assumption); first | exact h_ | (have e_ := (Kd.R_reads' HO147.out).1; omega) | simpa using h_) (seg := [.int .i64 x16_1]) (j := 2) hcl41 hcc41 (show 3 ≤ 6 from by decide) (x' := (⟨(rd_T27 y145 (ji14)).f0, (rd_T27 y145 (ji14)).f1, x16_1, (rd_T27 y145 (ji14)).f3, (rd_T27 y145 (ji14)).f4, (rd_T27 y145 (ji14)).f5⟩ : S27)) (k27_mkM _ _ _ (⟨(rd_T27 y145 (ji14)).f0, (rd_T27 y145 (ji14)).f1, x16_1, (rd_T27 y145 (ji14)).f3, (rd_T27 y145 (ji14)).f4, (rd_T27 y145 (ji14)).f5⟩ : S27) ) (fun _ hk => hk); have hx41_2 := hcc41 2 _ rfl; (try simp only [show (k27).sz = 6 from rfl, Nat.mul_one, Nat.add_zero] at hx41_2); have hf41_2 := hfr41 2; (try simp only [show (k27).sz = 6 from rfl, Nat.mul_one, Nat.add_zero] at hf41_2); clear hcl41 hcc41 hfr41 hM41) | ((with_reducible refine gate_store (t := 3) (p := 39) rfl ?_); refine store_event (t := 3) (p := 39) (v := ?vo_w42) (w1 := (w39.setCell ⟨go17, ((ji14) : Int).toNat * 6 + 2, none⟩ (.int .i64 x16_1))) ?hg ?ho ?hn ?hr ?_; (case ho => rfl); (case hg => rfl); (case hn => rfl); (case hr => first | (go_simp; done) | (go_simp; rfl)); intro w42 hw; have hg : w39.grownBy w42 (some go17) := (by rw [hw]; exact HP41.2); have hp_ : Kd.R k27 27 w42 w.heap.size (fun k_ => k_ ≠ gb144) (.slice (some ⟨go17, 0, none⟩) y145.length co17) y148 := (by rw [hw, Ny148.out]; exact HP41.1); clear HP41; have n0_ := Aside0.mk (Kd.MP_over' (v := (.slice (some ⟨go17, 0, none⟩) y145.length co17)) (by (with_reducible repeat (first | apply Kd.MP_alloc | apply Kd.MP_drewN | apply Kd.MP_drew)); exact HO_5.out) (Kd.R_typed HO147.out) (by decide) hg); have n1_ := Aside0.mk (Kd.R_over' (v := (.slice (some ⟨go17, 0, none⟩) y145.length co17)) (by (with_reducible repeat (first | apply Kd.R_alloc | apply Kd.R_drewN | apply Kd.R_drew)); exact HO_14.out) (Kd.R_typed HO147.out) (by decide) hg); have n2_ := Aside0.mk (blk_grown (g := gb144) (o := .cells #[.int .i64 (rd t137 x16_1), .int .i64 ji14, .int .i64 (-1), .int .i64 (-1), .int .i64 (-1), .int .i64 0] 27 (0, 0)) (by (with_reducible repeat (first | refine blk_drewN ?_ _ | refine blk_drew ?_ | refine blk_alloc ?_ _)); exact BK144.out) hg (Kd.R_away HO147.out (fun _ hk => hk))); have n3_ := Aside0.mk (hp_); have n4_ := Aside0.mk ((by rw [hw]; exact below_set (HB.out) GB17.out : Below w.heap.size w w42)); clear HO_5; clear HO_14; clear BK144; clear HO147; clear HB; have HO_5 := n0_; have HO_14 := n1_; have BK144 := n2_; have HO147 := n3_; have HB := n4_; clear n0_ n1_ n2_ n3_ n4_; clear hg hw hp_) | ((with_reducible refine Kd.gate_mapup (t := 52) (m := .tmp 54) rfl ?_); at_mapUpdate; refine Kd.MP_update k71 (w0 := w) (base := w.heap.size) rfl _ _ _ 52 rfl rfl kmap52 Try.underlying52 Try.underlying3 (show Kd.MP k71 71 _ w.heap.size (fun _ => True) v141 x5_1 from by (with_reducible repeat (first | apply Kd.MP_alloc | apply Kd.MP_drewN | apply Kd.MP_drew)); exact HO_5.out) (by have := LMc36.out; exact this) (⟨rd t137 x16_1, wrap64 (x16_1 + 1)⟩ : S71) (wrap64 (x16_1 + 1)) (rd t137 x16_1) rfl rfl rfl rfl (wrap64_wf _) (Go.Maps.keyOf_int_mk Try.underlying3 (Go.Proofs.YtdoponngnjmkkaaM.wf_i64 (of_decide_eq_true (by first | (with_reducible assumption) | assumption)) (of_decide_eq_true (by first | (with_reducible assumption) | assumption)))) ?aB ?aS ?_; (case aB => exact (by repeat (first | (with_reducible first | exact HB.out | apply below_alloc | apply pw_below_drewN | apply below_drew1 | refine below_set ?_ GE144.out) | exact HB.out))); (case aS => exact (below_size (by repeat (first | (with_reducible first | exact HB.out | apply below_alloc | apply pw_below_drewN | apply below_drew1 | refine below_set ?_ GE144.out) | exact HB.out)))); intro w43 ho hb hgm_; obtain ⟨bm_, hg, hbm_⟩ := hgm_; rw [← Ny151.out] at ho; have n0_ := Aside0.mk (Kd.R_mapped (by (with_reducible repeat (first | apply Kd.R_alloc | apply Kd.R_drewN | apply Kd.R_drew)); exact HO_14.out) hg hbm_); have n1_ := Aside0.mk (blk_grown (g := gb144) (o := .cells #[.int .i64 (rd t137 x16_1), .int .i64 ji14, .int .i64 (-1), .int .i64 (-1), .int .i64 (-1), .int .i64 0] 27 (0, 0)) (by (with_reducible repeat (first | refine blk_drewN ?_ _ | refine blk_drew ?_ | refine blk_alloc ?_ _)); exact BK144.out) hg (Kd.blk_mapped (by (with_reducible repeat (first | refine blk_drewN ?_ _ | refine blk_drew ?_ | refine blk_alloc ?_ _)); exact BK144.out) hbm_)); have n2_ := Aside0.mk (Kd.R_mapped (by (with_reducible repeat (first | apply Kd.R_alloc | apply Kd.R_drewN | apply Kd.R_drew)); exact HO147.out) hg hbm_); have n3_ := Aside0.mk (hb); have n4_ := Aside0.mk (ho); clear HO_14; clear BK144; clear HO147; clear HB; clear HO_5; have HO_14 := n0_; have BK144 := n1_; have HO147 := n2_; have HB := n3_; have HO_5 := n4_; clear n0_ n1_ n2_ n3_ n4_; clear ho hb hg hbm_))
                            go_roundg k1
                            case measure => have := HK1.out; omega
                            case rel => exact ⟨(y148), (y151), (wrap64 (x16_1 + 1)), (by first | rfl | (simp; done) | (simp [*]; done)), H', ⟨by have := HK1.out; omega⟩, ⟨by (with_reducible repeat (first | apply Kd.R_alloc | apply Kd.R_drewN | apply Kd.R_drew)); exact Kd.R_mono HO147.out (fun _ hk => trivial)⟩, ⟨by (with_reducible repeat (first | apply Kd.MP_alloc | apply Kd.MP_drewN | apply Kd.MP_drew)); exact HO_5.out⟩, ⟨by (with_reducible repeat (first | apply Kd.R_alloc | apply Kd.R_drewN | apply Kd.R_drew)); exact HO_14.out⟩, ⟨by repeat (first | (with_reducible first | exact HB.out | apply below_alloc | apply pw_below_drewN | apply below_drew1 | refine below_set ?_ GE144.out) | exact HB.out)⟩⟩
                          · rw [if_neg c36] at H
                            exact absurd H (by simp)
                      · rw [if_neg c16] at H
                        exact absurd H (by simp)
                    · rw [if_neg c15] at H
                      exact absurd H (by simp)
                  · rw [if_neg c13] at H
                    have c13b0 : decide (0 ≤ (wrap64 ((mget71 x5_1 (rd t137 x16_1)) - 1))) = false := decide_eq_false c13
                    clear c13
                    by_cases c44 : (rd t137 x16_1) ≥ 0
                    · rw [if_pos c44] at H
                      have c44b0 : decide (0 ≤ (rd t137 x16_1)) = true := decide_eq_true c44
                      clear c44
                      by_cases c45 : 0 ≤ (rd t137 x16_1)
                      · rw [if_pos c45] at H
                        have c45b0 : decide (0 ≤ (rd t137 x16_1)) = true := decide_eq_true c45
                        clear c45
                        by_cases c46 : (rd t137 x16_1) < (y145.length : Int)
                        · rw [if_pos c46] at H
                          have c46b0 : decide ((rd t137 x16_1) < (y145.length : Int)) = true := decide_eq_true c46
                          clear c46
                          obtain ⟨y152, hy152⟩ : ∃ y_ : List (S27), y_ = (y145.set ((rd t137 x16_1) : Int).toNat (⟨(rd_T27 y145 (rd t137 x16_1)).f0, (rd_T27 y145 (rd t137 x16_1)).f1, (rd_T27 y145 (rd t137 x16_1)).f2, x16_1, (rd_T27 y145 (rd t137 x16_1)).f4, (rd_T27 y145 (rd t137 x16_1)).f5⟩ : S27)) := ⟨_, rfl⟩
                          replace H : (if x5_1.length < 9223372036854775807 then (anchors_Knots.l0 k1 (y152.set ((rd t137 x16_1) : Int).toNat (⟨(rd_T27 y152 (rd t137 x16_1)).f0, (rd_T27 y152 (rd t137 x16_1)).f1, (rd_T27 y152 (rd t137 x16_1)).f2, (rd_T27 y152 (rd t137 x16_1)).f3, x16_1, (rd_T27 y152 (rd t137 x16_1)).f5⟩ : S27)) ((⟨rd t137 x16_1, wrap64 (x16_1 + 1)⟩ : S71) :: x5_1) t137 (t137.length : Int) (wrap64 (x16_1 + 1))) else (none)) = some r := by first | (rw [hy152]; with_reducible exact H) | (have H2_ := (Option.bind_some _ _).symm.trans H; rw [hy152]; with_reducible exact H2_) | (have H2_ := (Option.bind_some _ _).symm.trans H; with_reducible exact H2_) | with_reducible exact H | (rw [hy152]; exact H) | exact H
                          have Ny152 := Aside0.mk hy152
                          clear hy152
                          obtain ⟨y153, hy153⟩ : ∃ y_ : List (S27), y_ = (y152.set ((rd t137 x16_1) : Int).toNat (⟨(rd_T27 y152 (rd t137 x16_1)).f0, (rd_T27 y152 (rd t137 x16_1)).f1, (rd_T27 y152 (rd t137 x16_1)).f2, (rd_T27 y152 (rd t137 x16_1)).f3, x16_1, (rd_T27 y152 (rd t137 x16_1)).f5⟩ : S27)) := ⟨_, rfl⟩
                          replace H : (if x5_1.length < 9223372036854775807 then (anchors_Knots.l0 k1 y153 ((⟨rd t137 x16_1, wrap64 (x16_1 + 1)⟩ : S71) :: x5_1) t137 (t137.length : Int) (wrap64 (x16_1 + 1))) else (none)) = some r := by first | (rw [hy153]; with_reducible exact H) | (have H2_ := (Option.bind_some _ _).symm.trans H; rw [hy153]; with_reducible exact H2_) | (have H2_ := (Option.bind_some _ _).symm.trans H; with_reducible exact H2_) | with_reducible exact H | (rw [hy153]; exact H) | exact H
                          have Ny153 := Aside0.mk hy153
                          clear hy153
                          have c49b0 := eq_true (of_decide_eq_true (by first | (with_reducible assumption) | assumption) : (-9223372036854775808) ≤ (rd t137 x16_1))
                          have c50b0 := eq_true (of_decide_eq_true (by first | (with_reducible assumption) | assumption) : (rd t137 x16_1) ≤ 9223372036854775807)
                          by_cases c51 : x5_1.length < 9223372036854775807
                          · rw [if_pos c51] at H
                            have LMc51 := Aside0.mk c51
                            clear c51
                            obtain ⟨y154, hy154⟩ : ∃ y_ : List (S71), y_ = ((⟨rd t137 x16_1, wrap64 (x16_1 + 1)⟩ : S71) :: x5_1) := ⟨_, rfl⟩
                            replace H : (anchors_Knots.l0 k1 y153 y154 t137 (t137.length : Int) (wrap64 (x16_1 + 1))) = some r := by first | (rw [hy154]; with_reducible exact H) | (have H2_ := (Option.bind_some _ _).symm.trans H; rw [hy154]; with_reducible exact H2_) | (have H2_ := (Option.bind_some _ _).symm.trans H; with_reducible exact H2_) | with_reducible exact H | (rw [hy154]; exact H) | exact H
                            have Ny154 := Aside0.mk hy154
                            clear hy154
                            have H' := Aside0.mk H
                            clear H
                            have p143 : 0 ≤ (x16_1 : Int) := of_decide_eq_true (by first | (with_reducible assumption) | assumption)
                            have q143 : x16_1 < (t137.length : Int) := of_decide_eq_true (by first | (with_reducible assumption) | assumption)
                            obtain ⟨ad143, e143, hx143_0⟩ := Kd.at_int (Kd.R_reads' HO_14.out).2.2 x16_1 p143 q143
                            cases e143
                            replace p143 := eq_true p143
                            replace q143 := eq_true q143
                            go_wp2_with (first | ((with_reducible refine gate_dst (N := 24) rfl ?_); at_lookup; refine Kd.MP_lookup k71 rfl _ _ 52 rfl rfl kmap52 Try.underlying52 Try.underlying3 (zmap52 _) (show Kd.MP k71 71 _ w.heap.size (fun _ => True) v141 x5_1 from by (with_reducible repeat (first | apply Kd.MP_alloc | apply Kd.MP_drewN | apply Kd.MP_drew)); exact HO_5.out) (rd t137 x16_1) (mget71 x5_1 (rd t137 x16_1)) rfl rfl rfl (Go.Maps.keyOf_int_mk Try.underlying3 (Go.Proofs.YtdoponngnjmkkaaM.wf_i64 (of_decide_eq_true (by first | (with_reducible assumption) | assumption)) (of_decide_eq_true (by first | (with_reducible assumption) | assumption)))) ?_) | ((with_reducible refine gate_dst (N := 8) rfl ?_); refine box_event ?hg (N := 8) ?hd (cs := #[.int .i64 0, .int .i64 0, .int .i64 0, .int .i64 0, .int .i64 0, .int .i64 0]) (t := 27) ?hr ?_; (case hd => rfl); (case hg => rfl); (case hr => first | (go_simp; done) | (go_simp; rfl)); intro gb144 hg w52 hbox hb; have n0_ := Aside0.mk (Kd.R_below (Kd.R_elderB (by (with_reducible repeat (first | apply Kd.R_alloc | apply Kd.R_drewN | apply Kd.R_drew)); exact HO_4.out) gb144 (Nat.le_of_eq hg.symm)) hb); have n1_ := Aside0.mk (Kd.MP_below (by (with_reducible repeat (first | apply Kd.MP_alloc | apply Kd.MP_drewN | apply Kd.MP_drew)); exact HO_5.out) hb); have n2_ := Aside0.mk (Kd.R_below (by (with_reducible repeat (first | apply Kd.R_alloc | apply Kd.R_drewN | apply Kd.R_drew)); exact HO_14.out) hb); have n3_ := Aside0.mk (below_step (by repeat (first | (with_reducible first | exact HB.out | apply below_alloc | apply pw_below_drewN | apply below_drew1) | exact HB.out)) hb); have n4_ := Aside0.mk (hbox); have n5_ := Aside0.mk ((by rw [hg]; exact (below_size (by repeat (first | (with_reducible first | exact HB.out | apply below_alloc | apply pw_below_drewN | apply below_drew1) | exact HB.out))) : w.heap.size ≤ gb144)); have n6_ := Aside0.mk ((by rw [hg]; exact (below_size (by repeat (first | (with_reducible first | exact HB.out | apply below_alloc | apply pw_below_drewN | apply below_drew1) | exact HB.out))) : w.heap.size ≤ gb144)); clear HO_4; clear HO_5; clear HO_14; clear HB; have HO_4 := n0_; have HO_5 := n1_; have HO_14 := n2_; have HB := n3_; have BK144 := n4_; have GW144 := n5_; have GE144 := n6_; clear n0_ n1_ n2_ n3_ n4_ n5_ n6_; clear hb hbox hg; have hcz53_0 : w52.cell? ⟨gb144, 0, none⟩ = some (.int .i64 0) := (blk_cell BK144.out 0).trans rfl; have hcz53_1 : w52.cell? ⟨gb144, 1, none⟩ = some (.int .i64 0) := (blk_cell BK144.out 1).trans rfl; have hcz53_2 : w52.cell? ⟨gb144, 2, none⟩ = some (.int .i64 0) := (blk_cell BK144.out 2).trans rfl; have hcz53_3 : w52.cell? ⟨gb144, 3, none⟩ = some (.int .i64 0) := (blk_cell BK144.out 3).trans rfl; have hcz53_4 : w52.cell? ⟨gb144, 4, none⟩ = some (.int .i64 0) := (blk_cell BK144.out 4).trans rfl; have hcz53_5 : w52.cell? ⟨gb144, 5, none⟩ = some (.int .i64 0) := (blk_cell BK144.out 5).trans rfl; have hfz53_0 := blk_frozen BK144.out 0; have hfz53_1 := blk_frozen BK144.out 1; have hfz53_2 := blk_frozen BK144.out 2; have hfz53_3 := blk_frozen BK144.out 3; have hfz53_4 := blk_frozen BK144.out 4; have hfz53_5 := blk_frozen BK144.out 5) | ((with_reducible refine gate_builtin (b := .append) (xs := #[.tmp 27, .tmp 29]) rfl ?_); at_builtin; refine Kd.R_append k27 (w0 := w) w.heap.size rfl (.tmp 27) (.tmp 29) 24 27 (.agg #[(.int .i64 0), (.int .i64 0), (.int .i64 0), (.int .i64 0), (.int .i64 0), (.int .i64 0)]) 48 rfl Try.underlying24 info27 rfl (by decide) (by omega) u4 x4_1 (⟨rd t137 x16_1, wrap64 ((mget71 x5_1 (rd t137 x16_1)) - 1), (-1), (-1), (-1), 0⟩ : S27) [.int .i64 (rd t137 x16_1), .int .i64 (wrap64 ((mget71 x5_1 (rd t137 x16_1)) - 1)), .int .i64 (-1), .int .i64 (-1), .int .i64 (-1), .int .i64 0] (fun k_ => k_ ≠ gb144) (fun _ => False) rfl (by first | (go_simp; done) | (go_simp; rfl)) ?aP (fun _ hk => hk.elim) ?aF ?aO ?aB ?aS ?aL ?_; (case aP => exact k27_mkM _ _ _ (⟨rd t137 x16_1, wrap64 ((mget71 x5_1 (rd t137 x16_1)) - 1), (-1), (-1), (-1), 0⟩ : S27)); (case aB => exact (by repeat (first | (with_reducible first | exact HB.out | apply below_alloc | apply pw_below_drewN | apply below_drew1 | refine below_set ?_ GE144.out) | exact HB.out))); (case aF => exact (fun k_ hk => Kd.freshB (g := gb144) (o := .cells #[.int .i64 (rd t137 x16_1), .int .i64 (wrap64 ((mget71 x5_1 (rd t137 x16_1)) - 1)), .int .i64 (-1), .int .i64 (-1), .int .i64 (-1), .int .i64 0] 27 (0, 0)) (by (with_reducible repeat (first | refine blk_drewN ?_ _ | refine blk_drew ?_ | refine blk_alloc ?_ _)); refine blk_put (cs := #[.int .i64 (rd t137 x16_1), .int .i64 (wrap64 ((mget71 x5_1 (rd t137 x16_1)) - 1)), .int .i64 (-1), .int .i64 (-1), .int .i64 (-1), .int .i64 0]) ?_ 5 _ rfl; (with_reducible repeat (first | refine blk_drewN ?_ _ | refine blk_drew ?_ | refine blk_alloc ?_ _)); refine blk_put (cs := #[.int .i64 (rd t137 x16_1), .int .i64 (wrap64 ((mget71 x5_1 (rd t137 x16_1)) - 1)), .int .i64 (-1), .int .i64 (-1), .int .i64 0, .int .i64 0]) ?_ 4 _ rfl; (with_reducible repeat (first | refine blk_drewN ?_ _ | refine blk_drew ?_ | refine blk_alloc ?_ _)); refine blk_put (cs := #[.int .i64 (rd t137 x16_1), .int .i64 (wrap64 ((mget71 x5_1 (rd t137 x16_1)) - 1)), .int .i64 (-1), .int .i64 0, .int .i64 0, .int .i64 0]) ?_ 3 _ rfl; (with_reducible repeat (first | refine blk_drewN ?_ _ | refine blk_drew ?_ | refine blk_alloc ?_ _)); refine blk_put (cs := #[.int .i64 (rd t137 x16_1), .int .i64 (wrap64 ((mget71 x5_1 (rd t137 x16_1)) - 1)), .int .i64 0, .int .i64 0, .int .i64 0, .int .i64 0]) ?_ 2 _ rfl; (with_reducible repeat (first | refine blk_drewN ?_ _ | refine blk_drew ?_ | refine blk_alloc ?_ _)); refine blk_put (cs := #[.int .i64 (rd t137 x16_1), .int .i64 0, .int .i64 0, .int .i64 0, .int .i64 0, .int .i64 0]) ?_ 1 _ rfl; (with_reducible repeat (first | refine blk_drewN ?_ _ | refine blk_drew ?_ | refine blk_alloc ?_ _)); refine blk_put (cs := #[.int .i64 0, .int .i64 0, .int .i64 0, .int .i64 0, .int .i64 0, .int .i64 0]) ?_ 0 _ rfl; (with_reducible repeat (first | refine blk_drewN ?_ _ | refine blk_drew ?_ | refine blk_alloc ?_ _)); exact BK144.out) k_ hk)); (case aO => exact (by (with_reducible repeat (first | apply Kd.R_alloc | apply Kd.R_drewN | apply Kd.R_drew)); exact Kd.R_mono (Kd.R_far (p := ⟨gb144, 5, none⟩) (Kd.R_far (p := ⟨gb144, 4, none⟩) (Kd.R_far (p := ⟨gb144, 3, none⟩) (Kd.R_far (p := ⟨gb144, 2, none⟩) (Kd.R_far (p := ⟨gb144, 1, none⟩) (Kd.R_far (p := ⟨gb144, 0, none⟩) (Kd.R_mono HO_4.out (fun k_ hk => (⟨hk, hk.2⟩ : _ ∧ k_ ≠ gb144))) (fun _ hk => hk.2) (.int .i64 (rd t137 x16_1))) (fun _ hk => hk.2) (.int .i64 (wrap64 ((mget71 x5_1 (rd t137 x16_1)) - 1)))) (fun _ hk => hk.2) (.int .i64 (-1))) (fun _ hk => hk.2) (.int .i64 (-1))) (fun _ hk => hk.2) (.int .i64 (-1))) (fun _ hk => hk.2) (.int .i64 0)) (fun _ hk => hk.1.2))); (case aS => exact (below_size (by repeat (first | (with_reducible first | exact HB.out | apply below_alloc | apply pw_below_drewN | apply below_drew1 | refine below_set ?_ GE144.out) | exact HB.out)))); (case aL => have := LMc12.out; omega); intro v146 w54 ho hb hg hat; rw [← Ny145.out] at ho; have n0_ := Aside0.mk (Kd.MP_over' (by (with_reducible repeat (first | apply Kd.MP_alloc | apply Kd.MP_drewN | apply Kd.MP_drew)); exact (Kd.MP_mono (Kd.MP_far (p := ⟨gb144, 5, none⟩) (Kd.MP_far (p := ⟨gb144, 4, none⟩) (Kd.MP_far (p := ⟨gb144, 3, none⟩) (Kd.MP_far (p := ⟨gb144, 2, none⟩) (Kd.MP_far (p := ⟨gb144, 1, none⟩) (Kd.MP_far (p := ⟨gb144, 0, none⟩) (Kd.MP_types HO_5.out BK144.out (by decide)) (fun _ hk => hk.2) (.int .i64 (rd t137 x16_1))) (fun _ hk => hk.2) (.int .i64 (wrap64 ((mget71 x5_1 (rd t137 x16_1)) - 1)))) (fun _ hk => hk.2) (.int .i64 (-1))) (fun _ hk => hk.2) (.int .i64 (-1))) (fun _ hk => hk.2) (.int .i64 (-1))) (fun _ hk => hk.2) (.int .i64 0)) (fun _ h_ => h_.1))) (Kd.R_typed (by (with_reducible repeat (first | apply Kd.R_alloc | apply Kd.R_drewN | apply Kd.R_drew)); exact (Kd.R_mono (Kd.R_far (p := ⟨gb144, 5, none⟩) (Kd.R_far (p := ⟨gb144, 4, none⟩) (Kd.R_far (p := ⟨gb144, 3, none⟩) (Kd.R_far (p := ⟨gb144, 2, none⟩) (Kd.R_far (p := ⟨gb144, 1, none⟩) (Kd.R_far (p := ⟨gb144, 0, none⟩) (Kd.R_mono HO_4.out (fun k_ hk => (⟨hk, hk.2⟩ : _ ∧ k_ ≠ gb144))) (fun _ hk => hk.2) (.int .i64 (rd t137 x16_1))) (fun _ hk => hk.2) (.int .i64 (wrap64 ((mget71 x5_1 (rd t137 x16_1)) - 1)))) (fun _ hk => hk.2) (.int .i64 (-1))) (fun _ hk => hk.2) (.int .i64 (-1))) (fun _ hk => hk.2) (.int .i64 (-1))) (fun _ hk => hk.2) (.int .i64 0)) (fun _ h_ => h_.1)))) (by decide) hg); have n1_ := Aside0.mk (Kd.R_over' (by (with_reducible repeat (first | apply Kd.R_alloc | apply Kd.R_drewN | apply Kd.R_drew)); exact (Kd.R_mono (Kd.R_far (p := ⟨gb144, 5, none⟩) (Kd.R_far (p := ⟨gb144, 4, none⟩) (Kd.R_far (p := ⟨gb144, 3, none⟩) (Kd.R_far (p := ⟨gb144, 2, none⟩) (Kd.R_far (p := ⟨gb144, 1, none⟩) (Kd.R_far (p := ⟨gb144, 0, none⟩) (Kd.R_types HO_14.out BK144.out (by decide)) (fun _ hk => hk.2) (.int .i64 (rd t137 x16_1))) (fun _ hk => hk.2) (.int .i64 (wrap64 ((mget71 x5_1 (rd t137 x16_1)) - 1)))) (fun _ hk => hk.2) (.int .i64 (-1))) (fun _ hk => hk.2) (.int .i64 (-1))) (fun _ hk => hk.2) (.int .i64 (-1))) (fun _ hk => hk.2) (.int .i64 0)) (fun _ h_ => h_.1))) (Kd.R_typed (by (with_reducible repeat (first | apply Kd.R_alloc | apply Kd.R_drewN | apply Kd.R_drew)); exact (Kd.R_mono (Kd.R_far (p := ⟨gb144, 5, none⟩) (Kd.R_far (p := ⟨gb144, 4, none⟩) (Kd.R_far (p := ⟨gb144, 3, none⟩) (Kd.R_far (p := ⟨gb144, 2, none⟩) (Kd.R_far (p := ⟨gb144, 1, none⟩) (Kd.R_far (p := ⟨gb144, 0, none⟩) (Kd.R_mono HO_4.out (fun k_ hk => (⟨hk, hk.2⟩ : _ ∧ k_ ≠ gb144))) (fun _ hk => hk.2) (.int .i64 (rd t137 x16_1))) (fun _ hk => hk.2) (.int .i64 (wrap64 ((mget71 x5_1 (rd t137 x16_1)) - 1)))) (fun _ hk => hk.2) (.int .i64 (-1))) (fun _ hk => hk.2) (.int .i64 (-1))) (fun _ hk => hk.2) (.int .i64 (-1))) (fun _ hk => hk.2) (.int .i64 0)) (fun _ h_ => h_.1)))) (by decide) hg); have n2_ := Aside0.mk (blk_grown (g := gb144) (o := .cells #[.int .i64 (rd t137 x16_1), .int .i64 (wrap64 ((mget71 x5_1 (rd t137 x16_1)) - 1)), .int .i64 (-1), .int .i64 (-1), .int .i64 (-1), .int .i64 0] 27 (0, 0)) (by (with_reducible repeat (first | refine blk_drewN ?_ _ | refine blk_drew ?_ | refine blk_alloc ?_ _)); refine blk_put (cs := #[.int .i64 (rd t137 x16_1), .int .i64 (wrap64 ((mget71 x5_1 (rd t137 x16_1)) - 1)), .int .i64 (-1), .int .i64 (-1), .int .i64 (-1), .int .i64 0]) ?_ 5 _ rfl; (with_reducible repeat (first | refine blk_drewN ?_ _ | refine blk_drew ?_ | refine blk_alloc ?_ _)); refine blk_put (cs := #[.int .i64 (rd t137 x16_1), .int .i64 (wrap64 ((mget71 x5_1 (rd t137 x16_1)) - 1)), .int .i64 (-1), .int .i64 (-1), .int .i64 0, .int .i64 0]) ?_ 4 _ rfl; (with_reducible repeat (first | refine blk_drewN ?_ _ | refine blk_drew ?_ | refine blk_alloc ?_ _)); refine blk_put (cs := #[.int .i64 (rd t137 x16_1), .int .i64 (wrap64 ((mget71 x5_1 (rd t137 x16_1)) - 1)), .int .i64 (-1), .int .i64 0, .int .i64 0, .int .i64 0]) ?_ 3 _ rfl; (with_reducible repeat (first | refine blk_drewN ?_ _ | refine blk_drew ?_ | refine blk_alloc ?_ _)); refine blk_put (cs := #[.int .i64 (rd t137 x16_1), .int .i64 (wrap64 ((mget71 x5_1 (rd t137 x16_1)) - 1)), .int .i64 0, .int .i64 0, .int .i64 0, .int .i64 0]) ?_ 2 _ rfl; (with_reducible repeat (first | refine blk_drewN ?_ _ | refine blk_drew ?_ | refine blk_alloc ?_ _)); refine blk_put (cs := #[.int .i64 (rd t137 x16_1), .int .i64 0, .int .i64 0, .int .i64 0, .int .i64 0, .int .i64 0]) ?_ 1 _ rfl; (with_reducible repeat (first | refine blk_drewN ?_ _ | refine blk_drew ?_ | refine blk_alloc ?_ _)); refine blk_put (cs := #[.int .i64 0, .int .i64 0, .int .i64 0, .int .i64 0, .int .i64 0, .int .i64 0]) ?_ 0 _ rfl; (with_reducible repeat (first | refine blk_drewN ?_ _ | refine blk_drew ?_ | refine blk_alloc ?_ _)); exact BK144.out) hg (Kd.R_away HO_4.out (fun _ hk => hk.2))); have n3_ := Aside0.mk (hb); have n4_ := Aside0.mk (ho); clear HO_5; clear HO_14; clear BK144; clear HB; clear HO_4; have HO_5 := n0_; have HO_14 := n1_; have BK144 := n2_; have HB := n3_; have HO147 := n4_; clear n0_ n1_ n2_ n3_ n4_; clear ho hb hg hat; have hcz55_0 : w54.cell? ⟨gb144, 0, none⟩ = some (.int .i64 (rd t137 x16_1)) := (blk_cell BK144.out 0).trans rfl; have hcz55_1 : w54.cell? ⟨gb144, 1, none⟩ = some (.int .i64 (wrap64 ((mget71 x5_1 (rd t137 x16_1)) - 1))) := (blk_cell BK144.out 1).trans rfl; have hcz55_2 : w54.cell? ⟨gb144, 2, none⟩ = some (.int .i64 (-1)) := (blk_cell BK144.out 2).trans rfl; have hcz55_3 : w54.cell? ⟨gb144, 3, none⟩ = some (.int .i64 (-1)) := (blk_cell BK144.out 3).trans rfl; have hcz55_4 : w54.cell? ⟨gb144, 4, none⟩ = some (.int .i64 (-1)) := (blk_cell BK144.out 4).trans rfl; have hcz55_5 : w54.cell? ⟨gb144, 5, none⟩ = some (.int .i64 0) := (blk_cell BK144.out 5).trans rfl; have hfz55_0 := blk_frozen BK144.out 0; have hfz55_1 := blk_frozen BK144.out 1; have hfz55_2 := blk_frozen BK144.out 2; have hfz55_3 := blk_frozen BK144.out 3; have hfz55_4 := blk_frozen BK144.out 4; have hfz55_5 := blk_frozen BK144.out 5; have p47 : 0 ≤ ((rd t137 x16_1) : Int) := of_decide_eq_true (by first | (with_reducible assumption) | assumption); have q47 : ((rd t137 x16_1) : Int) < ((y145.length : Int) : Int) := of_decide_eq_true (by first | (with_reducible assumption) | assumption); obtain ⟨go47, co47, eo47, gb47, gl47, cl47, HG47⟩ := Kd.R_form HO147.out (by omega); (first | cases eo47 | (injection eo47 with ea_ en_ ec_; (first | subst ea_ | (injection ea_ with ea_; subst ea_)); subst ec_; clear en_)); have GB47 := Aside0.mk gb47; have GG47 := Aside0.mk HG47; clear gb47 gl47 HG47; obtain ⟨ce47, hcl47, hM47, hcc47, hfr47⟩ := Kd.R_elem HO147.out z27 ((rd t137 x16_1) : Int) p47 q47; obtain rfl := k27_openM hM47; have hx47_0 : w54.cell? ⟨go47, ((rd t137 x16_1) : Int).toNat * 6, none⟩ = some (.int .i64 ((rd_T27 y145 (rd t137 x16_1)).f0)) := hcc47 0 _ rfl; have hx47_1 : w54.cell? ⟨go47, ((rd t137 x16_1) : Int).toNat * 6 + 1, none⟩ = some (.int .i64 ((rd_T27 y145 (rd t137 x16_1)).f1)) := hcc47 1 _ rfl; have hx47_2 : w54.cell? ⟨go47, ((rd t137 x16_1) : Int).toNat * 6 + 2, none⟩ = some (.int .i64 ((rd_T27 y145 (rd t137 x16_1)).f2)) := hcc47 2 _ rfl; have hx47_3 : w54.cell? ⟨go47, ((rd t137 x16_1) : Int).toNat * 6 + 3, none⟩ = some (.int .i64 ((rd_T27 y145 (rd t137 x16_1)).f3)) := hcc47 3 _ rfl; have hx47_4 : w54.cell? ⟨go47, ((rd t137 x16_1) : Int).toNat * 6 + 4, none⟩ = some (.int .i64 ((rd_T27 y145 (rd t137 x16_1)).f4)) := hcc47 4 _ rfl; have hx47_5 : w54.cell? ⟨go47, ((rd t137 x16_1) : Int).toNat * 6 + 5, none⟩ = some (.int .i64 ((rd_T27 y145 (rd t137 x16_1)).f5)) := hcc47 5 _ rfl; have hf47_0 : w54.frozen? ⟨go47, ((rd t137 x16_1) : Int).toNat * 6, none⟩ = false := hfr47 0; have hf47_1 : w54.frozen? ⟨go47, ((rd t137 x16_1) : Int).toNat * 6 + 1, none⟩ = false := hfr47 1; have hf47_2 : w54.frozen? ⟨go47, ((rd t137 x16_1) : Int).toNat * 6 + 2, none⟩ = false := hfr47 2; have hf47_3 : w54.frozen? ⟨go47, ((rd t137 x16_1) : Int).toNat * 6 + 3, none⟩ = false := hfr47 3; have hf47_4 : w54.frozen? ⟨go47, ((rd t137 x16_1) : Int).toNat * 6 + 4, none⟩ = false := hfr47 4; have hf47_5 : w54.frozen? ⟨go47, ((rd t137 x16_1) : Int).toNat * 6 + 5, none⟩ = false := hfr47 5; clear hcl47 hcc47 hfr47 hM47; replace p47 := eq_true p47; replace q47 := eq_true q47; have HX56 := Aside0.mk (show Kd.R k27 27 w54 w.heap.size (fun k_ => k_ ≠ gb144) (.slice (some ⟨go47, 0, none⟩) y145.length co47) y145 from (by (with_reducible repeat (first | apply Kd.R_alloc | apply Kd.R_drewN | apply Kd.R_drew)); exact HO147.out)); obtain ⟨ce56, hcl56, hM56, hcc56, hfr56⟩ := Kd.R_elem HX56.out z27 ((rd t137 x16_1) : Int) (of_decide_eq_true (by first | (with_reducible assumption) | assumption)) (by have h_ : ((rd t137 x16_1) : Int) < ((y145.length : Int) : Int) := of_decide_eq_true (by first | (with_reducible assumption) | assumption); first | exact h_ | (have e_ := (Kd.R_reads' HO147.out).1; omega) | simpa using h_); obtain rfl := k27_openM hM56; have HP56 := Kd.R_seg HX56.out ((rd t137 x16_1) : Int) (of_decide_eq_true (by first | (with_reducible assumption) | assumption)) (by have h_ : ((rd t137 x16_1) : Int) < ((y145.length : Int) : Int) := of_decide_eq_true (by first | (with_reducible assumption) | assumption); first | exact h_ | (have e_ := (Kd.R_reads' HO147.out).1; omega) | simpa using h_) (seg := [.int .i64 x16_1]) (j := 3) hcl56 hcc56 (show 4 ≤ 6 from by decide) (x' := (⟨(rd_T27 y145 (rd t137 x16_1)).f0, (rd_T27 y145 (rd t137 x16_1)).f1, (rd_T27 y145 (rd t137 x16_1)).f2, x16_1, (rd_T27 y145 (rd t137 x16_1)).f4, (rd_T27 y145 (rd t137 x16_1)).f5⟩ : S27)) (k27_mkM _ _ _ (⟨(rd_T27 y145 (rd t137 x16_1)).f0, (rd_T27 y145 (rd t137 x16_1)).f1, (rd_T27 y145 (rd t137 x16_1)).f2, x16_1, (rd_T27 y145 (rd t137 x16_1)).f4, (rd_T27 y145 (rd t137 x16_1)).f5⟩ : S27) ) (fun _ hk => hk); have hx56_3 := hcc56 3 _ rfl; (try simp only [show (k27).sz = 6 from rfl, Nat.mul_one, Nat.add_zero] at hx56_3); have hf56_3 := hfr56 3; (try simp only [show (k27).sz = 6 from rfl, Nat.mul_one, Nat.add_zero] at hf56_3); clear hcl56 hcc56 hfr56 hM56) | ((with_reducible refine gate_store (t := 3) (p := 46) rfl ?_); refine store_event (t := 3) (p := 46) (v := ?vo_w57) (w1 := (w54.setCell ⟨go47, ((rd t137 x16_1) : Int).toNat * 6 + 3, none⟩ (.int .i64 x16_1))) ?hg ?ho ?hn ?hr ?_; (case ho => rfl); (case hg => rfl); (case hn => rfl); (case hr => first | (go_simp; done) | (go_simp; rfl)); intro w57 hw; have hg : w54.grownBy w57 (some go47) := (by rw [hw]; exact HP56.2); have hp_ : Kd.R k27 27 w57 w.heap.size (fun k_ => k_ ≠ gb144) (.slice (some ⟨go47, 0, none⟩) y145.length co47) y152 := (by rw [hw, Ny152.out]; exact HP56.1); clear HP56; have n0_ := Aside0.mk (Kd.MP_over' (v := (.slice (some ⟨go47, 0, none⟩) y145.length co47)) (by (with_reducible repeat (first | apply Kd.MP_alloc | apply Kd.MP_drewN | apply Kd.MP_drew)); exact HO_5.out) (Kd.R_typed HO147.out) (by decide) hg); have n1_ := Aside0.mk (Kd.R_over' (v := (.slice (some ⟨go47, 0, none⟩) y145.length co47)) (by (with_reducible repeat (first | apply Kd.R_alloc | apply Kd.R_drewN | apply Kd.R_drew)); exact HO_14.out) (Kd.R_typed HO147.out) (by decide) hg); have n2_ := Aside0.mk (blk_grown (g := gb144) (o := .cells #[.int .i64 (rd t137 x16_1), .int .i64 (wrap64 ((mget71 x5_1 (rd t137 x16_1)) - 1)), .int .i64 (-1), .int .i64 (-1), .int .i64 (-1), .int .i64 0] 27 (0, 0)) (by (with_reducible repeat (first | refine blk_drewN ?_ _ | refine blk_drew ?_ | refine blk_alloc ?_ _)); exact BK144.out) hg (Kd.R_away HO147.out (fun _ hk => hk))); have n3_ := Aside0.mk (hp_); have n4_ := Aside0.mk ((by rw [hw]; exact below_set (HB.out) GB47.out : Below w.heap.size w w57)); clear HO_5; clear HO_14; clear BK144; clear HO147; clear HB; have HO_5 := n0_; have HO_14 := n1_; have BK144 := n2_; have HO147 := n3_; have HB := n4_; clear n0_ n1_ n2_ n3_ n4_; clear hg hw hp_; have p48 : 0 ≤ ((rd t137 x16_1) : Int) := of_decide_eq_true (by first | (with_reducible assumption) | assumption); have q48 : ((rd t137 x16_1) : Int) < ((y145.length : Int) : Int) := of_decide_eq_true (by first | (with_reducible assumption) | assumption); obtain ⟨ce48, hcl48, hM48, hcc48, hfr48⟩ := Kd.R_elem HO147.out z27 ((rd t137 x16_1) : Int) p48 q48; obtain rfl := k27_openM hM48; have hx48_0 : w57.cell? ⟨go47, ((rd t137 x16_1) : Int).toNat * 6, none⟩ = some (.int .i64 ((rd_T27 y152 (rd t137 x16_1)).f0)) := hcc48 0 _ rfl; have hx48_1 : w57.cell? ⟨go47, ((rd t137 x16_1) : Int).toNat * 6 + 1, none⟩ = some (.int .i64 ((rd_T27 y152 (rd t137 x16_1)).f1)) := hcc48 1 _ rfl; have hx48_2 : w57.cell? ⟨go47, ((rd t137 x16_1) : Int).toNat * 6 + 2, none⟩ = some (.int .i64 ((rd_T27 y152 (rd t137 x16_1)).f2)) := hcc48 2 _ rfl; have hx48_3 : w57.cell? ⟨go47, ((rd t137 x16_1) : Int).toNat * 6 + 3, none⟩ = some (.int .i64 ((rd_T27 y152 (rd t137 x16_1)).f3)) := hcc48 3 _ rfl; have hx48_4 : w57.cell? ⟨go47, ((rd t137 x16_1) : Int).toNat * 6 + 4, none⟩ = some (.int .i64 ((rd_T27 y152 (rd t137 x16_1)).f4)) := hcc48 4 _ rfl; have hx48_5 : w57.cell? ⟨go47, ((rd t137 x16_1) : Int).toNat * 6 + 5, none⟩ = some (.int .i64 ((rd_T27 y152 (rd t137 x16_1)).f5)) := hcc48 5 _ rfl; have hf48_0 : w57.frozen? ⟨go47, ((rd t137 x16_1) : Int).toNat * 6, none⟩ = false := hfr48 0; have hf48_1 : w57.frozen? ⟨go47, ((rd t137 x16_1) : Int).toNat * 6 + 1, none⟩ = false := hfr48 1; have hf48_2 : w57.frozen? ⟨go47, ((rd t137 x16_1) : Int).toNat * 6 + 2, none⟩ = false := hfr48 2; have hf48_3 : w57.frozen? ⟨go47, ((rd t137 x16_1) : Int).toNat * 6 + 3, none⟩ = false := hfr48 3; have hf48_4 : w57.frozen? ⟨go47, ((rd t137 x16_1) : Int).toNat * 6 + 4, none⟩ = false := hfr48 4; have hf48_5 : w57.frozen? ⟨go47, ((rd t137 x16_1) : Int).toNat * 6 + 5, none⟩ = false := hfr48 5; clear hcl48 hcc48 hfr48 hM48; replace p48 := eq_true p48; replace q48 := eq_true q48; have HX58 := Aside0.mk (show Kd.R k27 27 w57 w.heap.size (fun k_ => k_ ≠ gb144) (.slice (some ⟨go47, 0, none⟩) y145.length co47) y152 from (by (with_reducible repeat (first | apply Kd.R_alloc | apply Kd.R_drewN | apply Kd.R_drew)); exact HO147.out)); obtain ⟨ce58, hcl58, hM58, hcc58, hfr58⟩ := Kd.R_elem HX58.out z27 ((rd t137 x16_1) : Int) (of_decide_eq_true (by first | (with_reducible assumption) | assumption)) (by have h_ : ((rd t137 x16_1) : Int) < ((y145.length : Int) : Int) := of_decide_eq_true (by first | (with_reducible assumption) | assumption); first | exact h_ | (have e_ := (Kd.R_reads' HO147.out).1; omega) | simpa using h_); obtain rfl := k27_openM hM58; have HP58 := Kd.R_seg HX58.out ((rd t137 x16_1) : Int) (of_decide_eq_true (by first | (with_reducible assumption) | assumption)) (by have h_ : ((rd t137 x16_1) : Int) < ((y145.length : Int) : Int) := of_decide_eq_true (by first | (with_reducible assumption) | assumption); first | exact h_ | (have e_ := (Kd.R_reads' HO147.out).1; omega) | simpa using h_) (seg := [.int .i64 x16_1]) (j := 4) hcl58 hcc58 (show 5 ≤ 6 from by decide) (x' := (⟨(rd_T27 y152 (rd t137 x16_1)).f0, (rd_T27 y152 (rd t137 x16_1)).f1, (rd_T27 y152 (rd t137 x16_1)).f2, (rd_T27 y152 (rd t137 x16_1)).f3, x16_1, (rd_T27 y152 (rd t137 x16_1)).f5⟩ : S27)) (k27_mkM _ _ _ (⟨(rd_T27 y152 (rd t137 x16_1)).f0, (rd_T27 y152 (rd t137 x16_1)).f1, (rd_T27 y152 (rd t137 x16_1)).f2, (rd_T27 y152 (rd t137 x16_1)).f3, x16_1, (rd_T27 y152 (rd t137 x16_1)).f5⟩ : S27) ) (fun _ hk => hk); have hx58_4 := hcc58 4 _ rfl; (try simp only [show (k27).sz = 6 from rfl, Nat.mul_one, Nat.add_zero] at hx58_4); have hf58_4 := hfr58 4; (try simp only [show (k27).sz = 6 from rfl, Nat.mul_one, Nat.add_zero] at hf58_4); clear hcl58 hcc58 hfr58 hM58) | ((with_reducible refine gate_store (t := 3) (p := 53) rfl ?_); refine store_event (t := 3) (p := 53) (v := ?vo_w59) (w1 := (w57.setCell ⟨go47, ((rd t137 x16_1) : Int).toNat * 6 + 4, none⟩ (.int .i64 x16_1))) ?hg ?ho ?hn ?hr ?_; (case ho => rfl); (case hg => rfl); (case hn => rfl); (case hr => first | (go_simp; done) | (go_simp; rfl)); intro w59 hw; have hg : w57.grownBy w59 (some go47) := (by rw [hw]; exact HP58.2); have hp_ : Kd.R k27 27 w59 w.heap.size (fun k_ => k_ ≠ gb144) (.slice (some ⟨go47, 0, none⟩) y145.length co47) y153 := (by rw [hw, Ny153.out]; exact HP58.1); clear HP58; have n0_ := Aside0.mk (Kd.MP_over' (v := (.slice (some ⟨go47, 0, none⟩) y145.length co47)) (by (with_reducible repeat (first | apply Kd.MP_alloc | apply Kd.MP_drewN | apply Kd.MP_drew)); exact HO_5.out) (Kd.R_typed HO147.out) (by decide) hg); have n1_ := Aside0.mk (Kd.R_over' (v := (.slice (some ⟨go47, 0, none⟩) y145.length co47)) (by (with_reducible repeat (first | apply Kd.R_alloc | apply Kd.R_drewN | apply Kd.R_drew)); exact HO_14.out) (Kd.R_typed HO147.out) (by decide) hg); have n2_ := Aside0.mk (blk_grown (g := gb144) (o := .cells #[.int .i64 (rd t137 x16_1), .int .i64 (wrap64 ((mget71 x5_1 (rd t137 x16_1)) - 1)), .int .i64 (-1), .int .i64 (-1), .int .i64 (-1), .int .i64 0] 27 (0, 0)) (by (with_reducible repeat (first | refine blk_drewN ?_ _ | refine blk_drew ?_ | refine blk_alloc ?_ _)); exact BK144.out) hg (Kd.R_away HO147.out (fun _ hk => hk))); have n3_ := Aside0.mk (hp_); have n4_ := Aside0.mk ((by rw [hw]; exact below_set (HB.out) GB47.out : Below w.heap.size w w59)); clear HO_5; clear HO_14; clear BK144; clear HO147; clear HB; have HO_5 := n0_; have HO_14 := n1_; have BK144 := n2_; have HO147 := n3_; have HB := n4_; clear n0_ n1_ n2_ n3_ n4_; clear hg hw hp_) | ((with_reducible refine Kd.gate_mapup (t := 52) (m := .tmp 54) rfl ?_); at_mapUpdate; refine Kd.MP_update k71 (w0 := w) (base := w.heap.size) rfl _ _ _ 52 rfl rfl kmap52 Try.underlying52 Try.underlying3 (show Kd.MP k71 71 _ w.heap.size (fun _ => True) v141 x5_1 from by (with_reducible repeat (first | apply Kd.MP_alloc | apply Kd.MP_drewN | apply Kd.MP_drew)); exact HO_5.out) (by have := LMc51.out; exact this) (⟨rd t137 x16_1, wrap64 (x16_1 + 1)⟩ : S71) (wrap64 (x16_1 + 1)) (rd t137 x16_1) rfl rfl rfl rfl (wrap64_wf _) (Go.Maps.keyOf_int_mk Try.underlying3 (Go.Proofs.YtdoponngnjmkkaaM.wf_i64 (of_decide_eq_true (by first | (with_reducible assumption) | assumption)) (of_decide_eq_true (by first | (with_reducible assumption) | assumption)))) ?aB ?aS ?_; (case aB => exact (by repeat (first | (with_reducible first | exact HB.out | apply below_alloc | apply pw_below_drewN | apply below_drew1 | refine below_set ?_ GE144.out) | exact HB.out))); (case aS => exact (below_size (by repeat (first | (with_reducible first | exact HB.out | apply below_alloc | apply pw_below_drewN | apply below_drew1 | refine below_set ?_ GE144.out) | exact HB.out)))); intro w60 ho hb hgm_; obtain ⟨bm_, hg, hbm_⟩ := hgm_; rw [← Ny154.out] at ho; have n0_ := Aside0.mk (Kd.R_mapped (by (with_reducible repeat (first | apply Kd.R_alloc | apply Kd.R_drewN | apply Kd.R_drew)); exact HO_14.out) hg hbm_); have n1_ := Aside0.mk (blk_grown (g := gb144) (o := .cells #[.int .i64 (rd t137 x16_1), .int .i64 (wrap64 ((mget71 x5_1 (rd t137 x16_1)) - 1)), .int .i64 (-1), .int .i64 (-1), .int .i64 (-1), .int .i64 0] 27 (0, 0)) (by (with_reducible repeat (first | refine blk_drewN ?_ _ | refine blk_drew ?_ | refine blk_alloc ?_ _)); exact BK144.out) hg (Kd.blk_mapped (by (with_reducible repeat (first | refine blk_drewN ?_ _ | refine blk_drew ?_ | refine blk_alloc ?_ _)); exact BK144.out) hbm_)); have n2_ := Aside0.mk (Kd.R_mapped (by (with_reducible repeat (first | apply Kd.R_alloc | apply Kd.R_drewN | apply Kd.R_drew)); exact HO147.out) hg hbm_); have n3_ := Aside0.mk (hb); have n4_ := Aside0.mk (ho); clear HO_14; clear BK144; clear HO147; clear HB; clear HO_5; have HO_14 := n0_; have BK144 := n1_; have HO147 := n2_; have HB := n3_; have HO_5 := n4_; clear n0_ n1_ n2_ n3_ n4_; clear ho hb hg hbm_))
                            go_roundg k1
                            case measure => have := HK1.out; omega
                            case rel => exact ⟨(y153), (y154), (wrap64 (x16_1 + 1)), (by first | rfl | (simp; done) | (simp [*]; done)), H', ⟨by have := HK1.out; omega⟩, ⟨by (with_reducible repeat (first | apply Kd.R_alloc | apply Kd.R_drewN | apply Kd.R_drew)); exact Kd.R_mono HO147.out (fun _ hk => trivial)⟩, ⟨by (with_reducible repeat (first | apply Kd.MP_alloc | apply Kd.MP_drewN | apply Kd.MP_drew)); exact HO_5.out⟩, ⟨by (with_reducible repeat (first | apply Kd.R_alloc | apply Kd.R_drewN | apply Kd.R_drew)); exact HO_14.out⟩, ⟨by repeat (first | (with_reducible first | exact HB.out | apply below_alloc | apply pw_below_drewN | apply below_drew1 | refine below_set ?_ GE144.out) | exact HB.out)⟩⟩
                          · rw [if_neg c51] at H
                            exact absurd H (by simp)
                        · rw [if_neg c46] at H
                          exact absurd H (by simp)
                      · rw [if_neg c45] at H
                        exact absurd H (by simp)
                    · rw [if_neg c44] at H
                      have c44b0 : decide (0 ≤ (rd t137 x16_1)) = false := decide_eq_false c44
                      clear c44
                      have c61b0 := eq_true (of_decide_eq_true (by first | (with_reducible assumption) | assumption) : (-9223372036854775808) ≤ (rd t137 x16_1))
                      have c62b0 := eq_true (of_decide_eq_true (by first | (with_reducible assumption) | assumption) : (rd t137 x16_1) ≤ 9223372036854775807)
                      by_cases c63 : x5_1.length < 9223372036854775807
                      · rw [if_pos c63] at H
                        have LMc63 := Aside0.mk c63
                        clear c63
                        obtain ⟨y155, hy155⟩ : ∃ y_ : List (S71), y_ = ((⟨rd t137 x16_1, wrap64 (x16_1 + 1)⟩ : S71) :: x5_1) := ⟨_, rfl⟩
                        replace H : (anchors_Knots.l0 k1 y145 y155 t137 (t137.length : Int) (wrap64 (x16_1 + 1))) = some r := by first | (rw [hy155]; with_reducible exact H) | (have H2_ := (Option.bind_some _ _).symm.trans H; rw [hy155]; with_reducible exact H2_) | (have H2_ := (Option.bind_some _ _).symm.trans H; with_reducible exact H2_) | with_reducible exact H | (rw [hy155]; exact H) | exact H
                        have Ny155 := Aside0.mk hy155
                        clear hy155
                        have H' := Aside0.mk H
                        clear H
                        have p143 : 0 ≤ (x16_1 : Int) := of_decide_eq_true (by first | (with_reducible assumption) | assumption)
                        have q143 : x16_1 < (t137.length : Int) := of_decide_eq_true (by first | (with_reducible assumption) | assumption)
                        obtain ⟨ad143, e143, hx143_0⟩ := Kd.at_int (Kd.R_reads' HO_14.out).2.2 x16_1 p143 q143
                        cases e143
                        replace p143 := eq_true p143
                        replace q143 := eq_true q143
                        go_wp2_with (first | ((with_reducible refine gate_dst (N := 24) rfl ?_); at_lookup; refine Kd.MP_lookup k71 rfl _ _ 52 rfl rfl kmap52 Try.underlying52 Try.underlying3 (zmap52 _) (show Kd.MP k71 71 _ w.heap.size (fun _ => True) v141 x5_1 from by (with_reducible repeat (first | apply Kd.MP_alloc | apply Kd.MP_drewN | apply Kd.MP_drew)); exact HO_5.out) (rd t137 x16_1) (mget71 x5_1 (rd t137 x16_1)) rfl rfl rfl (Go.Maps.keyOf_int_mk Try.underlying3 (Go.Proofs.YtdoponngnjmkkaaM.wf_i64 (of_decide_eq_true (by first | (with_reducible assumption) | assumption)) (of_decide_eq_true (by first | (with_reducible assumption) | assumption)))) ?_) | ((with_reducible refine gate_dst (N := 8) rfl ?_); refine box_event ?hg (N := 8) ?hd (cs := #[.int .i64 0, .int .i64 0, .int .i64 0, .int .i64 0, .int .i64 0, .int .i64 0]) (t := 27) ?hr ?_; (case hd => rfl); (case hg => rfl); (case hr => first | (go_simp; done) | (go_simp; rfl)); intro gb144 hg w64 hbox hb; have n0_ := Aside0.mk (Kd.R_below (Kd.R_elderB (by (with_reducible repeat (first | apply Kd.R_alloc | apply Kd.R_drewN | apply Kd.R_drew)); exact HO_4.out) gb144 (Nat.le_of_eq hg.symm)) hb); have n1_ := Aside0.mk (Kd.MP_below (by (with_reducible repeat (first | apply Kd.MP_alloc | apply Kd.MP_drewN | apply Kd.MP_drew)); exact HO_5.out) hb); have n2_ := Aside0.mk (Kd.R_below (by (with_reducible repeat (first | apply Kd.R_alloc | apply Kd.R_drewN | apply Kd.R_drew)); exact HO_14.out) hb); have n3_ := Aside0.mk (below_step (by repeat (first | (with_reducible first | exact HB.out | apply below_alloc | apply pw_below_drewN | apply below_drew1) | exact HB.out)) hb); have n4_ := Aside0.mk (hbox); have n5_ := Aside0.mk ((by rw [hg]; exact (below_size (by repeat (first | (with_reducible first | exact HB.out | apply below_alloc | apply pw_below_drewN | apply below_drew1) | exact HB.out))) : w.heap.size ≤ gb144)); have n6_ := Aside0.mk ((by rw [hg]; exact (below_size (by repeat (first | (with_reducible first | exact HB.out | apply below_alloc | apply pw_below_drewN | apply below_drew1) | exact HB.out))) : w.heap.size ≤ gb144)); clear HO_4; clear HO_5; clear HO_14; clear HB; have HO_4 := n0_; have HO_5 := n1_; have HO_14 := n2_; have HB := n3_; have BK144 := n4_; have GW144 := n5_; have GE144 := n6_; clear n0_ n1_ n2_ n3_ n4_ n5_ n6_; clear hb hbox hg; have hcz65_0 : w64.cell? ⟨gb144, 0, none⟩ = some (.int .i64 0) := (blk_cell BK144.out 0).trans rfl; have hcz65_1 : w64.cell? ⟨gb144, 1, none⟩ = some (.int .i64 0) := (blk_cell BK144.out 1).trans rfl; have hcz65_2 : w64.cell? ⟨gb144, 2, none⟩ = some (.int .i64 0) := (blk_cell BK144.out 2).trans rfl; have hcz65_3 : w64.cell? ⟨gb144, 3, none⟩ = some (.int .i64 0) := (blk_cell BK144.out 3).trans rfl; have hcz65_4 : w64.cell? ⟨gb144, 4, none⟩ = some (.int .i64 0) := (blk_cell BK144.out 4).trans rfl; have hcz65_5 : w64.cell? ⟨gb144, 5, none⟩ = some (.int .i64 0) := (blk_cell BK144.out 5).trans rfl; have hfz65_0 := blk_frozen BK144.out 0; have hfz65_1 := blk_frozen BK144.out 1; have hfz65_2 := blk_frozen BK144.out 2; have hfz65_3 := blk_frozen BK144.out 3; have hfz65_4 := blk_frozen BK144.out 4; have hfz65_5 := blk_frozen BK144.out 5) | ((with_reducible refine gate_builtin (b := .append) (xs := #[.tmp 27, .tmp 29]) rfl ?_); at_builtin; refine Kd.R_append k27 (w0 := w) w.heap.size rfl (.tmp 27) (.tmp 29) 24 27 (.agg #[(.int .i64 0), (.int .i64 0), (.int .i64 0), (.int .i64 0), (.int .i64 0), (.int .i64 0)]) 48 rfl Try.underlying24 info27 rfl (by decide) (by omega) u4 x4_1 (⟨rd t137 x16_1, wrap64 ((mget71 x5_1 (rd t137 x16_1)) - 1), (-1), (-1), (-1), 0⟩ : S27) [.int .i64 (rd t137 x16_1), .int .i64 (wrap64 ((mget71 x5_1 (rd t137 x16_1)) - 1)), .int .i64 (-1), .int .i64 (-1), .int .i64 (-1), .int .i64 0] (fun k_ => k_ ≠ gb144) (fun _ => False) rfl (by first | (go_simp; done) | (go_simp; rfl)) ?aP (fun _ hk => hk.elim) ?aF ?aO ?aB ?aS ?aL ?_; (case aP => exact k27_mkM _ _ _ (⟨rd t137 x16_1, wrap64 ((mget71 x5_1 (rd t137 x16_1)) - 1), (-1), (-1), (-1), 0⟩ : S27)); (case aB => exact (by repeat (first | (with_reducible first | exact HB.out | apply below_alloc | apply pw_below_drewN | apply below_drew1 | refine below_set ?_ GE144.out) | exact HB.out))); (case aF => exact (fun k_ hk => Kd.freshB (g := gb144) (o := .cells #[.int .i64 (rd t137 x16_1), .int .i64 (wrap64 ((mget71 x5_1 (rd t137 x16_1)) - 1)), .int .i64 (-1), .int .i64 (-1), .int .i64 (-1), .int .i64 0] 27 (0, 0)) (by (with_reducible repeat (first | refine blk_drewN ?_ _ | refine blk_drew ?_ | refine blk_alloc ?_ _)); refine blk_put (cs := #[.int .i64 (rd t137 x16_1), .int .i64 (wrap64 ((mget71 x5_1 (rd t137 x16_1)) - 1)), .int .i64 (-1), .int .i64 (-1), .int .i64 (-1), .int .i64 0]) ?_ 5 _ rfl; (with_reducible repeat (first | refine blk_drewN ?_ _ | refine blk_drew ?_ | refine blk_alloc ?_ _)); refine blk_put (cs := #[.int .i64 (rd t137 x16_1), .int .i64 (wrap64 ((mget71 x5_1 (rd t137 x16_1)) - 1)), .int .i64 (-1), .int .i64 (-1), .int .i64 0, .int .i64 0]) ?_ 4 _ rfl; (with_reducible repeat (first | refine blk_drewN ?_ _ | refine blk_drew ?_ | refine blk_alloc ?_ _)); refine blk_put (cs := #[.int .i64 (rd t137 x16_1), .int .i64 (wrap64 ((mget71 x5_1 (rd t137 x16_1)) - 1)), .int .i64 (-1), .int .i64 0, .int .i64 0, .int .i64 0]) ?_ 3 _ rfl; (with_reducible repeat (first | refine blk_drewN ?_ _ | refine blk_drew ?_ | refine blk_alloc ?_ _)); refine blk_put (cs := #[.int .i64 (rd t137 x16_1), .int .i64 (wrap64 ((mget71 x5_1 (rd t137 x16_1)) - 1)), .int .i64 0, .int .i64 0, .int .i64 0, .int .i64 0]) ?_ 2 _ rfl; (with_reducible repeat (first | refine blk_drewN ?_ _ | refine blk_drew ?_ | refine blk_alloc ?_ _)); refine blk_put (cs := #[.int .i64 (rd t137 x16_1), .int .i64 0, .int .i64 0, .int .i64 0, .int .i64 0, .int .i64 0]) ?_ 1 _ rfl; (with_reducible repeat (first | refine blk_drewN ?_ _ | refine blk_drew ?_ | refine blk_alloc ?_ _)); refine blk_put (cs := #[.int .i64 0, .int .i64 0, .int .i64 0, .int .i64 0, .int .i64 0, .int .i64 0]) ?_ 0 _ rfl; (with_reducible repeat (first | refine blk_drewN ?_ _ | refine blk_drew ?_ | refine blk_alloc ?_ _)); exact BK144.out) k_ hk)); (case aO => exact (by (with_reducible repeat (first | apply Kd.R_alloc | apply Kd.R_drewN | apply Kd.R_drew)); exact Kd.R_mono (Kd.R_far (p := ⟨gb144, 5, none⟩) (Kd.R_far (p := ⟨gb144, 4, none⟩) (Kd.R_far (p := ⟨gb144, 3, none⟩) (Kd.R_far (p := ⟨gb144, 2, none⟩) (Kd.R_far (p := ⟨gb144, 1, none⟩) (Kd.R_far (p := ⟨gb144, 0, none⟩) (Kd.R_mono HO_4.out (fun k_ hk => (⟨hk, hk.2⟩ : _ ∧ k_ ≠ gb144))) (fun _ hk => hk.2) (.int .i64 (rd t137 x16_1))) (fun _ hk => hk.2) (.int .i64 (wrap64 ((mget71 x5_1 (rd t137 x16_1)) - 1)))) (fun _ hk => hk.2) (.int .i64 (-1))) (fun _ hk => hk.2) (.int .i64 (-1))) (fun _ hk => hk.2) (.int .i64 (-1))) (fun _ hk => hk.2) (.int .i64 0)) (fun _ hk => hk.1.2))); (case aS => exact (below_size (by repeat (first | (with_reducible first | exact HB.out | apply below_alloc | apply pw_below_drewN | apply below_drew1 | refine below_set ?_ GE144.out) | exact HB.out)))); (case aL => have := LMc12.out; omega); intro v146 w66 ho hb hg hat; rw [← Ny145.out] at ho; have n0_ := Aside0.mk (Kd.MP_over' (by (with_reducible repeat (first | apply Kd.MP_alloc | apply Kd.MP_drewN | apply Kd.MP_drew)); exact (Kd.MP_mono (Kd.MP_far (p := ⟨gb144, 5, none⟩) (Kd.MP_far (p := ⟨gb144, 4, none⟩) (Kd.MP_far (p := ⟨gb144, 3, none⟩) (Kd.MP_far (p := ⟨gb144, 2, none⟩) (Kd.MP_far (p := ⟨gb144, 1, none⟩) (Kd.MP_far (p := ⟨gb144, 0, none⟩) (Kd.MP_types HO_5.out BK144.out (by decide)) (fun _ hk => hk.2) (.int .i64 (rd t137 x16_1))) (fun _ hk => hk.2) (.int .i64 (wrap64 ((mget71 x5_1 (rd t137 x16_1)) - 1)))) (fun _ hk => hk.2) (.int .i64 (-1))) (fun _ hk => hk.2) (.int .i64 (-1))) (fun _ hk => hk.2) (.int .i64 (-1))) (fun _ hk => hk.2) (.int .i64 0)) (fun _ h_ => h_.1))) (Kd.R_typed (by (with_reducible repeat (first | apply Kd.R_alloc | apply Kd.R_drewN | apply Kd.R_drew)); exact (Kd.R_mono (Kd.R_far (p := ⟨gb144, 5, none⟩) (Kd.R_far (p := ⟨gb144, 4, none⟩) (Kd.R_far (p := ⟨gb144, 3, none⟩) (Kd.R_far (p := ⟨gb144, 2, none⟩) (Kd.R_far (p := ⟨gb144, 1, none⟩) (Kd.R_far (p := ⟨gb144, 0, none⟩) (Kd.R_mono HO_4.out (fun k_ hk => (⟨hk, hk.2⟩ : _ ∧ k_ ≠ gb144))) (fun _ hk => hk.2) (.int .i64 (rd t137 x16_1))) (fun _ hk => hk.2) (.int .i64 (wrap64 ((mget71 x5_1 (rd t137 x16_1)) - 1)))) (fun _ hk => hk.2) (.int .i64 (-1))) (fun _ hk => hk.2) (.int .i64 (-1))) (fun _ hk => hk.2) (.int .i64 (-1))) (fun _ hk => hk.2) (.int .i64 0)) (fun _ h_ => h_.1)))) (by decide) hg); have n1_ := Aside0.mk (Kd.R_over' (by (with_reducible repeat (first | apply Kd.R_alloc | apply Kd.R_drewN | apply Kd.R_drew)); exact (Kd.R_mono (Kd.R_far (p := ⟨gb144, 5, none⟩) (Kd.R_far (p := ⟨gb144, 4, none⟩) (Kd.R_far (p := ⟨gb144, 3, none⟩) (Kd.R_far (p := ⟨gb144, 2, none⟩) (Kd.R_far (p := ⟨gb144, 1, none⟩) (Kd.R_far (p := ⟨gb144, 0, none⟩) (Kd.R_types HO_14.out BK144.out (by decide)) (fun _ hk => hk.2) (.int .i64 (rd t137 x16_1))) (fun _ hk => hk.2) (.int .i64 (wrap64 ((mget71 x5_1 (rd t137 x16_1)) - 1)))) (fun _ hk => hk.2) (.int .i64 (-1))) (fun _ hk => hk.2) (.int .i64 (-1))) (fun _ hk => hk.2) (.int .i64 (-1))) (fun _ hk => hk.2) (.int .i64 0)) (fun _ h_ => h_.1))) (Kd.R_typed (by (with_reducible repeat (first | apply Kd.R_alloc | apply Kd.R_drewN | apply Kd.R_drew)); exact (Kd.R_mono (Kd.R_far (p := ⟨gb144, 5, none⟩) (Kd.R_far (p := ⟨gb144, 4, none⟩) (Kd.R_far (p := ⟨gb144, 3, none⟩) (Kd.R_far (p := ⟨gb144, 2, none⟩) (Kd.R_far (p := ⟨gb144, 1, none⟩) (Kd.R_far (p := ⟨gb144, 0, none⟩) (Kd.R_mono HO_4.out (fun k_ hk => (⟨hk, hk.2⟩ : _ ∧ k_ ≠ gb144))) (fun _ hk => hk.2) (.int .i64 (rd t137 x16_1))) (fun _ hk => hk.2) (.int .i64 (wrap64 ((mget71 x5_1 (rd t137 x16_1)) - 1)))) (fun _ hk => hk.2) (.int .i64 (-1))) (fun _ hk => hk.2) (.int .i64 (-1))) (fun _ hk => hk.2) (.int .i64 (-1))) (fun _ hk => hk.2) (.int .i64 0)) (fun _ h_ => h_.1)))) (by decide) hg); have n2_ := Aside0.mk (blk_grown (g := gb144) (o := .cells #[.int .i64 (rd t137 x16_1), .int .i64 (wrap64 ((mget71 x5_1 (rd t137 x16_1)) - 1)), .int .i64 (-1), .int .i64 (-1), .int .i64 (-1), .int .i64 0] 27 (0, 0)) (by (with_reducible repeat (first | refine blk_drewN ?_ _ | refine blk_drew ?_ | refine blk_alloc ?_ _)); refine blk_put (cs := #[.int .i64 (rd t137 x16_1), .int .i64 (wrap64 ((mget71 x5_1 (rd t137 x16_1)) - 1)), .int .i64 (-1), .int .i64 (-1), .int .i64 (-1), .int .i64 0]) ?_ 5 _ rfl; (with_reducible repeat (first | refine blk_drewN ?_ _ | refine blk_drew ?_ | refine blk_alloc ?_ _)); refine blk_put (cs := #[.int .i64 (rd t137 x16_1), .int .i64 (wrap64 ((mget71 x5_1 (rd t137 x16_1)) - 1)), .int .i64 (-1), .int .i64 (-1), .int .i64 0, .int .i64 0]) ?_ 4 _ rfl; (with_reducible repeat (first | refine blk_drewN ?_ _ | refine blk_drew ?_ | refine blk_alloc ?_ _)); refine blk_put (cs := #[.int .i64 (rd t137 x16_1), .int .i64 (wrap64 ((mget71 x5_1 (rd t137 x16_1)) - 1)), .int .i64 (-1), .int .i64 0, .int .i64 0, .int .i64 0]) ?_ 3 _ rfl; (with_reducible repeat (first | refine blk_drewN ?_ _ | refine blk_drew ?_ | refine blk_alloc ?_ _)); refine blk_put (cs := #[.int .i64 (rd t137 x16_1), .int .i64 (wrap64 ((mget71 x5_1 (rd t137 x16_1)) - 1)), .int .i64 0, .int .i64 0, .int .i64 0, .int .i64 0]) ?_ 2 _ rfl; (with_reducible repeat (first | refine blk_drewN ?_ _ | refine blk_drew ?_ | refine blk_alloc ?_ _)); refine blk_put (cs := #[.int .i64 (rd t137 x16_1), .int .i64 0, .int .i64 0, .int .i64 0, .int .i64 0, .int .i64 0]) ?_ 1 _ rfl; (with_reducible repeat (first | refine blk_drewN ?_ _ | refine blk_drew ?_ | refine blk_alloc ?_ _)); refine blk_put (cs := #[.int .i64 0, .int .i64 0, .int .i64 0, .int .i64 0, .int .i64 0, .int .i64 0]) ?_ 0 _ rfl; (with_reducible repeat (first | refine blk_drewN ?_ _ | refine blk_drew ?_ | refine blk_alloc ?_ _)); exact BK144.out) hg (Kd.R_away HO_4.out (fun _ hk => hk.2))); have n3_ := Aside0.mk (hb); have n4_ := Aside0.mk (ho); clear HO_5; clear HO_14; clear BK144; clear HB; clear HO_4; have HO_5 := n0_; have HO_14 := n1_; have BK144 := n2_; have HB := n3_; have HO147 := n4_; clear n0_ n1_ n2_ n3_ n4_; clear ho hb hg hat; have hcz67_0 : w66.cell? ⟨gb144, 0, none⟩ = some (.int .i64 (rd t137 x16_1)) := (blk_cell BK144.out 0).trans rfl; have hcz67_1 : w66.cell? ⟨gb144, 1, none⟩ = some (.int .i64 (wrap64 ((mget71 x5_1 (rd t137 x16_1)) - 1))) := (blk_cell BK144.out 1).trans rfl; have hcz67_2 : w66.cell? ⟨gb144, 2, none⟩ = some (.int .i64 (-1)) := (blk_cell BK144.out 2).trans rfl; have hcz67_3 : w66.cell? ⟨gb144, 3, none⟩ = some (.int .i64 (-1)) := (blk_cell BK144.out 3).trans rfl; have hcz67_4 : w66.cell? ⟨gb144, 4, none⟩ = some (.int .i64 (-1)) := (blk_cell BK144.out 4).trans rfl; have hcz67_5 : w66.cell? ⟨gb144, 5, none⟩ = some (.int .i64 0) := (blk_cell BK144.out 5).trans rfl; have hfz67_0 := blk_frozen BK144.out 0; have hfz67_1 := blk_frozen BK144.out 1; have hfz67_2 := blk_frozen BK144.out 2; have hfz67_3 := blk_frozen BK144.out 3; have hfz67_4 := blk_frozen BK144.out 4; have hfz67_5 := blk_frozen BK144.out 5) | ((with_reducible refine Kd.gate_mapup (t := 52) (m := .tmp 54) rfl ?_); at_mapUpdate; refine Kd.MP_update k71 (w0 := w) (base := w.heap.size) rfl _ _ _ 52 rfl rfl kmap52 Try.underlying52 Try.underlying3 (show Kd.MP k71 71 _ w.heap.size (fun _ => True) v141 x5_1 from by (with_reducible repeat (first | apply Kd.MP_alloc | apply Kd.MP_drewN | apply Kd.MP_drew)); exact HO_5.out) (by have := LMc63.out; exact this) (⟨rd t137 x16_1, wrap64 (x16_1 + 1)⟩ : S71) (wrap64 (x16_1 + 1)) (rd t137 x16_1) rfl rfl rfl rfl (wrap64_wf _) (Go.Maps.keyOf_int_mk Try.underlying3 (Go.Proofs.YtdoponngnjmkkaaM.wf_i64 (of_decide_eq_true (by first | (with_reducible assumption) | assumption)) (of_decide_eq_true (by first | (with_reducible assumption) | assumption)))) ?aB ?aS ?_; (case aB => exact (by repeat (first | (with_reducible first | exact HB.out | apply below_alloc | apply pw_below_drewN | apply below_drew1 | refine below_set ?_ GE144.out) | exact HB.out))); (case aS => exact (below_size (by repeat (first | (with_reducible first | exact HB.out | apply below_alloc | apply pw_below_drewN | apply below_drew1 | refine below_set ?_ GE144.out) | exact HB.out)))); intro w68 ho hb hgm_; obtain ⟨bm_, hg, hbm_⟩ := hgm_; rw [← Ny155.out] at ho; have n0_ := Aside0.mk (Kd.R_mapped (by (with_reducible repeat (first | apply Kd.R_alloc | apply Kd.R_drewN | apply Kd.R_drew)); exact HO_14.out) hg hbm_); have n1_ := Aside0.mk (blk_grown (g := gb144) (o := .cells #[.int .i64 (rd t137 x16_1), .int .i64 (wrap64 ((mget71 x5_1 (rd t137 x16_1)) - 1)), .int .i64 (-1), .int .i64 (-1), .int .i64 (-1), .int .i64 0] 27 (0, 0)) (by (with_reducible repeat (first | refine blk_drewN ?_ _ | refine blk_drew ?_ | refine blk_alloc ?_ _)); exact BK144.out) hg (Kd.blk_mapped (by (with_reducible repeat (first | refine blk_drewN ?_ _ | refine blk_drew ?_ | refine blk_alloc ?_ _)); exact BK144.out) hbm_)); have n2_ := Aside0.mk (Kd.R_mapped (by (with_reducible repeat (first | apply Kd.R_alloc | apply Kd.R_drewN | apply Kd.R_drew)); exact HO147.out) hg hbm_); have n3_ := Aside0.mk (hb); have n4_ := Aside0.mk (ho); clear HO_14; clear BK144; clear HO147; clear HB; clear HO_5; have HO_14 := n0_; have BK144 := n1_; have HO147 := n2_; have HB := n3_; have HO_5 := n4_; clear n0_ n1_ n2_ n3_ n4_; clear ho hb hg hbm_))
                        go_roundg k1
                        case measure => have := HK1.out; omega
                        case rel => exact ⟨(y145), (y155), (wrap64 (x16_1 + 1)), (by first | rfl | (simp; done) | (simp [*]; done)), H', ⟨by have := HK1.out; omega⟩, ⟨by (with_reducible repeat (first | apply Kd.R_alloc | apply Kd.R_drewN | apply Kd.R_drew)); exact Kd.R_mono HO147.out (fun _ hk => trivial)⟩, ⟨by (with_reducible repeat (first | apply Kd.MP_alloc | apply Kd.MP_drewN | apply Kd.MP_drew)); exact HO_5.out⟩, ⟨by (with_reducible repeat (first | apply Kd.R_alloc | apply Kd.R_drewN | apply Kd.R_drew)); exact HO_14.out⟩, ⟨by repeat (first | (with_reducible first | exact HB.out | apply below_alloc | apply pw_below_drewN | apply below_drew1 | refine below_set ?_ GE144.out) | exact HB.out)⟩⟩
                      · rw [if_neg c63] at H
                        exact absurd H (by simp)
                · rw [if_neg c12] at H
                  exact absurd H (by simp)
              · rw [if_neg c11] at H
                exact absurd H (by simp)
            · rw [if_neg c10] at H
              exact absurd H (by simp)
          · rw [if_neg c9] at H
            exact absurd H (by simp)
        · rw [if_neg c8] at H
          exact absurd H (by simp)
      · rw [if_neg c7] at H
        have c7b0 : decide (x16_1 < (t137.length : Int)) = false := decide_eq_false c7
        clear c7
        have H' := Aside0.mk H
        clear H
        obtain ⟨Ao69, co69, eo69⟩ := Kd.R_slice HO_4.out
        subst eo69
        go_wp2
        go_loopg [9] k1 (fun kq v9 w' => ∃ (x4_2 : List (S27)) (x9_2 : Int), v9 = .int .i64 x9_2 ∧ Aside0 (anchors_Knots.l1 kq x4_2 x9_2 = some r) ∧ Aside0 (kq ≤ k1) ∧ Aside0 (Kd.R k27 27 w' w.heap.size (fun _ => True) (.slice Ao69 x4_1.length co69) x4_2) ∧ Aside0 (Below w.heap.size w w'))
        case atStart => exact ⟨(x4_1), (wrap64 ((x4_1.length : Int) - 1)), (by first | rfl | (simp; done) | (simp [*]; done)), H', ⟨Nat.le_refl _⟩, ⟨by (with_reducible repeat (first | apply Kd.R_alloc | apply Kd.R_drewN | apply Kd.R_drew)); exact HO_4.out⟩, ⟨by repeat (first | (with_reducible first | exact HB.out | apply below_alloc | apply pw_below_drewN | apply below_drew1) | exact HB.out)⟩⟩
        case round =>
          clear H'
          try clear c1
          try clear p1
          try clear q1
          try clear hx1
          try clear hf1
          try clear c2
          try clear p2
          try clear q2
          try clear hx2
          try clear hf2
          try clear c3
          try clear hx3
          try clear hf3
          try clear c4
          try clear p4
          try clear q4
          try clear hx4
          try clear hf4
          try clear c5
          try clear p5
          try clear hx5
          try clear hf5
          try clear c6
          try clear p6
          try clear c7
          try clear c7b0
          try clear c8
          try clear c8b0
          try clear c9
          try clear c9b0
          try clear c10
          try clear c10b0
          try clear c10b1
          try clear c11
          try clear c11b0
          try clear c11b1
          try clear c11b2
          try clear c12
          try clear c13
          try clear c13b0
          try clear c14
          try clear p14
          try clear q14
          try clear hx14
          try clear c15
          try clear c15b0
          try clear c16
          try clear c16b0
          try clear c17
          try clear p17
          try clear q17
          try clear hx17
          try clear hf17
          try clear c18
          try clear c18b0
          try clear c19
          try clear c19b0
          try clear c20
          try clear c20b0
          try clear c21
          try clear p21
          try clear q21
          try clear hx21
          try clear hf21
          try clear c22
          try clear c22b0
          try clear c23
          try clear c23b0
          try clear c24
          try clear c29
          try clear hx29
          try clear hf29
          try clear c31
          try clear hx31
          try clear hf31
          try clear c34
          try clear c34b0
          try clear c35
          try clear c35b0
          try clear c36
          try clear c41
          try clear hx41
          try clear hf41
          try clear c44
          try clear c44b0
          try clear c45
          try clear c45b0
          try clear c46
          try clear c46b0
          try clear c47
          try clear p47
          try clear q47
          try clear hx47
          try clear hf47
          try clear c48
          try clear p48
          try clear q48
          try clear hx48
          try clear hf48
          try clear c49
          try clear c49b0
          try clear c50
          try clear c50b0
          try clear c51
          try clear p52
          try clear c56
          try clear hx56
          try clear hf56
          try clear c58
          try clear hx58
          try clear hf58
          try clear c61
          try clear c61b0
          try clear c62
          try clear c62b0
          try clear c63
          try clear p64
          try clear hcz26_0
          try clear hcz26_1
          try clear hcz26_2
          try clear hcz26_3
          try clear hcz26_4
          try clear hcz26_5
          try clear hcz28_0
          try clear hcz28_1
          try clear hcz28_2
          try clear hcz28_3
          try clear hcz28_4
          try clear hcz28_5
          try clear hcz38_0
          try clear hcz38_1
          try clear hcz38_2
          try clear hcz38_3
          try clear hcz38_4
          try clear hcz38_5
          try clear hcz40_0
          try clear hcz40_1
          try clear hcz40_2
          try clear hcz40_3
          try clear hcz40_4
          try clear hcz40_5
          try clear hcz53_0
          try clear hcz53_1
          try clear hcz53_2
          try clear hcz53_3
          try clear hcz53_4
          try clear hcz53_5
          try clear hcz55_0
          try clear hcz55_1
          try clear hcz55_2
          try clear hcz55_3
          try clear hcz55_4
          try clear hcz55_5
          try clear hcz65_0
          try clear hcz65_1
          try clear hcz65_2
          try clear hcz65_3
          try clear hcz65_4
          try clear hcz65_5
          try clear hcz67_0
          try clear hcz67_1
          try clear hcz67_2
          try clear hcz67_3
          try clear hcz67_4
          try clear hcz67_5
          try clear hfz26_0
          try clear hfz26_1
          try clear hfz26_2
          try clear hfz26_3
          try clear hfz26_4
          try clear hfz26_5
          try clear hfz28_0
          try clear hfz28_1
          try clear hfz28_2
          try clear hfz28_3
          try clear hfz28_4
          try clear hfz28_5
          try clear hfz38_0
          try clear hfz38_1
          try clear hfz38_2
          try clear hfz38_3
          try clear hfz38_4
          try clear hfz38_5
          try clear hfz40_0
          try clear hfz40_1
          try clear hfz40_2
          try clear hfz40_3
          try clear hfz40_4
          try clear hfz40_5
          try clear hfz53_0
          try clear hfz53_1
          try clear hfz53_2
          try clear hfz53_3
          try clear hfz53_4
          try clear hfz53_5
          try clear hfz55_0
          try clear hfz55_1
          try clear hfz55_2
          try clear hfz55_3
          try clear hfz55_4
          try clear hfz55_5
          try clear hfz65_0
          try clear hfz65_1
          try clear hfz65_2
          try clear hfz65_3
          try clear hfz65_4
          try clear hfz65_5
          try clear hfz67_0
          try clear hfz67_1
          try clear hfz67_2
          try clear hfz67_3
          try clear hfz67_4
          try clear hfz67_5
          try clear hx143_0
          try clear hx17_0
          try clear hx17_1
          try clear hx17_2
          try clear hx17_3
          try clear hx17_4
          try clear hx17_5
          try clear hx21_0
          try clear hx21_1
          try clear hx21_2
          try clear hx21_3
          try clear hx21_4
          try clear hx21_5
          try clear hx29_2
          try clear hx31_4
          try clear hx41_2
          try clear hx47_0
          try clear hx47_1
          try clear hx47_2
          try clear hx47_3
          try clear hx47_4
          try clear hx47_5
          try clear hx48_0
          try clear hx48_1
          try clear hx48_2
          try clear hx48_3
          try clear hx48_4
          try clear hx48_5
          try clear hx56_3
          try clear hx58_4
          try clear p143
          try clear p17
          try clear p2
          try clear p21
          try clear p47
          try clear p48
          try clear q143
          try clear q17
          try clear q21
          try clear q47
          try clear q48
          obtain ⟨x4_2, x9_2, rfl, HA, HK2, HO_4, HB⟩ := hrel
          have hl4_2 := (Kd.R_reads' HO_4.out).1
          rw [hl4_2] at HO_4
          (try simp only [hl4_2])
          cases gk with
          | zero => exact absurd HA.out (by simp [anchors_Knots.l1])
          | succ k2 =>
            have H := HA.out
            clear HA
            simp only [anchors_Knots.l1] at H
            by_cases c70 : x9_2 ≥ 0
            · rw [if_pos c70] at H
              have c70b0 : decide (0 ≤ x9_2) = true := decide_eq_true c70
              clear c70
              by_cases c71 : 0 ≤ x9_2
              · rw [if_pos c71] at H
                have c71b0 : decide (0 ≤ x9_2) = true := decide_eq_true c71
                clear c71
                by_cases c72 : x9_2 < (x4_2.length : Int)
                · rw [if_pos c72] at H
                  have c72b0 : decide (x9_2 < (x4_2.length : Int)) = true := decide_eq_true c72
                  clear c72
                  by_cases c73 : ((rd_T27 x4_2 x9_2).f0) ≥ 0
                  · rw [if_pos c73] at H
                    have c73b0 : decide (0 ≤ ((rd_T27 x4_2 x9_2).f0)) = true := decide_eq_true c73
                    clear c73
                    by_cases c74 : 0 ≤ ((rd_T27 x4_2 x9_2).f0)
                    · rw [if_pos c74] at H
                      have c74b0 : decide (0 ≤ ((rd_T27 x4_2 x9_2).f0)) = true := decide_eq_true c74
                      clear c74
                      by_cases c75 : ((rd_T27 x4_2 x9_2).f0) < (x4_2.length : Int)
                      · rw [if_pos c75] at H
                        have c75b0 : decide (((rd_T27 x4_2 x9_2).f0) < (x4_2.length : Int)) = true := decide_eq_true c75
                        clear c75
                        obtain ⟨y159, hy159⟩ : ∃ y_ : List (S27), y_ = (x4_2.set (((rd_T27 x4_2 x9_2).f0) : Int).toNat (⟨(rd_T27 x4_2 ((rd_T27 x4_2 x9_2).f0)).f0, (rd_T27 x4_2 ((rd_T27 x4_2 x9_2).f0)).f1, (rd_T27 x4_2 ((rd_T27 x4_2 x9_2).f0)).f2, (rd_T27 x4_2 ((rd_T27 x4_2 x9_2).f0)).f3, (rd_T27 x4_2 ((rd_T27 x4_2 x9_2).f0)).f4, wrap64 (((rd_T27 x4_2 ((rd_T27 x4_2 x9_2).f0)).f5) + (wrap64 (((rd_T27 x4_2 x9_2).f5) + 1)))⟩ : S27)) := ⟨_, rfl⟩
                        replace H : (anchors_Knots.l1 k2 y159 (wrap64 (x9_2 - 1))) = some r := by first | (rw [hy159]; with_reducible exact H) | (have H2_ := (Option.bind_some _ _).symm.trans H; rw [hy159]; with_reducible exact H2_) | (have H2_ := (Option.bind_some _ _).symm.trans H; with_reducible exact H2_) | with_reducible exact H | (rw [hy159]; exact H) | exact H
                        have Ny159 := Aside0.mk hy159
                        clear hy159
                        have H' := Aside0.mk H
                        clear H
                        have p156 : 0 ≤ (x9_2 : Int) := of_decide_eq_true (by first | (with_reducible assumption) | assumption)
                        have q156 : x9_2 < (x4_2.length : Int) := of_decide_eq_true (by first | (with_reducible assumption) | assumption)
                        obtain ⟨ad156, e156, hx156_0, hx156_1, hx156_2, hx156_3, hx156_4, hx156_5⟩ := at_T27 (Kd.R_reads' HO_4.out).2.2 x9_2 p156 q156
                        cases e156
                        replace p156 := eq_true p156
                        replace q156 := eq_true q156
                        try go_wp2
                        have n0_ := Aside0.mk (Kd.R_drew HO_4.out)
                        have n1_ := Aside0.mk (below_drew1 HB.out)
                        clear HO_4
                        clear HB
                        have HO_4 := n0_
                        have HB := n1_
                        clear n0_ n1_
                        have p157 : 0 ≤ (((rd_T27 x4_2 x9_2).f0) : Int) := of_decide_eq_true (by first | (with_reducible assumption) | assumption)
                        have q157 : ((rd_T27 x4_2 x9_2).f0) < (x4_2.length : Int) := of_decide_eq_true (by first | (with_reducible assumption) | assumption)
                        obtain ⟨ad157, e157, hx157_0, hx157_1, hx157_2, hx157_3, hx157_4, hx157_5⟩ := at_T27 (Kd.R_reads' HO_4.out).2.2 ((rd_T27 x4_2 x9_2).f0) p157 q157
                        obtain rfl : ad156 = ad157 := (by injection e157)
                        replace p157 := eq_true p157
                        replace q157 := eq_true q157
                        have p158 : 0 ≤ (x9_2 : Int) := of_decide_eq_true (by first | (with_reducible assumption) | assumption)
                        have q158 : x9_2 < (x4_2.length : Int) := of_decide_eq_true (by first | (with_reducible assumption) | assumption)
                        obtain ⟨ad158, e158, hx158_0, hx158_1, hx158_2, hx158_3, hx158_4, hx158_5⟩ := at_T27 (Kd.R_reads' HO_4.out).2.2 x9_2 p158 q158
                        obtain rfl : ad156 = ad158 := (by injection e158)
                        replace p158 := eq_true p158
                        replace q158 := eq_true q158
                        have p76 : 0 ≤ (((rd_T27 x4_2 x9_2).f0) : Int) := of_decide_eq_true (by first | (with_reducible assumption) | assumption)
                        have q76 : (((rd_T27 x4_2 x9_2).f0) : Int) < ((x4_2.length : Int) : Int) := of_decide_eq_true (by first | (with_reducible assumption) | assumption)
                        obtain ⟨go76, co76, eo76, gb76, gl76, cl76, HG76⟩ := Kd.R_form HO_4.out (by omega)
                        (first | cases eo76 | (injection eo76 with ea_ en_ ec_; (first | subst ea_ | (injection ea_ with ea_; subst ea_)); subst ec_; clear en_))
                        have GB76 := Aside0.mk gb76
                        have GG76 := Aside0.mk HG76
                        clear gb76 gl76 HG76
                        (first | simp only [add_plain] at hx156_0 | skip)
                        (first | simp only [add_plain] at hx156_1 | skip)
                        (first | simp only [add_plain] at hx156_2 | skip)
                        (first | simp only [add_plain] at hx156_3 | skip)
                        (first | simp only [add_plain] at hx156_4 | skip)
                        (first | simp only [add_plain] at hx156_5 | skip)
                        (first | simp only [add_plain] at hx157_0 | skip)
                        (first | simp only [add_plain] at hx157_1 | skip)
                        (first | simp only [add_plain] at hx157_2 | skip)
                        (first | simp only [add_plain] at hx157_3 | skip)
                        (first | simp only [add_plain] at hx157_4 | skip)
                        (first | simp only [add_plain] at hx157_5 | skip)
                        (first | simp only [add_plain] at hx158_0 | skip)
                        (first | simp only [add_plain] at hx158_1 | skip)
                        (first | simp only [add_plain] at hx158_2 | skip)
                        (first | simp only [add_plain] at hx158_3 | skip)
                        (first | simp only [add_plain] at hx158_4 | skip)
                        (first | simp only [add_plain] at hx158_5 | skip)
                        obtain ⟨ce76, hcl76, hM76, hcc76, hfr76⟩ := Kd.R_elem HO_4.out z27 (((rd_T27 x4_2 x9_2).f0) : Int) p76 q76
                        obtain rfl := k27_openM hM76
                        have hx76_0 : World.cell? _ ⟨go76, (((rd_T27 x4_2 x9_2).f0) : Int).toNat * 6, none⟩ = some (.int .i64 ((rd_T27 x4_2 ((rd_T27 x4_2 x9_2).f0)).f0)) := hcc76 0 _ rfl
                        have hx76_1 : World.cell? _ ⟨go76, (((rd_T27 x4_2 x9_2).f0) : Int).toNat * 6 + 1, none⟩ = some (.int .i64 ((rd_T27 x4_2 ((rd_T27 x4_2 x9_2).f0)).f1)) := hcc76 1 _ rfl
                        have hx76_2 : World.cell? _ ⟨go76, (((rd_T27 x4_2 x9_2).f0) : Int).toNat * 6 + 2, none⟩ = some (.int .i64 ((rd_T27 x4_2 ((rd_T27 x4_2 x9_2).f0)).f2)) := hcc76 2 _ rfl
                        have hx76_3 : World.cell? _ ⟨go76, (((rd_T27 x4_2 x9_2).f0) : Int).toNat * 6 + 3, none⟩ = some (.int .i64 ((rd_T27 x4_2 ((rd_T27 x4_2 x9_2).f0)).f3)) := hcc76 3 _ rfl
                        have hx76_4 : World.cell? _ ⟨go76, (((rd_T27 x4_2 x9_2).f0) : Int).toNat * 6 + 4, none⟩ = some (.int .i64 ((rd_T27 x4_2 ((rd_T27 x4_2 x9_2).f0)).f4)) := hcc76 4 _ rfl
                        have hx76_5 : World.cell? _ ⟨go76, (((rd_T27 x4_2 x9_2).f0) : Int).toNat * 6 + 5, none⟩ = some (.int .i64 ((rd_T27 x4_2 ((rd_T27 x4_2 x9_2).f0)).f5)) := hcc76 5 _ rfl
                        have hf76_0 : World.frozen? _ ⟨go76, (((rd_T27 x4_2 x9_2).f0) : Int).toNat * 6, none⟩ = false := hfr76 0
                        have hf76_1 : World.frozen? _ ⟨go76, (((rd_T27 x4_2 x9_2).f0) : Int).toNat * 6 + 1, none⟩ = false := hfr76 1
                        have hf76_2 : World.frozen? _ ⟨go76, (((rd_T27 x4_2 x9_2).f0) : Int).toNat * 6 + 2, none⟩ = false := hfr76 2
                        have hf76_3 : World.frozen? _ ⟨go76, (((rd_T27 x4_2 x9_2).f0) : Int).toNat * 6 + 3, none⟩ = false := hfr76 3
                        have hf76_4 : World.frozen? _ ⟨go76, (((rd_T27 x4_2 x9_2).f0) : Int).toNat * 6 + 4, none⟩ = false := hfr76 4
                        have hf76_5 : World.frozen? _ ⟨go76, (((rd_T27 x4_2 x9_2).f0) : Int).toNat * 6 + 5, none⟩ = false := hfr76 5
                        clear hcl76 hcc76 hfr76 hM76
                        replace p76 := eq_true p76
                        replace q76 := eq_true q76
                        obtain ⟨ce78, hcl78, hM78, hcc78, hfr78⟩ := Kd.R_elem HO_4.out z27 (((rd_T27 x4_2 x9_2).f0) : Int) (of_decide_eq_true (by first | (with_reducible assumption) | assumption)) (by have h_ : (((rd_T27 x4_2 x9_2).f0) : Int) < ((x4_2.length : Int) : Int) := of_decide_eq_true (by first | (with_reducible assumption) | assumption); first | exact h_ | (have e_ := (Kd.R_reads' HO_4.out).1; omega) | simpa using h_)
                        obtain rfl := k27_openM hM78
                        have HP78 := (Kd.R_seg HO_4.out (((rd_T27 x4_2 x9_2).f0) : Int) (of_decide_eq_true (by first | (with_reducible assumption) | assumption)) (by have h_ : (((rd_T27 x4_2 x9_2).f0) : Int) < ((x4_2.length : Int) : Int) := of_decide_eq_true (by first | (with_reducible assumption) | assumption); first | exact h_ | (have e_ := (Kd.R_reads' HO_4.out).1; omega) | simpa using h_) (seg := [.int .i64 (wrap64 (((rd_T27 x4_2 ((rd_T27 x4_2 x9_2).f0)).f5) + (wrap64 (((rd_T27 x4_2 x9_2).f5) + 1))))]) (j := 5) hcl78 hcc78 (show 6 ≤ 6 from by decide) (x' := (⟨(rd_T27 x4_2 ((rd_T27 x4_2 x9_2).f0)).f0, (rd_T27 x4_2 ((rd_T27 x4_2 x9_2).f0)).f1, (rd_T27 x4_2 ((rd_T27 x4_2 x9_2).f0)).f2, (rd_T27 x4_2 ((rd_T27 x4_2 x9_2).f0)).f3, (rd_T27 x4_2 ((rd_T27 x4_2 x9_2).f0)).f4, wrap64 (((rd_T27 x4_2 ((rd_T27 x4_2 x9_2).f0)).f5) + (wrap64 (((rd_T27 x4_2 x9_2).f5) + 1)))⟩ : S27)) (k27_mkM _ _ _ (⟨(rd_T27 x4_2 ((rd_T27 x4_2 x9_2).f0)).f0, (rd_T27 x4_2 ((rd_T27 x4_2 x9_2).f0)).f1, (rd_T27 x4_2 ((rd_T27 x4_2 x9_2).f0)).f2, (rd_T27 x4_2 ((rd_T27 x4_2 x9_2).f0)).f3, (rd_T27 x4_2 ((rd_T27 x4_2 x9_2).f0)).f4, wrap64 (((rd_T27 x4_2 ((rd_T27 x4_2 x9_2).f0)).f5) + (wrap64 (((rd_T27 x4_2 x9_2).f5) + 1)))⟩ : S27) ) (fun _ hk => hk)).1
                        rw [← Ny159.out] at HP78
                        have HQ78 := Aside0.mk HP78
                        clear hcl78 hcc78 hfr78 hM78 HP78
                        refine start_ (n := 15) (S := fun w' => w'.cell? ⟨go76, ((((rd_T27 x4_2 x9_2).f0)).toNat * 6), none⟩ = some (.int .i64 ((rd_T27 x4_2 ((rd_T27 x4_2 x9_2).f0)).f0)) ∧ w'.cell? ⟨go76, ((((rd_T27 x4_2 x9_2).f0)).toNat * 6) + 1, none⟩ = some (.int .i64 ((rd_T27 x4_2 ((rd_T27 x4_2 x9_2).f0)).f1)) ∧ w'.cell? ⟨go76, ((((rd_T27 x4_2 x9_2).f0)).toNat * 6) + 2, none⟩ = some (.int .i64 ((rd_T27 x4_2 ((rd_T27 x4_2 x9_2).f0)).f2)) ∧ w'.cell? ⟨go76, ((((rd_T27 x4_2 x9_2).f0)).toNat * 6) + 3, none⟩ = some (.int .i64 ((rd_T27 x4_2 ((rd_T27 x4_2 x9_2).f0)).f3)) ∧ w'.cell? ⟨go76, ((((rd_T27 x4_2 x9_2).f0)).toNat * 6) + 4, none⟩ = some (.int .i64 ((rd_T27 x4_2 ((rd_T27 x4_2 x9_2).f0)).f4)) ∧ w'.cell? ⟨go76, ((((rd_T27 x4_2 x9_2).f0)).toNat * 6) + 5, none⟩ = some (.int .i64 ((rd_T27 x4_2 ((rd_T27 x4_2 x9_2).f0)).f5)) ∧ w'.cell? ⟨go76, ((x9_2).toNat * 6), none⟩ = some (.int .i64 ((rd_T27 x4_2 x9_2).f0)) ∧ w'.cell? ⟨go76, ((x9_2).toNat * 6) + 1, none⟩ = some (.int .i64 ((rd_T27 x4_2 x9_2).f1)) ∧ w'.cell? ⟨go76, ((x9_2).toNat * 6) + 2, none⟩ = some (.int .i64 ((rd_T27 x4_2 x9_2).f2)) ∧ w'.cell? ⟨go76, ((x9_2).toNat * 6) + 3, none⟩ = some (.int .i64 ((rd_T27 x4_2 x9_2).f3)) ∧ w'.cell? ⟨go76, ((x9_2).toNat * 6) + 4, none⟩ = some (.int .i64 ((rd_T27 x4_2 x9_2).f4)) ∧ w'.cell? ⟨go76, ((x9_2).toNat * 6) + 5, none⟩ = some (.int .i64 ((rd_T27 x4_2 x9_2).f5))) (ds := [14]) #[false, false, false, false, false, false, false, false, false, false, false, false, false, false, false] (by kernel_rfl) rfl rfl ⟨hx157_0, hx157_1, hx157_2, hx157_3, hx157_4, hx157_5, hx158_0, hx158_1, hx158_2, hx158_3, hx158_4, hx158_5⟩ (fun hHeld => ?_); refine with_tabW anchors_Knots.tab22 anchors_Knots.bits22 (fun HT_ HW_ => ?_)
                        generalize wr.drew = w77 at HO_4 HB GG76 HQ78 hf76_0 hf76_1 hf76_2 hf76_3 hf76_4 hf76_5 hx156_0 hx156_1 hx156_2 hx156_3 hx156_4 hx156_5 hx157_0 hx157_1 hx157_2 hx157_3 hx157_4 hx157_5 hx158_0 hx158_1 hx158_2 hx158_3 hx158_4 hx158_5 hx76_0 hx76_1 hx76_2 hx76_3 hx76_4 hx76_5 hHeld ⊢
                        refine pure_ (i := 0) (N := some 73) (v := ?_) (a' := ?_) #[true, false, false, false, false, false, false, false, false, false, false, false, false, false, false] rfl rfl (any_of HT_.out (by kernel_rfl)) (fun _ _ _ h => h) (Or.inl ⟨by rfl, ?_⟩) ?_ ?_
                        rotate_left
                        · intro w'
                          go_simp
                          with_reducible rfl
                        rotate_left
                        · simp only [Act.put, List.setIfInBounds_toArray, List.set_cons_zero, List.set_cons_succ, i64_w, i32_w]
                          rfl
                        refine pure_ (i := 1) (N := some 74) (v := ?_) (a' := ?_) #[true, true, false, false, false, false, false, false, false, false, false, false, false, false, false] rfl rfl (any_of HT_.out (by kernel_rfl)) (fun _ _ _ h => h) (Or.inl ⟨by rfl, ?_⟩) ?_ ?_
                        rotate_left
                        · intro w'
                          go_simp
                          with_reducible rfl
                        rotate_left
                        · simp only [Act.put, List.setIfInBounds_toArray, List.set_cons_zero, List.set_cons_succ, i64_w, i32_w]
                          rfl
                        refine pure_ (i := 2) (N := some 75) (v := ?_) (a' := ?_) #[true, true, true, false, false, false, false, false, false, false, false, false, false, false, false] rfl rfl (any_of HT_.out (by kernel_rfl)) (fun _ _ _ h => h) (Or.inl ⟨by rfl, ?_⟩) ?_ ?_
                        rotate_left
                        · intro w'
                          go_simp
                          with_reducible rfl
                        rotate_left
                        · simp only [Act.put, List.setIfInBounds_toArray, List.set_cons_zero, List.set_cons_succ, i64_w, i32_w]
                          rfl
                        refine pure_ (i := 3) (N := some 76) (v := ?_) (a' := ?_) #[true, true, true, true, false, false, false, false, false, false, false, false, false, false, false] rfl rfl (any_of HT_.out (by kernel_rfl)) (fun _ _ _ h => h) (Or.inl ⟨by rfl, ?_⟩) ?_ ?_
                        rotate_left
                        · intro w'
                          go_simp
                          with_reducible rfl
                        rotate_left
                        · simp only [Act.put, List.setIfInBounds_toArray, List.set_cons_zero, List.set_cons_succ, i64_w, i32_w]
                          rfl
                        refine pure_ (i := 5) (N := some 78) (v := ?_) (a' := ?_) #[true, true, true, true, false, true, false, false, false, false, false, false, false, false, false] rfl rfl (any_of HT_.out (by kernel_rfl)) (fun _ _ _ h => h) (Or.inl ⟨by rfl, ?_⟩) ?_ ?_
                        rotate_left
                        · intro w'
                          go_simp
                          with_reducible rfl
                        rotate_left
                        · simp only [Act.put, List.setIfInBounds_toArray, List.set_cons_zero, List.set_cons_succ, i64_w, i32_w]
                          rfl
                        refine pure_ (i := 6) (N := some 79) (v := ?_) (a' := ?_) #[true, true, true, true, false, true, true, false, false, false, false, false, false, false, false] rfl rfl (any_of HT_.out (by kernel_rfl)) (fun _ _ _ h => h) (Or.inl ⟨by rfl, ?_⟩) ?_ ?_
                        rotate_left
                        · intro w'
                          go_simp
                          with_reducible rfl
                        rotate_left
                        · simp only [Act.put, List.setIfInBounds_toArray, List.set_cons_zero, List.set_cons_succ, i64_w, i32_w]
                          rfl
                        refine pure_ (i := 7) (N := some 80) (v := ?_) (a' := ?_) #[true, true, true, true, false, true, true, true, false, false, false, false, false, false, false] rfl rfl (any_of HT_.out (by kernel_rfl)) (fun _ _ _ h => h) (Or.inl ⟨by rfl, ?_⟩) ?_ ?_
                        rotate_left
                        · intro w'
                          go_simp
                          with_reducible rfl
                        rotate_left
                        · simp only [Act.put, List.setIfInBounds_toArray, List.set_cons_zero, List.set_cons_succ, i64_w, i32_w]
                          rfl
                        refine pure_ (i := 8) (N := some 81) (v := ?_) (a' := ?_) #[true, true, true, true, false, true, true, true, true, false, false, false, false, false, false] rfl rfl (any_of HT_.out (by kernel_rfl)) (fun _ _ _ h => h) (Or.inl ⟨by rfl, ?_⟩) ?_ ?_
                        rotate_left
                        · intro w'
                          go_simp
                          with_reducible rfl
                        rotate_left
                        · simp only [Act.put, List.setIfInBounds_toArray, List.set_cons_zero, List.set_cons_succ, i64_w, i32_w]
                          rfl
                        refine take_ (i := 4) (N := some 77) (v := ?_) (a' := ?_) #[true, true, true, true, true, true, true, true, true, false, false, false, false, false, false] rfl rfl (take_ofW HT_.out HW_.out (by kernel_rfl)) (fun _ _ _ h => h) (Or.inl ⟨by rfl, ?_⟩) hHeld ?_ ?_
                        rotate_left
                        · rintro w' ⟨s0, s1, s2, s3, s4, s5, s6, s7, s8, s9, s10, s11⟩
                          go_simp
                          with_reducible rfl
                        rotate_left
                        · simp only [Act.put, List.setIfInBounds_toArray, List.set_cons_zero, List.set_cons_succ, i64_w, i32_w]
                          rfl
                        refine take_ (i := 9) (N := some 82) (v := ?_) (a' := ?_) #[true, true, true, true, true, true, true, true, true, true, false, false, false, false, false] rfl rfl (take_ofW HT_.out HW_.out (by kernel_rfl)) (fun _ _ _ h => h) (Or.inl ⟨by rfl, ?_⟩) hHeld ?_ ?_
                        rotate_left
                        · rintro w' ⟨s0, s1, s2, s3, s4, s5, s6, s7, s8, s9, s10, s11⟩
                          go_simp
                          with_reducible rfl
                        rotate_left
                        · simp only [Act.put, List.setIfInBounds_toArray, List.set_cons_zero, List.set_cons_succ, i64_w, i32_w]
                          rfl
                        refine pure_ (i := 10) (N := some 83) (v := ?_) (a' := ?_) #[true, true, true, true, true, true, true, true, true, true, true, false, false, false, false] rfl rfl (any_of HT_.out (by kernel_rfl)) (fun _ _ _ h => h) (Or.inl ⟨by rfl, ?_⟩) ?_ ?_
                        rotate_left
                        · intro w'
                          go_simp
                          with_reducible rfl
                        rotate_left
                        · simp only [Act.put, List.setIfInBounds_toArray, List.set_cons_zero, List.set_cons_succ, i64_w, i32_w]
                          rfl
                        refine pure_ (i := 11) (N := some 84) (v := ?_) (a' := ?_) #[true, true, true, true, true, true, true, true, true, true, true, true, false, false, false] rfl rfl (any_of HT_.out (by kernel_rfl)) (fun _ _ _ h => h) (Or.inl ⟨by rfl, ?_⟩) ?_ ?_
                        rotate_left
                        · intro w'
                          go_simp
                          with_reducible rfl
                        rotate_left
                        · simp only [Act.put, List.setIfInBounds_toArray, List.set_cons_zero, List.set_cons_succ, i64_w, i32_w]
                          rfl
                        refine pure_ (i := 12) (N := some 85) (v := ?_) (a' := ?_) #[true, true, true, true, true, true, true, true, true, true, true, true, true, false, false] rfl rfl (any_of HT_.out (by kernel_rfl)) (fun _ _ _ h => h) (Or.inl ⟨by rfl, ?_⟩) ?_ ?_
                        rotate_left
                        · intro w'
                          go_simp
                          with_reducible rfl
                        rotate_left
                        · simp only [Act.put, List.setIfInBounds_toArray, List.set_cons_zero, List.set_cons_succ, i64_w, i32_w]
                          rfl
                        refine pure_ (i := 13) (N := some 86) (v := ?_) (a' := ?_) #[true, true, true, true, true, true, true, true, true, true, true, true, true, true, false] rfl rfl (any_of HT_.out (by kernel_rfl)) (fun _ _ _ h => h) (Or.inl ⟨by rfl, ?_⟩) ?_ ?_
                        rotate_left
                        · intro w'
                          go_simp
                          with_reducible rfl
                        rotate_left
                        · simp only [Act.put, List.setIfInBounds_toArray, List.set_cons_zero, List.set_cons_succ, i64_w, i32_w]
                          rfl
                        refine last_ (i := 14) (N := none) #[true, true, true, true, true, true, true, true, true, true, true, true, true, true, true] rfl rfl (one_of HT_.out (by kernel_rfl)) (by decide) (fun K hK => ?_)
                        refine skip_ (w1 := ?_) (by rfl) rfl ?_ ?_
                        rotate_left
                        · go_simp
                          rfl
                        refine hK.out _ _ ?_
                        clear hK K
                        refine done_ (done_of HT_.out (by kernel_rfl)) ?_
                        try go_wp2
                        (try simp only [← hl4_2])
                        go_roundg k2
                        case measure => have := HK1.out; have := HK2.out; omega
                        case rel => exact ⟨(y159), (wrap64 (x9_2 - 1)), (by first | rfl | (simp; done) | (simp [*]; done)), H', ⟨by have := HK1.out; have := HK2.out; omega⟩, ⟨by (try simp only [hl4_2]); (with_reducible repeat (first | apply Kd.R_alloc | apply Kd.R_drewN | apply Kd.R_drew)); exact HQ78.out⟩, ⟨by repeat (first | (with_reducible first | exact HB.out | apply below_alloc | apply pw_below_drewN | apply below_drew1 | refine below_set ?_ GB76.out) | exact HB.out)⟩⟩
                      · rw [if_neg c75] at H
                        exact absurd H (by simp)
                    · rw [if_neg c74] at H
                      exact absurd H (by simp)
                  · rw [if_neg c73] at H
                    have c73b0 : decide (0 ≤ ((rd_T27 x4_2 x9_2).f0)) = false := decide_eq_false c73
                    clear c73
                    have H' := Aside0.mk H
                    clear H
                    have p156 : 0 ≤ (x9_2 : Int) := of_decide_eq_true (by first | (with_reducible assumption) | assumption)
                    have q156 : x9_2 < (x4_2.length : Int) := of_decide_eq_true (by first | (with_reducible assumption) | assumption)
                    obtain ⟨ad156, e156, hx156_0, hx156_1, hx156_2, hx156_3, hx156_4, hx156_5⟩ := at_T27 (Kd.R_reads' HO_4.out).2.2 x9_2 p156 q156
                    cases e156
                    replace p156 := eq_true p156
                    replace q156 := eq_true q156
                    go_wp2
                    (try simp only [← hl4_2])
                    go_roundg k2
                    case measure => have := HK1.out; have := HK2.out; omega
                    case rel => exact ⟨(x4_2), (wrap64 (x9_2 - 1)), (by first | rfl | (simp; done) | (simp [*]; done)), H', ⟨by have := HK1.out; have := HK2.out; omega⟩, ⟨by (try simp only [hl4_2]); (with_reducible repeat (first | apply Kd.R_alloc | apply Kd.R_drewN | apply Kd.R_drew)); exact HO_4.out⟩, ⟨by repeat (first | (with_reducible first | exact HB.out | apply below_alloc | apply pw_below_drewN | apply below_drew1) | exact HB.out)⟩⟩
                · rw [if_neg c72] at H
                  exact absurd H (by simp)
              · rw [if_neg c71] at H
                exact absurd H (by simp)
            · rw [if_neg c70] at H
              have c70b0 : decide (0 ≤ x9_2) = false := decide_eq_false c70
              clear c70
              obtain rfl := Option.some.inj H
              go_wp2
              go_ret
              exact ⟨_, by first | rfl | (simp [errW_none, errW_some] <;> rfl) | (simp [*, errW_none, errW_some] <;> rfl), by (with_reducible repeat (first | apply Kd.R_alloc | apply Kd.R_drewN | apply Kd.R_drew)); exact HO_4.out, by repeat (first | (with_reducible first | exact HB.out | apply below_alloc | apply pw_below_drewN | apply below_drew1) | exact HB.out)⟩

end Go.Proofs.Ytdoponngnjmkkaa.PAnchorsReach
