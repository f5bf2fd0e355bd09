-- Written by a copy of the print that this session has turned (wip/tools/patchprint.py): arrays as records.
import Derived.Test.YtogjeababinnlaaPPagesFlowx0
import Derived.Test.YtogjeababinnlaaPPagesFlowx7
namespace Go.Proofs.Ytogjeababinnlaa.PPagesFlow
open Go.RowKit Go.Proofs.YtogjeababinnlaaW.PrintWords Go.Proofs.YtogjeababinnlaaW.PrintLast Go.Proofs.YtogjeababinnlaaW.PrintMore
attribute [local go_sem] max2_int min2_int max_two min_two max_three min_three max_four min_four   -- for this text's walks alone
set_option linter.unusedVariables false
set_option linter.unusedSimpArgs false

/-! ### colophonref27_Flow: function 33 -/
mutual
def colophonref27_Flow.l0 : Nat → List (S49) → Int → List (S43) → Int → Int → Option ((List (S43)))
  | 0, _, _, _, _, _ => none
  | k + 1, x0, x1, x5, x6, x7 => if x7 < (x0.length : Int) then (if 0 ≤ x7 then (if (rd_T49 x0 x7).f6 = true then (if x5.length < 4398046511104 then (colophonref27_Flow.l0 k x0 x1 (x5 ++ [(⟨3, 0, 0, (-10000)⟩ : S43)]) (-1) (wrap64 (x7 + 1))) else (none)) else (if (((rd_T49 x0 x7).f0).length : Int) = 0 then (colophonref27_Flow.l0 k x0 x1 x5 x6 (wrap64 (x7 + 1))) else (if x6 ≥ 0 then (if 0 ≤ x6 then (if x6 < (x0.length : Int) then (if (rd_T49 x0 x6).f5 = true then (if x5.length < 4398046511104 then (colophonref27_Flow.j1 k x0 x1 (x5 ++ [(⟨3, 0, 0, x1⟩ : S43)]) x7 (mx ((rd_T49 x0 x7).f3) ((rd_T49 x0 x6).f4)) ((rd_T49 x0 x7).f0) ((rd_T49 x0 x7).f1) ((rd_T49 x0 x7).f2) ((rd_T49 x0 x7).f3) ((rd_T49 x0 x7).f4) ((rd_T49 x0 x7).f5) ((rd_T49 x0 x7).f6)) else (none)) else (if x5.length < 4398046511104 then (colophonref27_Flow.j1 k x0 x1 (x5 ++ [(⟨3, 0, 0, 0⟩ : S43)]) x7 (mx ((rd_T49 x0 x7).f3) ((rd_T49 x0 x6).f4)) ((rd_T49 x0 x7).f0) ((rd_T49 x0 x7).f1) ((rd_T49 x0 x7).f2) ((rd_T49 x0 x7).f3) ((rd_T49 x0 x7).f4) ((rd_T49 x0 x7).f5) ((rd_T49 x0 x7).f6)) else (none))) else (none)) else (none)) else (colophonref27_Flow.j1 k x0 x1 x5 x7 ((rd_T49 x0 x7).f3) ((rd_T49 x0 x7).f0) ((rd_T49 x0 x7).f1) ((rd_T49 x0 x7).f2) ((rd_T49 x0 x7).f3) ((rd_T49 x0 x7).f4) ((rd_T49 x0 x7).f5) ((rd_T49 x0 x7).f6))))) else (none)) else (if x5.length < 4398046511104 then (some (x5 ++ [(⟨3, 0, 0, (-10000)⟩ : S43)])) else (none))
def colophonref27_Flow.j1 : Nat → List (S49) → Int → List (S43) → Int → Int → List Int → List Int → List Int → Int → Int → Bool → Bool → Option ((List (S43)))
  | 0, _, _, _, _, _, _, _, _, _, _, _, _ => none
  | k + 1, x0, x1, x5, x7, x9, x187000, x187001, x187002, x187003, x187004, x187005, x187006 => if x5.length < 4398046511104 then (colophonref27_Flow.l1 k x0 x1 (x5 ++ [(⟨2, x9, 0, 0⟩ : S43)]) x7 0 x187000 x187001 x187002 x187003 x187004 x187005 x187006) else (none)
def colophonref27_Flow.l1 : Nat → List (S49) → Int → List (S43) → Int → Int → List Int → List Int → List Int → Int → Int → Bool → Bool → Option ((List (S43)))
  | 0, _, _, _, _, _, _, _, _, _, _, _, _ => none
  | k + 1, x0, x1, x5, x7, x11, x187000, x187001, x187002, x187003, x187004, x187005, x187006 => if x11 < (x187000.length : Int) then (if x11 > 0 then ((colophonref27_at.f x187002 (wrap64 (x11 - 1))).bind fun t202 => (if x5.length < 4398046511104 then ((some (x5 ++ [(⟨3, 0, 0, t202⟩ : S43)] : List (S43))).bind fun y203 => (if 0 ≤ x11 then ((colophonref27_at.f x187001 x11).bind fun t207 => (if y203.length < 4398046511104 then (colophonref27_Flow.l1 k x0 x1 (y203 ++ [(⟨1, rd x187000 x11, t207, 0⟩ : S43)]) x7 (wrap64 (x11 + 1)) x187000 x187001 x187002 x187003 x187004 x187005 x187006) else (none))) else (none))) else (none))) else (if 0 ≤ x11 then ((colophonref27_at.f x187001 x11).bind fun t212 => (if x5.length < 4398046511104 then (colophonref27_Flow.l1 k x0 x1 (x5 ++ [(⟨1, rd x187000 x11, t212, 0⟩ : S43)]) x7 (wrap64 (x11 + 1)) x187000 x187001 x187002 x187003 x187004 x187005 x187006) else (none))) else (none))) else (colophonref27_Flow.l0 k x0 x1 x5 x7 (wrap64 (x7 + 1)))
end
def colophonref27_Flow.f (k : Nat) (l0 : List (S49)) (a1 : Int) : Option ((List (S43))) := colophonref27_Flow.l0 k l0 a1 ([] : List (S43)) (-1) 0
theorem colophonref27_Flow.mono_l : ∀ k, (∀ y0 y1 y2 y3 y4, LeO (colophonref27_Flow.l0 k y0 y1 y2 y3 y4) (colophonref27_Flow.l0 (k + 1) y0 y1 y2 y3 y4)) ∧ (∀ y0 y1 y2 y3 y4 y5 y6 y7 y8 y9 y10 y11, LeO (colophonref27_Flow.j1 k y0 y1 y2 y3 y4 y5 y6 y7 y8 y9 y10 y11) (colophonref27_Flow.j1 (k + 1) y0 y1 y2 y3 y4 y5 y6 y7 y8 y9 y10 y11)) ∧ (∀ y0 y1 y2 y3 y4 y5 y6 y7 y8 y9 y10 y11, LeO (colophonref27_Flow.l1 k y0 y1 y2 y3 y4 y5 y6 y7 y8 y9 y10 y11) (colophonref27_Flow.l1 (k + 1) y0 y1 y2 y3 y4 y5 y6 y7 y8 y9 y10 y11))
  | 0 => ⟨fun _ _ _ _ _ r h => by simp [colophonref27_Flow.l0] at h, fun _ _ _ _ _ _ _ _ _ _ _ _ r h => by simp [colophonref27_Flow.j1] at h, fun _ _ _ _ _ _ _ _ _ _ _ _ r h => by simp [colophonref27_Flow.l1] at h⟩
  | k + 1 => by
    obtain ⟨ih0, ih1, ih2⟩ := colophonref27_Flow.mono_l k
    refine ⟨?_, ?_, ?_⟩
    · intro y0 y1 y2 y3 y4
      unfold colophonref27_Flow.l0
      repeat' first
      | (with_reducible exact ih0 _ _ _ _ _)
      | (with_reducible exact ih1 _ _ _ _ _ _ _ _ _ _ _ _)
      | (with_reducible exact ih2 _ _ _ _ _ _ _ _ _ _ _ _)
      | (with_reducible exact LeO.refl _)
      | (with_reducible exact LeO.none _)
      | (with_reducible refine LeO.ite ?_ ?_)
      | (with_reducible refine LeO.bind ?_ (fun _ => ?_))
      | exact ih0 _ _ _ _ _
      | exact ih1 _ _ _ _ _ _ _ _ _ _ _ _
      | exact ih2 _ _ _ _ _ _ _ _ _ _ _ _
      | exact LeO.none _
      | refine LeO.ite ?_ ?_
      | refine LeO.bind ?_ (fun _ => ?_)
    · intro y0 y1 y2 y3 y4 y5 y6 y7 y8 y9 y10 y11
      unfold colophonref27_Flow.j1
      repeat' first
      | (with_reducible exact ih0 _ _ _ _ _)
      | (with_reducible exact ih1 _ _ _ _ _ _ _ _ _ _ _ _)
      | (with_reducible exact ih2 _ _ _ _ _ _ _ _ _ _ _ _)
      | (with_reducible exact LeO.refl _)
      | (with_reducible exact LeO.none _)
      | (with_reducible refine LeO.ite ?_ ?_)
      | (with_reducible refine LeO.bind ?_ (fun _ => ?_))
      | exact ih0 _ _ _ _ _
      | exact ih1 _ _ _ _ _ _ _ _ _ _ _ _
      | exact ih2 _ _ _ _ _ _ _ _ _ _ _ _
      | exact LeO.none _
      | refine LeO.ite ?_ ?_
      | refine LeO.bind ?_ (fun _ => ?_)
    · intro y0 y1 y2 y3 y4 y5 y6 y7 y8 y9 y10 y11
      unfold colophonref27_Flow.l1
      repeat' first
      | (with_reducible exact ih0 _ _ _ _ _)
      | (with_reducible exact ih1 _ _ _ _ _ _ _ _ _ _ _ _)
      | (with_reducible exact ih2 _ _ _ _ _ _ _ _ _ _ _ _)
      | (with_reducible exact LeO.refl _)
      | (with_reducible exact LeO.none _)
      | (with_reducible refine LeO.ite ?_ ?_)
      | (with_reducible refine LeO.bind ?_ (fun _ => ?_))
      | exact ih0 _ _ _ _ _
      | exact ih1 _ _ _ _ _ _ _ _ _ _ _ _
      | exact ih2 _ _ _ _ _ _ _ _ _ _ _ _
      | exact LeO.none _
      | refine LeO.ite ?_ ?_
      | refine LeO.bind ?_ (fun _ => ?_)
theorem colophonref27_Flow.mono : ∀ a0 a1 k, LeO (colophonref27_Flow.f k a0 a1) (colophonref27_Flow.f (k + 1) a0 a1) := by
  intro a0 a1 k
  obtain ⟨ih0, ih1, ih2⟩ := colophonref27_Flow.mono_l k
  unfold colophonref27_Flow.f
  repeat' first
      | (with_reducible exact ih0 _ _ _ _ _)
      | (with_reducible exact ih1 _ _ _ _ _ _ _ _ _ _ _ _)
      | (with_reducible exact ih2 _ _ _ _ _ _ _ _ _ _ _ _)
      | (with_reducible exact LeO.refl _)
      | (with_reducible exact LeO.none _)
      | (with_reducible refine LeO.ite ?_ ?_)
      | (with_reducible refine LeO.bind ?_ (fun _ => ?_))
      | exact ih0 _ _ _ _ _
      | exact ih1 _ _ _ _ _ _ _ _ _ _ _ _
      | exact ih2 _ _ _ _ _ _ _ _ _ _ _ _
      | exact LeO.none _
      | refine LeO.ite ?_ ?_
      | refine LeO.bind ?_ (fun _ => ?_)
def colophonref27_Flow.T24 : Bool × List (List Nat × List Nat) := (true, [([], []), ([], []), ([1], [1]), ([], []), ([2, 3], [2, 3]), ([4], [4]), ([], []), ([6], [6]), ([], []), ([7, 8], [7, 8]), ([5, 9], [5, 9]), ([10], [10]), ([0, 11, 9], [0, 11]), ([12, 12, 0, 1, 2, 3, 4, 5, 6, 7, 8, 9, 10, 11, 12], [0, 12])])
def colophonref27_Flow.B24 : List Nat := [0, 0, 2, 0, 14, 30, 0, 64, 0, 448, 1022, 2046, 4095, 8191]
theorem colophonref27_Flow.tab24 : rtab .any (opsOf Try.f33 24) = colophonref27_Flow.T24 := by kernel_rfl
theorem colophonref27_Flow.bits24 : waitsOk colophonref27_Flow.T24.2 colophonref27_Flow.B24 = true := by kernel_rfl
set_option maxHeartbeats 8000000 in
set_option maxRecDepth 100000 in
theorem colophonref27_Flow.calls (k : Nat) (A0 : Option Addr) (c0 : Nat) (l0 : List (S49)) (a1 : Int) (r : List (S43)) (w : World) (hr0 : Kd.C k49 w A0 l0.length l0) (hc0 : l0.length ≤ c0) (h : colophonref27_Flow.f k l0 a1 = some r) :
    Calls Try.prog 33 #[.slice A0 l0.length c0, .int .i64 a1] w fun e w' => ∃ v0_ : Value, e = .returned (v0_) ∧ Kd.R k43 43 w' w.heap.size (fun _ => True) v0_ r ∧ Below w.heap.size w w' := by
  have hu49 := Try.underlying49
  have hu43 := Try.underlying43
  have HR0 := Aside0.mk hr0
  have HC0 := Aside0.mk hc0
  clear hr0 hc0
  have HB := Aside0.mk (Below.refl w.heap.size w)
  have H : (colophonref27_Flow.l0 k l0 a1 ([] : List (S43)) (-1) 0) = some r := h
  clear h
  have H' := Aside0.mk H
  clear H
  go_enter Try.func33, Try.ntmps33
  go_wp2
  go_loopg [5, 6, 7] k (fun kq v5 v6 v7 w' => ∃ (x5_1 : List (S43)) (x6_1 : Int) (x7_1 : Int), v6 = .int .i64 x6_1 ∧ v7 = .int .i64 x7_1 ∧ Aside0 (colophonref27_Flow.l0 kq l0 a1 x5_1 x6_1 x7_1 = some r) ∧ Aside0 (kq ≤ k) ∧ Aside0 (Kd.R k43 43 w' w.heap.size (fun _ => True) v5 x5_1) ∧ Aside0 (Below w.heap.size w w'))
  case atStart => exact ⟨(([] : List (S43))), ((-1)), (0), (by first | rfl | (simp; done) | (simp [*]; done)), (by first | rfl | (simp; done) | (simp [*]; done)), H', ⟨Nat.le_refl _⟩, ⟨by first | exact Kd.R_nil _ _ _ _ _ | exact Kd.N_nil _ _ _ _ _ | exact Kd.V_nil _ _ _ _ _ | exact Kd.Q_nil _ _ _ _ _ | exact Kd.S_nil _ _ _ _ _⟩, ⟨by repeat (first | (with_reducible first | exact HB.out | apply below_alloc | apply pw_below_drewN | apply below_drew1) | exact HB.out)⟩⟩
  case round =>
    clear H'
    try clear p2
    obtain ⟨x5_1, x6_1, x7_1, rfl, rfl, HA, HK1, HO_5, HB⟩ := hrel
    cases gk with
    | zero => exact absurd HA.out (by simp [colophonref27_Flow.l0])
    | succ k1 =>
      have H := HA.out
      clear HA
      simp only [colophonref27_Flow.l0] at H
      by_cases c3 : x7_1 < (l0.length : Int)
      · rw [if_pos c3] at H
        have c3b0 : decide (x7_1 < (l0.length : Int)) = true := decide_eq_true c3
        clear c3
        by_cases c4 : 0 ≤ x7_1
        · rw [if_pos c4] at H
          have c4b0 : decide (0 ≤ x7_1) = true := decide_eq_true c4
          clear c4
          obtain ⟨bq5, hbq5⟩ : ∃ b_ : Bool, b_ = ((rd_T49 l0 x7_1).f6) := ⟨_, rfl⟩
          replace H : (if bq5 = true then (if x5_1.length < 4398046511104 then (colophonref27_Flow.l0 k1 l0 a1 (x5_1 ++ [(⟨3, 0, 0, (-10000)⟩ : S43)]) (-1) (wrap64 (x7_1 + 1))) else (none)) else (if (((rd_T49 l0 x7_1).f0).length : Int) = 0 then (colophonref27_Flow.l0 k1 l0 a1 x5_1 x6_1 (wrap64 (x7_1 + 1))) else (if x6_1 ≥ 0 then (if 0 ≤ x6_1 then (if x6_1 < (l0.length : Int) then (if (rd_T49 l0 x6_1).f5 = true then (if x5_1.length < 4398046511104 then (colophonref27_Flow.j1 k1 l0 a1 (x5_1 ++ [(⟨3, 0, 0, a1⟩ : S43)]) x7_1 (mx ((rd_T49 l0 x7_1).f3) ((rd_T49 l0 x6_1).f4)) ((rd_T49 l0 x7_1).f0) ((rd_T49 l0 x7_1).f1) ((rd_T49 l0 x7_1).f2) ((rd_T49 l0 x7_1).f3) ((rd_T49 l0 x7_1).f4) ((rd_T49 l0 x7_1).f5) bq5) else (none)) else (if x5_1.length < 4398046511104 then (colophonref27_Flow.j1 k1 l0 a1 (x5_1 ++ [(⟨3, 0, 0, 0⟩ : S43)]) x7_1 (mx ((rd_T49 l0 x7_1).f3) ((rd_T49 l0 x6_1).f4)) ((rd_T49 l0 x7_1).f0) ((rd_T49 l0 x7_1).f1) ((rd_T49 l0 x7_1).f2) ((rd_T49 l0 x7_1).f3) ((rd_T49 l0 x7_1).f4) ((rd_T49 l0 x7_1).f5) bq5) else (none))) else (none)) else (none)) else (colophonref27_Flow.j1 k1 l0 a1 x5_1 x7_1 ((rd_T49 l0 x7_1).f3) ((rd_T49 l0 x7_1).f0) ((rd_T49 l0 x7_1).f1) ((rd_T49 l0 x7_1).f2) ((rd_T49 l0 x7_1).f3) ((rd_T49 l0 x7_1).f4) ((rd_T49 l0 x7_1).f5) bq5)))) = some r := by rw [← hbq5] at H; exact H
          have Nbq5 := Aside0.mk hbq5
          clear hbq5
          by_cases c6 : bq5 = true
          · subst c6
            have H1 : (if x5_1.length < 4398046511104 then (colophonref27_Flow.l0 k1 l0 a1 (x5_1 ++ [(⟨3, 0, 0, (-10000)⟩ : S43)]) (-1) (wrap64 (x7_1 + 1))) else (none)) = some r := by rw [if_pos rfl] at H; exact H
            clear H
            have H := H1
            clear H1
            by_cases c7 : x5_1.length < 4398046511104
            · rw [if_pos c7] at H
              have LMc7 := Aside0.mk c7
              clear c7
              obtain ⟨y187, hy187⟩ : ∃ y_ : List (S43), y_ = (x5_1 ++ [(⟨3, 0, 0, (-10000)⟩ : S43)]) := ⟨_, rfl⟩
              replace H : (colophonref27_Flow.l0 k1 l0 a1 y187 (-1) (wrap64 (x7_1 + 1))) = some r := by first | (rw [hy187]; with_reducible exact H) | (have H2_ := (Option.bind_some _ _).symm.trans H; rw [hy187]; with_reducible exact H2_) | (have H2_ := (Option.bind_some _ _).symm.trans H; with_reducible exact H2_) | with_reducible exact H | (rw [hy187]; exact H) | exact H
              have Ny187 := Aside0.mk hy187
              clear hy187
              have H' := Aside0.mk H
              clear H
              have p185 : 0 ≤ (x7_1 : Int) := of_decide_eq_true (by first | (with_reducible assumption) | assumption)
              have q185 : x7_1 < (l0.length : Int) := of_decide_eq_true (by first | (with_reducible assumption) | assumption)
              obtain ⟨ad185, A185_0, c185_0, A185_1, c185_1, A185_2, c185_2, e185, hx185_0, hx185_1, hx185_2, hx185_3, hx185_4, hx185_5, hx185_6, hl185_0, hi185_0, hl185_1, hi185_1, hl185_2, hi185_2⟩ := at_T49 HR0.out x7_1 p185 q185
              (try rw [← Nbq5.out] at hx185_5)
              (try rw [← Nbq5.out] at hx185_6)
              cases e185
              replace hx185_0 := (HB.out.cell (World.block_lt_of_cell? w _ hx185_0)).trans hx185_0
              replace hx185_1 := (HB.out.cell (World.block_lt_of_cell? w _ hx185_1)).trans hx185_1
              replace hx185_2 := (HB.out.cell (World.block_lt_of_cell? w _ hx185_2)).trans hx185_2
              replace hx185_3 := (HB.out.cell (World.block_lt_of_cell? w _ hx185_3)).trans hx185_3
              replace hx185_4 := (HB.out.cell (World.block_lt_of_cell? w _ hx185_4)).trans hx185_4
              replace hx185_5 := (HB.out.cell (World.block_lt_of_cell? w _ hx185_5)).trans hx185_5
              replace hx185_6 := (HB.out.cell (World.block_lt_of_cell? w _ hx185_6)).trans hx185_6
              have HR185_0 := Aside0.mk hi185_0
              have HC185_0 := Aside0.mk hl185_0
              clear hi185_0 hl185_0
              have HR185_1 := Aside0.mk hi185_1
              have HC185_1 := Aside0.mk hl185_1
              clear hi185_1 hl185_1
              have HR185_2 := Aside0.mk hi185_2
              have HC185_2 := Aside0.mk hl185_2
              clear hi185_2 hl185_2
              replace p185 := eq_true p185
              replace q185 := eq_true q185
              go_wp2_with (first | ((with_reducible refine gate_dst (N := 8) rfl ?_); refine box_event ?hg (N := 8) ?hd (cs := #[.slice none 0 0, .slice none 0 0, .slice none 0 0, .int .i64 0, .int .i64 0, .bool false, .bool false]) (t := 49) ?hr ?_; (case hd => rfl); (case hg => rfl); (case hr => first | (go_simp; done) | (go_simp; rfl)); intro gb186 hg w8 hbox hb; have n0_ := Aside0.mk (Kd.R_below (by (with_reducible repeat (first | apply Kd.R_alloc | apply Kd.R_drewN | apply Kd.R_drew)); exact HO_5.out) hb); have n1_ := Aside0.mk (below_step (by repeat (first | (with_reducible first | exact HB.out | apply below_alloc | apply pw_below_drewN | apply below_drew1) | exact HB.out)) hb); have n2_ := Aside0.mk (hbox); have n3_ := Aside0.mk ((by rw [hg]; exact (below_size (by repeat (first | (with_reducible first | exact HB.out | apply below_alloc | apply pw_below_drewN | apply below_drew1) | exact HB.out))) : w.heap.size ≤ gb186)); have n4_ := Aside0.mk ((by rw [hg]; exact (below_size (by repeat (first | (with_reducible first | exact HB.out | apply below_alloc | apply pw_below_drewN | apply below_drew1) | exact HB.out))) : w.heap.size ≤ gb186)); clear HO_5; clear HB; have HO_5 := n0_; have HB := n1_; have BK186 := n2_; have GW186 := n3_; have GE186 := n4_; clear n0_ n1_ n2_ n3_ n4_; clear hb hbox hg; have hcz9_0 : w8.cell? ⟨gb186, 0, none⟩ = some (.slice none 0 0) := (blk_cell BK186.out 0).trans rfl; have hcz9_1 : w8.cell? ⟨gb186, 1, none⟩ = some (.slice none 0 0) := (blk_cell BK186.out 1).trans rfl; have hcz9_2 : w8.cell? ⟨gb186, 2, none⟩ = some (.slice none 0 0) := (blk_cell BK186.out 2).trans rfl; have hcz9_3 : w8.cell? ⟨gb186, 3, none⟩ = some (.int .i64 0) := (blk_cell BK186.out 3).trans rfl; have hcz9_4 : w8.cell? ⟨gb186, 4, none⟩ = some (.int .i64 0) := (blk_cell BK186.out 4).trans rfl; have hcz9_5 : w8.cell? ⟨gb186, 5, none⟩ = some (.bool false) := (blk_cell BK186.out 5).trans rfl; have hcz9_6 : w8.cell? ⟨gb186, 6, none⟩ = some (.bool false) := (blk_cell BK186.out 6).trans rfl; have hfz9_0 := blk_frozen BK186.out 0; have hfz9_1 := blk_frozen BK186.out 1; have hfz9_2 := blk_frozen BK186.out 2; have hfz9_3 := blk_frozen BK186.out 3; have hfz9_4 := blk_frozen BK186.out 4; have hfz9_5 := blk_frozen BK186.out 5; have hfz9_6 := blk_frozen BK186.out 6) | ((with_reducible refine gate_builtin (b := .append) (xs := #[.tmp 24, .tmp 26]) rfl ?_); at_builtin; refine Kd.R_append k43 (w0 := w) w.heap.size rfl (.tmp 24) (.tmp 26) 22 43 (.agg #[(.int .i64 0), (.int .i64 0), (.int .i64 0), (.int .i64 0)]) 32 rfl Try.underlying22 info43 rfl (by decide) (by omega) u5 x5_1 (⟨3, 0, 0, (-10000)⟩ : S43) [.int .i64 3, .int .i64 0, .int .i64 0, .int .i64 (-10000)] (fun _ => True) (fun _ => False) rfl (by first | (go_simp; done) | (go_simp; rfl)) ?aP (fun _ hk => hk.elim) ?aF ?aO ?aB ?aS ?aL ?_; (case aP => exact k43_mkM _ _ _ (⟨3, 0, 0, (-10000)⟩ : S43)); (case aB => exact (by repeat (first | (with_reducible first | exact HB.out | apply below_alloc | apply pw_below_drewN | apply below_drew1 | refine below_set ?_ GE186.out) | exact HB.out))); (case aF => exact (fun _ _ => trivial)); (case aO => exact (by (with_reducible repeat (first | apply Kd.R_alloc | apply Kd.R_drewN | apply Kd.R_drew)); exact Kd.R_mono (Kd.R_far (p := ⟨gb186, 6, none⟩) (Kd.R_far (p := ⟨gb186, 5, none⟩) (Kd.R_far (p := ⟨gb186, 4, none⟩) (Kd.R_far (p := ⟨gb186, 3, none⟩) (Kd.R_far (p := ⟨gb186, 2, none⟩) (Kd.R_far (p := ⟨gb186, 1, none⟩) (Kd.R_far (p := ⟨gb186, 0, none⟩) (Kd.R_types HO_5.out BK186.out (by decide)) (fun _ hk => hk.2) (.slice A185_0 ((rd_T49 l0 x7_1).f0).length c185_0)) (fun _ hk => hk.2) (.slice A185_1 ((rd_T49 l0 x7_1).f1).length c185_1)) (fun _ hk => hk.2) (.slice A185_2 ((rd_T49 l0 x7_1).f2).length c185_2)) (fun _ hk => hk.2) (.int .i64 ((rd_T49 l0 x7_1).f3))) (fun _ hk => hk.2) (.int .i64 ((rd_T49 l0 x7_1).f4))) (fun _ hk => hk.2) (.bool ((rd_T49 l0 x7_1).f5))) (fun _ hk => hk.2) (.bool true)) (fun _ hk => trivial))); (case aS => exact (below_size (by repeat (first | (with_reducible first | exact HB.out | apply below_alloc | apply pw_below_drewN | apply below_drew1 | refine below_set ?_ GE186.out) | exact HB.out)))); (case aL => have := LMc7.out; omega); intro v188 w10 ho hb hg hat; rw [← Ny187.out] at ho; have n0_ := Aside0.mk (blk_grown (g := gb186) (o := .cells #[.slice A185_0 ((rd_T49 l0 x7_1).f0).length c185_0, .slice A185_1 ((rd_T49 l0 x7_1).f1).length c185_1, .slice A185_2 ((rd_T49 l0 x7_1).f2).length c185_2, .int .i64 ((rd_T49 l0 x7_1).f3), .int .i64 ((rd_T49 l0 x7_1).f4), .bool ((rd_T49 l0 x7_1).f5), .bool true] 49 (0, 0)) (by (with_reducible repeat (first | refine blk_drewN ?_ _ | refine blk_drew ?_ | refine blk_alloc ?_ _)); refine blk_put (cs := #[.slice A185_0 ((rd_T49 l0 x7_1).f0).length c185_0, .slice A185_1 ((rd_T49 l0 x7_1).f1).length c185_1, .slice A185_2 ((rd_T49 l0 x7_1).f2).length c185_2, .int .i64 ((rd_T49 l0 x7_1).f3), .int .i64 ((rd_T49 l0 x7_1).f4), .bool ((rd_T49 l0 x7_1).f5), .bool false]) ?_ 6 _ rfl; (with_reducible repeat (first | refine blk_drewN ?_ _ | refine blk_drew ?_ | refine blk_alloc ?_ _)); refine blk_put (cs := #[.slice A185_0 ((rd_T49 l0 x7_1).f0).length c185_0, .slice A185_1 ((rd_T49 l0 x7_1).f1).length c185_1, .slice A185_2 ((rd_T49 l0 x7_1).f2).length c185_2, .int .i64 ((rd_T49 l0 x7_1).f3), .int .i64 ((rd_T49 l0 x7_1).f4), .bool false, .bool false]) ?_ 5 _ rfl; (with_reducible repeat (first | refine blk_drewN ?_ _ | refine blk_drew ?_ | refine blk_alloc ?_ _)); refine blk_put (cs := #[.slice A185_0 ((rd_T49 l0 x7_1).f0).length c185_0, .slice A185_1 ((rd_T49 l0 x7_1).f1).length c185_1, .slice A185_2 ((rd_T49 l0 x7_1).f2).length c185_2, .int .i64 ((rd_T49 l0 x7_1).f3), .int .i64 0, .bool false, .bool false]) ?_ 4 _ rfl; (with_reducible repeat (first | refine blk_drewN ?_ _ | refine blk_drew ?_ | refine blk_alloc ?_ _)); refine blk_put (cs := #[.slice A185_0 ((rd_T49 l0 x7_1).f0).length c185_0, .slice A185_1 ((rd_T49 l0 x7_1).f1).length c185_1, .slice A185_2 ((rd_T49 l0 x7_1).f2).length c185_2, .int .i64 0, .int .i64 0, .bool false, .bool false]) ?_ 3 _ rfl; (with_reducible repeat (first | refine blk_drewN ?_ _ | refine blk_drew ?_ | refine blk_alloc ?_ _)); refine blk_put (cs := #[.slice A185_0 ((rd_T49 l0 x7_1).f0).length c185_0, .slice A185_1 ((rd_T49 l0 x7_1).f1).length c185_1, .slice none 0 0, .int .i64 0, .int .i64 0, .bool false, .bool false]) ?_ 2 _ rfl; (with_reducible repeat (first | refine blk_drewN ?_ _ | refine blk_drew ?_ | refine blk_alloc ?_ _)); refine blk_put (cs := #[.slice A185_0 ((rd_T49 l0 x7_1).f0).length c185_0, .slice none 0 0, .slice none 0 0, .int .i64 0, .int .i64 0, .bool false, .bool false]) ?_ 1 _ rfl; (with_reducible repeat (first | refine blk_drewN ?_ _ | refine blk_drew ?_ | refine blk_alloc ?_ _)); refine blk_put (cs := #[.slice none 0 0, .slice none 0 0, .slice none 0 0, .int .i64 0, .int .i64 0, .bool false, .bool false]) ?_ 0 _ rfl; (with_reducible repeat (first | refine blk_drewN ?_ _ | refine blk_drew ?_ | refine blk_alloc ?_ _)); exact BK186.out) hg (Kd.R_ne HO_5.out BK186.out (by decide))); have n1_ := Aside0.mk (hb); have n2_ := Aside0.mk (ho); clear BK186; clear HB; clear HO_5; have BK186 := n0_; have HB := n1_; have HO189 := n2_; clear n0_ n1_ n2_; clear ho hb hg hat))
              go_roundg k1
              case measure => have := HK1.out; omega
              case rel => exact ⟨(y187), ((-1)), (wrap64 (x7_1 + 1)), (by first | rfl | (simp; done) | (simp [*]; done)), (by first | rfl | (simp; done) | (simp [*]; done)), H', ⟨by have := HK1.out; omega⟩, ⟨by (with_reducible repeat (first | apply Kd.R_alloc | apply Kd.R_drewN | apply Kd.R_drew)); exact HO189.out⟩, ⟨by repeat (first | (with_reducible first | exact HB.out | apply below_alloc | apply pw_below_drewN | apply below_drew1 | refine below_set ?_ GE186.out) | exact HB.out)⟩⟩
            · rw [if_neg c7] at H
              exact absurd H (by simp)
          · replace c6 := Bool.eq_false_iff.mpr c6
            subst c6
            have H1 : (if (((rd_T49 l0 x7_1).f0).length : Int) = 0 then (colophonref27_Flow.l0 k1 l0 a1 x5_1 x6_1 (wrap64 (x7_1 + 1))) else (if x6_1 ≥ 0 then (if 0 ≤ x6_1 then (if x6_1 < (l0.length : Int) then (if (rd_T49 l0 x6_1).f5 = true then (if x5_1.length < 4398046511104 then (colophonref27_Flow.j1 k1 l0 a1 (x5_1 ++ [(⟨3, 0, 0, a1⟩ : S43)]) x7_1 (mx ((rd_T49 l0 x7_1).f3) ((rd_T49 l0 x6_1).f4)) ((rd_T49 l0 x7_1).f0) ((rd_T49 l0 x7_1).f1) ((rd_T49 l0 x7_1).f2) ((rd_T49 l0 x7_1).f3) ((rd_T49 l0 x7_1).f4) ((rd_T49 l0 x7_1).f5) false) else (none)) else (if x5_1.length < 4398046511104 then (colophonref27_Flow.j1 k1 l0 a1 (x5_1 ++ [(⟨3, 0, 0, 0⟩ : S43)]) x7_1 (mx ((rd_T49 l0 x7_1).f3) ((rd_T49 l0 x6_1).f4)) ((rd_T49 l0 x7_1).f0) ((rd_T49 l0 x7_1).f1) ((rd_T49 l0 x7_1).f2) ((rd_T49 l0 x7_1).f3) ((rd_T49 l0 x7_1).f4) ((rd_T49 l0 x7_1).f5) false) else (none))) else (none)) else (none)) else (colophonref27_Flow.j1 k1 l0 a1 x5_1 x7_1 ((rd_T49 l0 x7_1).f3) ((rd_T49 l0 x7_1).f0) ((rd_T49 l0 x7_1).f1) ((rd_T49 l0 x7_1).f2) ((rd_T49 l0 x7_1).f3) ((rd_T49 l0 x7_1).f4) ((rd_T49 l0 x7_1).f5) false))) = some r := by rw [if_neg (show ¬ (false = true) by decide)] at H; exact H
            clear H
            have H := H1
            clear H1
            by_cases c11 : (((rd_T49 l0 x7_1).f0).length : Int) = 0
            · rw [if_pos c11] at H
              have c11b0 : ((((rd_T49 l0 x7_1).f0).length : Int) == 0) = true := beq_iff_eq.mpr c11
              have c11b1 : ((((rd_T49 l0 x7_1).f0).length : Int) != 0) = false := bne_eq_false_iff_eq.mpr c11
              clear c11
              have H' := Aside0.mk H
              clear H
              have p185 : 0 ≤ (x7_1 : Int) := of_decide_eq_true (by first | (with_reducible assumption) | assumption)
              have q185 : x7_1 < (l0.length : Int) := of_decide_eq_true (by first | (with_reducible assumption) | assumption)
              obtain ⟨ad185, A185_0, c185_0, A185_1, c185_1, A185_2, c185_2, e185, hx185_0, hx185_1, hx185_2, hx185_3, hx185_4, hx185_5, hx185_6, hl185_0, hi185_0, hl185_1, hi185_1, hl185_2, hi185_2⟩ := at_T49 HR0.out x7_1 p185 q185
              (try rw [← Nbq5.out] at hx185_5)
              (try rw [← Nbq5.out] at hx185_6)
              cases e185
              replace hx185_0 := (HB.out.cell (World.block_lt_of_cell? w _ hx185_0)).trans hx185_0
              replace hx185_1 := (HB.out.cell (World.block_lt_of_cell? w _ hx185_1)).trans hx185_1
              replace hx185_2 := (HB.out.cell (World.block_lt_of_cell? w _ hx185_2)).trans hx185_2
              replace hx185_3 := (HB.out.cell (World.block_lt_of_cell? w _ hx185_3)).trans hx185_3
              replace hx185_4 := (HB.out.cell (World.block_lt_of_cell? w _ hx185_4)).trans hx185_4
              replace hx185_5 := (HB.out.cell (World.block_lt_of_cell? w _ hx185_5)).trans hx185_5
              replace hx185_6 := (HB.out.cell (World.block_lt_of_cell? w _ hx185_6)).trans hx185_6
              have HR185_0 := Aside0.mk hi185_0
              have HC185_0 := Aside0.mk hl185_0
              clear hi185_0 hl185_0
              have HR185_1 := Aside0.mk hi185_1
              have HC185_1 := Aside0.mk hl185_1
              clear hi185_1 hl185_1
              have HR185_2 := Aside0.mk hi185_2
              have HC185_2 := Aside0.mk hl185_2
              clear hi185_2 hl185_2
              replace p185 := eq_true p185
              replace q185 := eq_true q185
              go_wp2_with (first | ((with_reducible refine gate_dst (N := 8) rfl ?_); refine box_event ?hg (N := 8) ?hd (cs := #[.slice none 0 0, .slice none 0 0, .slice none 0 0, .int .i64 0, .int .i64 0, .bool false, .bool false]) (t := 49) ?hr ?_; (case hd => rfl); (case hg => rfl); (case hr => first | (go_simp; done) | (go_simp; rfl)); intro gb186 hg w12 hbox hb; have n0_ := Aside0.mk (Kd.R_below (by (with_reducible repeat (first | apply Kd.R_alloc | apply Kd.R_drewN | apply Kd.R_drew)); exact HO_5.out) hb); have n1_ := Aside0.mk (below_step (by repeat (first | (with_reducible first | exact HB.out | apply below_alloc | apply pw_below_drewN | apply below_drew1) | exact HB.out)) hb); have n2_ := Aside0.mk (hbox); have n3_ := Aside0.mk ((by rw [hg]; exact (below_size (by repeat (first | (with_reducible first | exact HB.out | apply below_alloc | apply pw_below_drewN | apply below_drew1) | exact HB.out))) : w.heap.size ≤ gb186)); have n4_ := Aside0.mk ((by rw [hg]; exact (below_size (by repeat (first | (with_reducible first | exact HB.out | apply below_alloc | apply pw_below_drewN | apply below_drew1) | exact HB.out))) : w.heap.size ≤ gb186)); clear HO_5; clear HB; have HO_5 := n0_; have HB := n1_; have BK186 := n2_; have GW186 := n3_; have GE186 := n4_; clear n0_ n1_ n2_ n3_ n4_; clear hb hbox hg; have hcz13_0 : w12.cell? ⟨gb186, 0, none⟩ = some (.slice none 0 0) := (blk_cell BK186.out 0).trans rfl; have hcz13_1 : w12.cell? ⟨gb186, 1, none⟩ = some (.slice none 0 0) := (blk_cell BK186.out 1).trans rfl; have hcz13_2 : w12.cell? ⟨gb186, 2, none⟩ = some (.slice none 0 0) := (blk_cell BK186.out 2).trans rfl; have hcz13_3 : w12.cell? ⟨gb186, 3, none⟩ = some (.int .i64 0) := (blk_cell BK186.out 3).trans rfl; have hcz13_4 : w12.cell? ⟨gb186, 4, none⟩ = some (.int .i64 0) := (blk_cell BK186.out 4).trans rfl; have hcz13_5 : w12.cell? ⟨gb186, 5, none⟩ = some (.bool false) := (blk_cell BK186.out 5).trans rfl; have hcz13_6 : w12.cell? ⟨gb186, 6, none⟩ = some (.bool false) := (blk_cell BK186.out 6).trans rfl; have hfz13_0 := blk_frozen BK186.out 0; have hfz13_1 := blk_frozen BK186.out 1; have hfz13_2 := blk_frozen BK186.out 2; have hfz13_3 := blk_frozen BK186.out 3; have hfz13_4 := blk_frozen BK186.out 4; have hfz13_5 := blk_frozen BK186.out 5; have hfz13_6 := blk_frozen BK186.out 6))
              go_roundg k1
              case measure => have := HK1.out; omega
              case rel => exact ⟨(x5_1), (x6_1), (wrap64 (x7_1 + 1)), (by first | rfl | (simp; done) | (simp [*]; done)), (by first | rfl | (simp; done) | (simp [*]; done)), H', ⟨by have := HK1.out; omega⟩, ⟨by (with_reducible repeat (first | apply Kd.R_alloc | apply Kd.R_drewN | apply Kd.R_drew)); exact Kd.R_mono (Kd.R_far (p := ⟨gb186, 6, none⟩) (Kd.R_far (p := ⟨gb186, 5, none⟩) (Kd.R_far (p := ⟨gb186, 4, none⟩) (Kd.R_far (p := ⟨gb186, 3, none⟩) (Kd.R_far (p := ⟨gb186, 2, none⟩) (Kd.R_far (p := ⟨gb186, 1, none⟩) (Kd.R_far (p := ⟨gb186, 0, none⟩) (Kd.R_types HO_5.out BK186.out (by decide)) (fun _ hk => hk.2) (.slice A185_0 ((rd_T49 l0 x7_1).f0).length c185_0)) (fun _ hk => hk.2) (.slice A185_1 ((rd_T49 l0 x7_1).f1).length c185_1)) (fun _ hk => hk.2) (.slice A185_2 ((rd_T49 l0 x7_1).f2).length c185_2)) (fun _ hk => hk.2) (.int .i64 ((rd_T49 l0 x7_1).f3))) (fun _ hk => hk.2) (.int .i64 ((rd_T49 l0 x7_1).f4))) (fun _ hk => hk.2) (.bool ((rd_T49 l0 x7_1).f5))) (fun _ hk => hk.2) (.bool false)) (fun _ hk => trivial)⟩, ⟨by repeat (first | (with_reducible first | exact HB.out | apply below_alloc | apply pw_below_drewN | apply below_drew1 | refine below_set ?_ GE186.out) | exact HB.out)⟩⟩
            · rw [if_neg c11] at H
              have c11b0 : ((((rd_T49 l0 x7_1).f0).length : Int) == 0) = false := beq_eq_false_iff_ne.mpr c11
              have c11b1 : ((((rd_T49 l0 x7_1).f0).length : Int) != 0) = true := bne_iff_ne.mpr c11
              have c11b2 : ¬ (((rd_T49 l0 x7_1).f0) = []) := fun h_ => c11 (by rw [h_]; rfl)
              have HC14 := Aside0.mk H
              clear H
              have p185 : 0 ≤ (x7_1 : Int) := of_decide_eq_true (by first | (with_reducible assumption) | assumption)
              have q185 : x7_1 < (l0.length : Int) := of_decide_eq_true (by first | (with_reducible assumption) | assumption)
              obtain ⟨ad185, A185_0, c185_0, A185_1, c185_1, A185_2, c185_2, e185, hx185_0, hx185_1, hx185_2, hx185_3, hx185_4, hx185_5, hx185_6, hl185_0, hi185_0, hl185_1, hi185_1, hl185_2, hi185_2⟩ := at_T49 HR0.out x7_1 p185 q185
              (try rw [← Nbq5.out] at hx185_5)
              (try rw [← Nbq5.out] at hx185_6)
              cases e185
              replace hx185_0 := (HB.out.cell (World.block_lt_of_cell? w _ hx185_0)).trans hx185_0
              replace hx185_1 := (HB.out.cell (World.block_lt_of_cell? w _ hx185_1)).trans hx185_1
              replace hx185_2 := (HB.out.cell (World.block_lt_of_cell? w _ hx185_2)).trans hx185_2
              replace hx185_3 := (HB.out.cell (World.block_lt_of_cell? w _ hx185_3)).trans hx185_3
              replace hx185_4 := (HB.out.cell (World.block_lt_of_cell? w _ hx185_4)).trans hx185_4
              replace hx185_5 := (HB.out.cell (World.block_lt_of_cell? w _ hx185_5)).trans hx185_5
              replace hx185_6 := (HB.out.cell (World.block_lt_of_cell? w _ hx185_6)).trans hx185_6
              have HR185_0 := Aside0.mk hi185_0
              have HC185_0 := Aside0.mk hl185_0
              clear hi185_0 hl185_0
              have HR185_1 := Aside0.mk hi185_1
              have HC185_1 := Aside0.mk hl185_1
              clear hi185_1 hl185_1
              have HR185_2 := Aside0.mk hi185_2
              have HC185_2 := Aside0.mk hl185_2
              clear hi185_2 hl185_2
              replace p185 := eq_true p185
              replace q185 := eq_true q185
              go_upto_if 35 with (first | ((with_reducible refine gate_dst (N := 8) rfl ?_); refine box_event ?hg (N := 8) ?hd (cs := #[.slice none 0 0, .slice none 0 0, .slice none 0 0, .int .i64 0, .int .i64 0, .bool false, .bool false]) (t := 49) ?hr ?_; (case hd => rfl); (case hg => rfl); (case hr => first | (go_simp; done) | (go_simp; rfl)); intro gb186 hg w15 hbox hb; have n0_ := Aside0.mk (Kd.R_below (by (with_reducible repeat (first | apply Kd.R_alloc | apply Kd.R_drewN | apply Kd.R_drew)); exact HO_5.out) hb); have n1_ := Aside0.mk (below_step (by repeat (first | (with_reducible first | exact HB.out | apply below_alloc | apply pw_below_drewN | apply below_drew1) | exact HB.out)) hb); have n2_ := Aside0.mk (hbox); have n3_ := Aside0.mk ((by rw [hg]; exact (below_size (by repeat (first | (with_reducible first | exact HB.out | apply below_alloc | apply pw_below_drewN | apply below_drew1) | exact HB.out))) : w.heap.size ≤ gb186)); have n4_ := Aside0.mk ((by rw [hg]; exact (below_size (by repeat (first | (with_reducible first | exact HB.out | apply below_alloc | apply pw_below_drewN | apply below_drew1) | exact HB.out))) : w.heap.size ≤ gb186)); clear HO_5; clear HB; have HO_5 := n0_; have HB := n1_; have BK186 := n2_; have GW186 := n3_; have GE186 := n4_; clear n0_ n1_ n2_ n3_ n4_; clear hb hbox hg; have hcz16_0 : w15.cell? ⟨gb186, 0, none⟩ = some (.slice none 0 0) := (blk_cell BK186.out 0).trans rfl; have hcz16_1 : w15.cell? ⟨gb186, 1, none⟩ = some (.slice none 0 0) := (blk_cell BK186.out 1).trans rfl; have hcz16_2 : w15.cell? ⟨gb186, 2, none⟩ = some (.slice none 0 0) := (blk_cell BK186.out 2).trans rfl; have hcz16_3 : w15.cell? ⟨gb186, 3, none⟩ = some (.int .i64 0) := (blk_cell BK186.out 3).trans rfl; have hcz16_4 : w15.cell? ⟨gb186, 4, none⟩ = some (.int .i64 0) := (blk_cell BK186.out 4).trans rfl; have hcz16_5 : w15.cell? ⟨gb186, 5, none⟩ = some (.bool false) := (blk_cell BK186.out 5).trans rfl; have hcz16_6 : w15.cell? ⟨gb186, 6, none⟩ = some (.bool false) := (blk_cell BK186.out 6).trans rfl; have hfz16_0 := blk_frozen BK186.out 0; have hfz16_1 := blk_frozen BK186.out 1; have hfz16_2 := blk_frozen BK186.out 2; have hfz16_3 := blk_frozen BK186.out 3; have hfz16_4 := blk_frozen BK186.out 4; have hfz16_5 := blk_frozen BK186.out 5; have hfz16_6 := blk_frozen BK186.out 6))
              (try simp only [Act.put, List.setIfInBounds_toArray, List.set_cons_zero, List.set_cons_succ])
              go_cut [5, 9] (fun v5 v9 wc => ∃ (kq : Nat) (x5_13 : List (S43)) (x9_13 : Int), v9 = .int .i64 x9_13 ∧ Aside0 (colophonref27_Flow.j1 kq l0 a1 x5_13 x7_1 x9_13 ((rd_T49 l0 x7_1).f0) ((rd_T49 l0 x7_1).f1) ((rd_T49 l0 x7_1).f2) ((rd_T49 l0 x7_1).f3) ((rd_T49 l0 x7_1).f4) ((rd_T49 l0 x7_1).f5) false = some r) ∧ Aside0 (kq ≤ k1) ∧ Aside0 (Kd.R k43 43 wc w.heap.size (fun _ => True) v5 x5_13) ∧ Aside0 (wc.heap[gb186]? = some (.cells #[(.slice A185_0 ((rd_T49 l0 x7_1).f0).length c185_0), (.slice A185_1 ((rd_T49 l0 x7_1).f1).length c185_1), (.slice A185_2 ((rd_T49 l0 x7_1).f2).length c185_2), .int .i64 ((rd_T49 l0 x7_1).f3), .int .i64 ((rd_T49 l0 x7_1).f4), .bool ((rd_T49 l0 x7_1).f5), .bool false] 49 (0, 0))) ∧ Aside0 (Below w.heap.size w wc))
              case first =>
                have H := HC14.out
                clear HC14
                by_cases c17 : x6_1 ≥ 0
                · rw [if_pos c17] at H
                  have c17b0 : decide (0 ≤ x6_1) = true := decide_eq_true c17
                  clear c17
                  (first | rw [c17b0] | (simp only [i64_w, i32_w]; rw [c17b0]) | skip)
                  by_cases c18 : 0 ≤ x6_1
                  · rw [if_pos c18] at H
                    have c18b0 : decide (0 ≤ x6_1) = true := decide_eq_true c18
                    clear c18
                    by_cases c19 : x6_1 < (l0.length : Int)
                    · rw [if_pos c19] at H
                      have c19b0 : decide (x6_1 < (l0.length : Int)) = true := decide_eq_true c19
                      clear c19
                      obtain ⟨bq20, hbq20⟩ : ∃ b_ : Bool, b_ = ((rd_T49 l0 x6_1).f5) := ⟨_, rfl⟩
                      replace H : (if bq20 = true then (if x5_1.length < 4398046511104 then (colophonref27_Flow.j1 k1 l0 a1 (x5_1 ++ [(⟨3, 0, 0, a1⟩ : S43)]) x7_1 (mx ((rd_T49 l0 x7_1).f3) ((rd_T49 l0 x6_1).f4)) ((rd_T49 l0 x7_1).f0) ((rd_T49 l0 x7_1).f1) ((rd_T49 l0 x7_1).f2) ((rd_T49 l0 x7_1).f3) ((rd_T49 l0 x7_1).f4) ((rd_T49 l0 x7_1).f5) false) else (none)) else (if x5_1.length < 4398046511104 then (colophonref27_Flow.j1 k1 l0 a1 (x5_1 ++ [(⟨3, 0, 0, 0⟩ : S43)]) x7_1 (mx ((rd_T49 l0 x7_1).f3) ((rd_T49 l0 x6_1).f4)) ((rd_T49 l0 x7_1).f0) ((rd_T49 l0 x7_1).f1) ((rd_T49 l0 x7_1).f2) ((rd_T49 l0 x7_1).f3) ((rd_T49 l0 x7_1).f4) ((rd_T49 l0 x7_1).f5) false) else (none))) = some r := by rw [← hbq20] at H; exact H
                      have Nbq20 := Aside0.mk hbq20
                      clear hbq20
                      by_cases c21 : bq20 = true
                      · subst c21
                        have H1 : (if x5_1.length < 4398046511104 then (colophonref27_Flow.j1 k1 l0 a1 (x5_1 ++ [(⟨3, 0, 0, a1⟩ : S43)]) x7_1 (mx ((rd_T49 l0 x7_1).f3) ((rd_T49 l0 x6_1).f4)) ((rd_T49 l0 x7_1).f0) ((rd_T49 l0 x7_1).f1) ((rd_T49 l0 x7_1).f2) ((rd_T49 l0 x7_1).f3) ((rd_T49 l0 x7_1).f4) ((rd_T49 l0 x7_1).f5) false) else (none)) = some r := by rw [if_pos rfl] at H; exact H
                        clear H
                        have H := H1
                        clear H1
                        by_cases c22 : x5_1.length < 4398046511104
                        · rw [if_pos c22] at H
                          have LMc22 := Aside0.mk c22
                          clear c22
                          obtain ⟨y191, hy191⟩ : ∃ y_ : List (S43), y_ = (x5_1 ++ [(⟨3, 0, 0, a1⟩ : S43)]) := ⟨_, rfl⟩
                          replace H : (colophonref27_Flow.j1 k1 l0 a1 y191 x7_1 (mx ((rd_T49 l0 x7_1).f3) ((rd_T49 l0 x6_1).f4)) ((rd_T49 l0 x7_1).f0) ((rd_T49 l0 x7_1).f1) ((rd_T49 l0 x7_1).f2) ((rd_T49 l0 x7_1).f3) ((rd_T49 l0 x7_1).f4) ((rd_T49 l0 x7_1).f5) false) = some r := by first | (rw [hy191]; with_reducible exact H) | (have H2_ := (Option.bind_some _ _).symm.trans H; rw [hy191]; with_reducible exact H2_) | (have H2_ := (Option.bind_some _ _).symm.trans H; with_reducible exact H2_) | with_reducible exact H | (rw [hy191]; exact H) | exact H
                          have Ny191 := Aside0.mk hy191
                          clear hy191
                          obtain ⟨ji23, hji23⟩ : ∃ j_ : Int, (mx ((rd_T49 l0 x7_1).f3) ((rd_T49 l0 x6_1).f4)) = j_ := ⟨_, rfl⟩
                          replace H : (colophonref27_Flow.j1 k1 l0 a1 y191 x7_1 ji23 ((rd_T49 l0 x7_1).f0) ((rd_T49 l0 x7_1).f1) ((rd_T49 l0 x7_1).f2) ((rd_T49 l0 x7_1).f3) ((rd_T49 l0 x7_1).f4) ((rd_T49 l0 x7_1).f5) false) = some r := by first | (rw [hji23] at H; exact H) | (simp only [hji23] at H ⊢; exact H)
                          have hji23_ : (if ((rd_T49 l0 x7_1).f3) < ((rd_T49 l0 x6_1).f4) then ((rd_T49 l0 x6_1).f4) else ((rd_T49 l0 x7_1).f3)) = ji23 := hji23
                          have H' := Aside0.mk H
                          clear H
                          have p190 : 0 ≤ (x6_1 : Int) := of_decide_eq_true (by first | (with_reducible assumption) | assumption)
                          have q190 : x6_1 < (l0.length : Int) := of_decide_eq_true (by first | (with_reducible assumption) | assumption)
                          obtain ⟨ad190, A190_0, c190_0, A190_1, c190_1, A190_2, c190_2, e190, hx190_0, hx190_1, hx190_2, hx190_3, hx190_4, hx190_5, hx190_6, hl190_0, hi190_0, hl190_1, hi190_1, hl190_2, hi190_2⟩ := at_T49 HR0.out x6_1 p190 q190
                          (try rw [← Nbq5.out] at hx190_5)
                          (try rw [← Nbq20.out] at hx190_5)
                          (try rw [← Nbq5.out] at hx190_6)
                          (try rw [← Nbq20.out] at hx190_6)
                          obtain rfl : ad185 = ad190 := (by injection e190)
                          have hn190_0 : ad185.block ≠ gb186 := Nat.ne_of_lt (Nat.lt_of_lt_of_le (by have := World.block_lt_of_cell? _ _ hx190_0; first | rwa [add_block] at this | exact this) GW186.out)
                          have hn190_1 : ad185.block ≠ gb186 := Nat.ne_of_lt (Nat.lt_of_lt_of_le (by have := World.block_lt_of_cell? _ _ hx190_0; first | rwa [add_block] at this | exact this) GW186.out)
                          have hn190_2 : ad185.block ≠ gb186 := Nat.ne_of_lt (Nat.lt_of_lt_of_le (by have := World.block_lt_of_cell? _ _ hx190_0; first | rwa [add_block] at this | exact this) GW186.out)
                          have hn190_3 : ad185.block ≠ gb186 := Nat.ne_of_lt (Nat.lt_of_lt_of_le (by have := World.block_lt_of_cell? _ _ hx190_0; first | rwa [add_block] at this | exact this) GW186.out)
                          have hn190_4 : ad185.block ≠ gb186 := Nat.ne_of_lt (Nat.lt_of_lt_of_le (by have := World.block_lt_of_cell? _ _ hx190_0; first | rwa [add_block] at this | exact this) GW186.out)
                          have hn190_5 : ad185.block ≠ gb186 := Nat.ne_of_lt (Nat.lt_of_lt_of_le (by have := World.block_lt_of_cell? _ _ hx190_0; first | rwa [add_block] at this | exact this) GW186.out)
                          have hn190_6 : ad185.block ≠ gb186 := Nat.ne_of_lt (Nat.lt_of_lt_of_le (by have := World.block_lt_of_cell? _ _ hx190_0; first | rwa [add_block] at this | exact this) GW186.out)
                          replace hx190_0 := (HB.out.cell (World.block_lt_of_cell? w _ hx190_0)).trans hx190_0
                          replace hx190_1 := (HB.out.cell (World.block_lt_of_cell? w _ hx190_1)).trans hx190_1
                          replace hx190_2 := (HB.out.cell (World.block_lt_of_cell? w _ hx190_2)).trans hx190_2
                          replace hx190_3 := (HB.out.cell (World.block_lt_of_cell? w _ hx190_3)).trans hx190_3
                          replace hx190_4 := (HB.out.cell (World.block_lt_of_cell? w _ hx190_4)).trans hx190_4
                          replace hx190_5 := (HB.out.cell (World.block_lt_of_cell? w _ hx190_5)).trans hx190_5
                          replace hx190_6 := (HB.out.cell (World.block_lt_of_cell? w _ hx190_6)).trans hx190_6
                          have HR190_0 := Aside0.mk hi190_0
                          have HC190_0 := Aside0.mk hl190_0
                          clear hi190_0 hl190_0
                          have HR190_1 := Aside0.mk hi190_1
                          have HC190_1 := Aside0.mk hl190_1
                          clear hi190_1 hl190_1
                          have HR190_2 := Aside0.mk hi190_2
                          have HC190_2 := Aside0.mk hl190_2
                          clear hi190_2 hl190_2
                          replace hx190_0 := (cell_far (p := ⟨gb186, 0, none⟩) (by first | (rw [add_block]; exact hn190_0) | (show (Addr.add _ _).block ≠ _; rw [add_block]; exact hn190_0) | exact hn190_0) (.slice A185_0 ((rd_T49 l0 x7_1).f0).length c185_0)).trans hx190_0
                          replace hx190_1 := (cell_far (p := ⟨gb186, 0, none⟩) (by first | (rw [add_block]; exact hn190_0) | (show (Addr.add _ _).block ≠ _; rw [add_block]; exact hn190_0) | exact hn190_0) (.slice A185_0 ((rd_T49 l0 x7_1).f0).length c185_0)).trans hx190_1
                          replace hx190_2 := (cell_far (p := ⟨gb186, 0, none⟩) (by first | (rw [add_block]; exact hn190_0) | (show (Addr.add _ _).block ≠ _; rw [add_block]; exact hn190_0) | exact hn190_0) (.slice A185_0 ((rd_T49 l0 x7_1).f0).length c185_0)).trans hx190_2
                          replace hx190_3 := (cell_far (p := ⟨gb186, 0, none⟩) (by first | (rw [add_block]; exact hn190_0) | (show (Addr.add _ _).block ≠ _; rw [add_block]; exact hn190_0) | exact hn190_0) (.slice A185_0 ((rd_T49 l0 x7_1).f0).length c185_0)).trans hx190_3
                          replace hx190_4 := (cell_far (p := ⟨gb186, 0, none⟩) (by first | (rw [add_block]; exact hn190_0) | (show (Addr.add _ _).block ≠ _; rw [add_block]; exact hn190_0) | exact hn190_0) (.slice A185_0 ((rd_T49 l0 x7_1).f0).length c185_0)).trans hx190_4
                          replace hx190_5 := (cell_far (p := ⟨gb186, 0, none⟩) (by first | (rw [add_block]; exact hn190_0) | (show (Addr.add _ _).block ≠ _; rw [add_block]; exact hn190_0) | exact hn190_0) (.slice A185_0 ((rd_T49 l0 x7_1).f0).length c185_0)).trans hx190_5
                          replace hx190_6 := (cell_far (p := ⟨gb186, 0, none⟩) (by first | (rw [add_block]; exact hn190_0) | (show (Addr.add _ _).block ≠ _; rw [add_block]; exact hn190_0) | exact hn190_0) (.slice A185_0 ((rd_T49 l0 x7_1).f0).length c185_0)).trans hx190_6
                          replace hx190_0 := (cell_far (p := ⟨gb186, 1, none⟩) (by first | (rw [add_block]; exact hn190_1) | (show (Addr.add _ _).block ≠ _; rw [add_block]; exact hn190_1) | exact hn190_1) (.slice A185_1 ((rd_T49 l0 x7_1).f1).length c185_1)).trans hx190_0
                          replace hx190_1 := (cell_far (p := ⟨gb186, 1, none⟩) (by first | (rw [add_block]; exact hn190_1) | (show (Addr.add _ _).block ≠ _; rw [add_block]; exact hn190_1) | exact hn190_1) (.slice A185_1 ((rd_T49 l0 x7_1).f1).length c185_1)).trans hx190_1
                          replace hx190_2 := (cell_far (p := ⟨gb186, 1, none⟩) (by first | (rw [add_block]; exact hn190_1) | (show (Addr.add _ _).block ≠ _; rw [add_block]; exact hn190_1) | exact hn190_1) (.slice A185_1 ((rd_T49 l0 x7_1).f1).length c185_1)).trans hx190_2
                          replace hx190_3 := (cell_far (p := ⟨gb186, 1, none⟩) (by first | (rw [add_block]; exact hn190_1) | (show (Addr.add _ _).block ≠ _; rw [add_block]; exact hn190_1) | exact hn190_1) (.slice A185_1 ((rd_T49 l0 x7_1).f1).length c185_1)).trans hx190_3
                          replace hx190_4 := (cell_far (p := ⟨gb186, 1, none⟩) (by first | (rw [add_block]; exact hn190_1) | (show (Addr.add _ _).block ≠ _; rw [add_block]; exact hn190_1) | exact hn190_1) (.slice A185_1 ((rd_T49 l0 x7_1).f1).length c185_1)).trans hx190_4
                          replace hx190_5 := (cell_far (p := ⟨gb186, 1, none⟩) (by first | (rw [add_block]; exact hn190_1) | (show (Addr.add _ _).block ≠ _; rw [add_block]; exact hn190_1) | exact hn190_1) (.slice A185_1 ((rd_T49 l0 x7_1).f1).length c185_1)).trans hx190_5
                          replace hx190_6 := (cell_far (p := ⟨gb186, 1, none⟩) (by first | (rw [add_block]; exact hn190_1) | (show (Addr.add _ _).block ≠ _; rw [add_block]; exact hn190_1) | exact hn190_1) (.slice A185_1 ((rd_T49 l0 x7_1).f1).length c185_1)).trans hx190_6
                          replace hx190_0 := (cell_far (p := ⟨gb186, 2, none⟩) (by first | (rw [add_block]; exact hn190_2) | (show (Addr.add _ _).block ≠ _; rw [add_block]; exact hn190_2) | exact hn190_2) (.slice A185_2 ((rd_T49 l0 x7_1).f2).length c185_2)).trans hx190_0
                          replace hx190_1 := (cell_far (p := ⟨gb186, 2, none⟩) (by first | (rw [add_block]; exact hn190_2) | (show (Addr.add _ _).block ≠ _; rw [add_block]; exact hn190_2) | exact hn190_2) (.slice A185_2 ((rd_T49 l0 x7_1).f2).length c185_2)).trans hx190_1
                          replace hx190_2 := (cell_far (p := ⟨gb186, 2, none⟩) (by first | (rw [add_block]; exact hn190_2) | (show (Addr.add _ _).block ≠ _; rw [add_block]; exact hn190_2) | exact hn190_2) (.slice A185_2 ((rd_T49 l0 x7_1).f2).length c185_2)).trans hx190_2
                          replace hx190_3 := (cell_far (p := ⟨gb186, 2, none⟩) (by first | (rw [add_block]; exact hn190_2) | (show (Addr.add _ _).block ≠ _; rw [add_block]; exact hn190_2) | exact hn190_2) (.slice A185_2 ((rd_T49 l0 x7_1).f2).length c185_2)).trans hx190_3
                          replace hx190_4 := (cell_far (p := ⟨gb186, 2, none⟩) (by first | (rw [add_block]; exact hn190_2) | (show (Addr.add _ _).block ≠ _; rw [add_block]; exact hn190_2) | exact hn190_2) (.slice A185_2 ((rd_T49 l0 x7_1).f2).length c185_2)).trans hx190_4
                          replace hx190_5 := (cell_far (p := ⟨gb186, 2, none⟩) (by first | (rw [add_block]; exact hn190_2) | (show (Addr.add _ _).block ≠ _; rw [add_block]; exact hn190_2) | exact hn190_2) (.slice A185_2 ((rd_T49 l0 x7_1).f2).length c185_2)).trans hx190_5
                          replace hx190_6 := (cell_far (p := ⟨gb186, 2, none⟩) (by first | (rw [add_block]; exact hn190_2) | (show (Addr.add _ _).block ≠ _; rw [add_block]; exact hn190_2) | exact hn190_2) (.slice A185_2 ((rd_T49 l0 x7_1).f2).length c185_2)).trans hx190_6
                          replace hx190_0 := (cell_far (p := ⟨gb186, 3, none⟩) (by first | (rw [add_block]; exact hn190_3) | (show (Addr.add _ _).block ≠ _; rw [add_block]; exact hn190_3) | exact hn190_3) (.int .i64 ((rd_T49 l0 x7_1).f3))).trans hx190_0
                          replace hx190_1 := (cell_far (p := ⟨gb186, 3, none⟩) (by first | (rw [add_block]; exact hn190_3) | (show (Addr.add _ _).block ≠ _; rw [add_block]; exact hn190_3) | exact hn190_3) (.int .i64 ((rd_T49 l0 x7_1).f3))).trans hx190_1
                          replace hx190_2 := (cell_far (p := ⟨gb186, 3, none⟩) (by first | (rw [add_block]; exact hn190_3) | (show (Addr.add _ _).block ≠ _; rw [add_block]; exact hn190_3) | exact hn190_3) (.int .i64 ((rd_T49 l0 x7_1).f3))).trans hx190_2
                          replace hx190_3 := (cell_far (p := ⟨gb186, 3, none⟩) (by first | (rw [add_block]; exact hn190_3) | (show (Addr.add _ _).block ≠ _; rw [add_block]; exact hn190_3) | exact hn190_3) (.int .i64 ((rd_T49 l0 x7_1).f3))).trans hx190_3
                          replace hx190_4 := (cell_far (p := ⟨gb186, 3, none⟩) (by first | (rw [add_block]; exact hn190_3) | (show (Addr.add _ _).block ≠ _; rw [add_block]; exact hn190_3) | exact hn190_3) (.int .i64 ((rd_T49 l0 x7_1).f3))).trans hx190_4
                          replace hx190_5 := (cell_far (p := ⟨gb186, 3, none⟩) (by first | (rw [add_block]; exact hn190_3) | (show (Addr.add _ _).block ≠ _; rw [add_block]; exact hn190_3) | exact hn190_3) (.int .i64 ((rd_T49 l0 x7_1).f3))).trans hx190_5
                          replace hx190_6 := (cell_far (p := ⟨gb186, 3, none⟩) (by first | (rw [add_block]; exact hn190_3) | (show (Addr.add _ _).block ≠ _; rw [add_block]; exact hn190_3) | exact hn190_3) (.int .i64 ((rd_T49 l0 x7_1).f3))).trans hx190_6
                          replace hx190_0 := (cell_far (p := ⟨gb186, 4, none⟩) (by first | (rw [add_block]; exact hn190_4) | (show (Addr.add _ _).block ≠ _; rw [add_block]; exact hn190_4) | exact hn190_4) (.int .i64 ((rd_T49 l0 x7_1).f4))).trans hx190_0
                          replace hx190_1 := (cell_far (p := ⟨gb186, 4, none⟩) (by first | (rw [add_block]; exact hn190_4) | (show (Addr.add _ _).block ≠ _; rw [add_block]; exact hn190_4) | exact hn190_4) (.int .i64 ((rd_T49 l0 x7_1).f4))).trans hx190_1
                          replace hx190_2 := (cell_far (p := ⟨gb186, 4, none⟩) (by first | (rw [add_block]; exact hn190_4) | (show (Addr.add _ _).block ≠ _; rw [add_block]; exact hn190_4) | exact hn190_4) (.int .i64 ((rd_T49 l0 x7_1).f4))).trans hx190_2
                          replace hx190_3 := (cell_far (p := ⟨gb186, 4, none⟩) (by first | (rw [add_block]; exact hn190_4) | (show (Addr.add _ _).block ≠ _; rw [add_block]; exact hn190_4) | exact hn190_4) (.int .i64 ((rd_T49 l0 x7_1).f4))).trans hx190_3
                          replace hx190_4 := (cell_far (p := ⟨gb186, 4, none⟩) (by first | (rw [add_block]; exact hn190_4) | (show (Addr.add _ _).block ≠ _; rw [add_block]; exact hn190_4) | exact hn190_4) (.int .i64 ((rd_T49 l0 x7_1).f4))).trans hx190_4
                          replace hx190_5 := (cell_far (p := ⟨gb186, 4, none⟩) (by first | (rw [add_block]; exact hn190_4) | (show (Addr.add _ _).block ≠ _; rw [add_block]; exact hn190_4) | exact hn190_4) (.int .i64 ((rd_T49 l0 x7_1).f4))).trans hx190_5
                          replace hx190_6 := (cell_far (p := ⟨gb186, 4, none⟩) (by first | (rw [add_block]; exact hn190_4) | (show (Addr.add _ _).block ≠ _; rw [add_block]; exact hn190_4) | exact hn190_4) (.int .i64 ((rd_T49 l0 x7_1).f4))).trans hx190_6
                          replace hx190_0 := (cell_far (p := ⟨gb186, 5, none⟩) (by first | (rw [add_block]; exact hn190_5) | (show (Addr.add _ _).block ≠ _; rw [add_block]; exact hn190_5) | exact hn190_5) (.bool ((rd_T49 l0 x7_1).f5))).trans hx190_0
                          replace hx190_1 := (cell_far (p := ⟨gb186, 5, none⟩) (by first | (rw [add_block]; exact hn190_5) | (show (Addr.add _ _).block ≠ _; rw [add_block]; exact hn190_5) | exact hn190_5) (.bool ((rd_T49 l0 x7_1).f5))).trans hx190_1
                          replace hx190_2 := (cell_far (p := ⟨gb186, 5, none⟩) (by first | (rw [add_block]; exact hn190_5) | (show (Addr.add _ _).block ≠ _; rw [add_block]; exact hn190_5) | exact hn190_5) (.bool ((rd_T49 l0 x7_1).f5))).trans hx190_2
                          replace hx190_3 := (cell_far (p := ⟨gb186, 5, none⟩) (by first | (rw [add_block]; exact hn190_5) | (show (Addr.add _ _).block ≠ _; rw [add_block]; exact hn190_5) | exact hn190_5) (.bool ((rd_T49 l0 x7_1).f5))).trans hx190_3
                          replace hx190_4 := (cell_far (p := ⟨gb186, 5, none⟩) (by first | (rw [add_block]; exact hn190_5) | (show (Addr.add _ _).block ≠ _; rw [add_block]; exact hn190_5) | exact hn190_5) (.bool ((rd_T49 l0 x7_1).f5))).trans hx190_4
                          replace hx190_5 := (cell_far (p := ⟨gb186, 5, none⟩) (by first | (rw [add_block]; exact hn190_5) | (show (Addr.add _ _).block ≠ _; rw [add_block]; exact hn190_5) | exact hn190_5) (.bool ((rd_T49 l0 x7_1).f5))).trans hx190_5
                          replace hx190_6 := (cell_far (p := ⟨gb186, 5, none⟩) (by first | (rw [add_block]; exact hn190_5) | (show (Addr.add _ _).block ≠ _; rw [add_block]; exact hn190_5) | exact hn190_5) (.bool ((rd_T49 l0 x7_1).f5))).trans hx190_6
                          replace hx190_0 := (cell_far (p := ⟨gb186, 6, none⟩) (by first | (rw [add_block]; exact hn190_6) | (show (Addr.add _ _).block ≠ _; rw [add_block]; exact hn190_6) | exact hn190_6) (.bool false)).trans hx190_0
                          replace hx190_1 := (cell_far (p := ⟨gb186, 6, none⟩) (by first | (rw [add_block]; exact hn190_6) | (show (Addr.add _ _).block ≠ _; rw [add_block]; exact hn190_6) | exact hn190_6) (.bool false)).trans hx190_1
                          replace hx190_2 := (cell_far (p := ⟨gb186, 6, none⟩) (by first | (rw [add_block]; exact hn190_6) | (show (Addr.add _ _).block ≠ _; rw [add_block]; exact hn190_6) | exact hn190_6) (.bool false)).trans hx190_2
                          replace hx190_3 := (cell_far (p := ⟨gb186, 6, none⟩) (by first | (rw [add_block]; exact hn190_6) | (show (Addr.add _ _).block ≠ _; rw [add_block]; exact hn190_6) | exact hn190_6) (.bool false)).trans hx190_3
                          replace hx190_4 := (cell_far (p := ⟨gb186, 6, none⟩) (by first | (rw [add_block]; exact hn190_6) | (show (Addr.add _ _).block ≠ _; rw [add_block]; exact hn190_6) | exact hn190_6) (.bool false)).trans hx190_4
                          replace hx190_5 := (cell_far (p := ⟨gb186, 6, none⟩) (by first | (rw [add_block]; exact hn190_6) | (show (Addr.add _ _).block ≠ _; rw [add_block]; exact hn190_6) | exact hn190_6) (.bool false)).trans hx190_5
                          replace hx190_6 := (cell_far (p := ⟨gb186, 6, none⟩) (by first | (rw [add_block]; exact hn190_6) | (show (Addr.add _ _).block ≠ _; rw [add_block]; exact hn190_6) | exact hn190_6) (.bool false)).trans hx190_6
                          clear hn190_0
                          clear hn190_1
                          clear hn190_2
                          clear hn190_3
                          clear hn190_4
                          clear hn190_5
                          clear hn190_6
                          replace p190 := eq_true p190
                          replace q190 := eq_true q190
                          go_wp2_with (first | ((with_reducible refine gate_builtin (b := .append) (xs := #[.tmp 42, .tmp 45]) rfl ?_); at_builtin; refine Kd.R_append k43 (w0 := w) w.heap.size rfl (.tmp 42) (.tmp 45) 22 43 (.agg #[(.int .i64 0), (.int .i64 0), (.int .i64 0), (.int .i64 0)]) 32 rfl Try.underlying22 info43 rfl (by decide) (by omega) u5 x5_1 (⟨3, 0, 0, a1⟩ : S43) [.int .i64 3, .int .i64 0, .int .i64 0, .int .i64 a1] (fun _ => True) (fun _ => False) rfl (by first | (go_simp; done) | (go_simp; rfl)) ?aP (fun _ hk => hk.elim) ?aF ?aO ?aB ?aS ?aL ?_; (case aP => exact k43_mkM _ _ _ (⟨3, 0, 0, a1⟩ : S43)); (case aB => exact (by repeat (first | (with_reducible first | exact HB.out | apply below_alloc | apply pw_below_drewN | apply below_drew1 | refine below_set ?_ GE186.out) | exact HB.out))); (case aF => exact (fun _ _ => trivial)); (case aO => exact (by (with_reducible repeat (first | apply Kd.R_alloc | apply Kd.R_drewN | apply Kd.R_drew)); exact Kd.R_mono (Kd.R_far (p := ⟨gb186, 6, none⟩) (Kd.R_far (p := ⟨gb186, 5, none⟩) (Kd.R_far (p := ⟨gb186, 4, none⟩) (Kd.R_far (p := ⟨gb186, 3, none⟩) (Kd.R_far (p := ⟨gb186, 2, none⟩) (Kd.R_far (p := ⟨gb186, 1, none⟩) (Kd.R_far (p := ⟨gb186, 0, none⟩) (Kd.R_types HO_5.out BK186.out (by decide)) (fun _ hk => hk.2) (.slice A185_0 ((rd_T49 l0 x7_1).f0).length c185_0)) (fun _ hk => hk.2) (.slice A185_1 ((rd_T49 l0 x7_1).f1).length c185_1)) (fun _ hk => hk.2) (.slice A185_2 ((rd_T49 l0 x7_1).f2).length c185_2)) (fun _ hk => hk.2) (.int .i64 ((rd_T49 l0 x7_1).f3))) (fun _ hk => hk.2) (.int .i64 ((rd_T49 l0 x7_1).f4))) (fun _ hk => hk.2) (.bool ((rd_T49 l0 x7_1).f5))) (fun _ hk => hk.2) (.bool false)) (fun _ hk => trivial))); (case aS => exact (below_size (by repeat (first | (with_reducible first | exact HB.out | apply below_alloc | apply pw_below_drewN | apply below_drew1 | refine below_set ?_ GE186.out) | exact HB.out)))); (case aL => have := LMc22.out; omega); intro v192 w24 ho hb hg hat; rw [← Ny191.out] at ho; have n0_ := Aside0.mk (blk_grown (g := gb186) (o := .cells #[.slice A185_0 ((rd_T49 l0 x7_1).f0).length c185_0, .slice A185_1 ((rd_T49 l0 x7_1).f1).length c185_1, .slice A185_2 ((rd_T49 l0 x7_1).f2).length c185_2, .int .i64 ((rd_T49 l0 x7_1).f3), .int .i64 ((rd_T49 l0 x7_1).f4), .bool ((rd_T49 l0 x7_1).f5), .bool false] 49 (0, 0)) (by (with_reducible repeat (first | refine blk_drewN ?_ _ | refine blk_drew ?_ | refine blk_alloc ?_ _)); refine blk_put (cs := #[.slice A185_0 ((rd_T49 l0 x7_1).f0).length c185_0, .slice A185_1 ((rd_T49 l0 x7_1).f1).length c185_1, .slice A185_2 ((rd_T49 l0 x7_1).f2).length c185_2, .int .i64 ((rd_T49 l0 x7_1).f3), .int .i64 ((rd_T49 l0 x7_1).f4), .bool ((rd_T49 l0 x7_1).f5), .bool false]) ?_ 6 _ rfl; (with_reducible repeat (first | refine blk_drewN ?_ _ | refine blk_drew ?_ | refine blk_alloc ?_ _)); refine blk_put (cs := #[.slice A185_0 ((rd_T49 l0 x7_1).f0).length c185_0, .slice A185_1 ((rd_T49 l0 x7_1).f1).length c185_1, .slice A185_2 ((rd_T49 l0 x7_1).f2).length c185_2, .int .i64 ((rd_T49 l0 x7_1).f3), .int .i64 ((rd_T49 l0 x7_1).f4), .bool false, .bool false]) ?_ 5 _ rfl; (with_reducible repeat (first | refine blk_drewN ?_ _ | refine blk_drew ?_ | refine blk_alloc ?_ _)); refine blk_put (cs := #[.slice A185_0 ((rd_T49 l0 x7_1).f0).length c185_0, .slice A185_1 ((rd_T49 l0 x7_1).f1).length c185_1, .slice A185_2 ((rd_T49 l0 x7_1).f2).length c185_2, .int .i64 ((rd_T49 l0 x7_1).f3), .int .i64 0, .bool false, .bool false]) ?_ 4 _ rfl; (with_reducible repeat (first | refine blk_drewN ?_ _ | refine blk_drew ?_ | refine blk_alloc ?_ _)); refine blk_put (cs := #[.slice A185_0 ((rd_T49 l0 x7_1).f0).length c185_0, .slice A185_1 ((rd_T49 l0 x7_1).f1).length c185_1, .slice A185_2 ((rd_T49 l0 x7_1).f2).length c185_2, .int .i64 0, .int .i64 0, .bool false, .bool false]) ?_ 3 _ rfl; (with_reducible repeat (first | refine blk_drewN ?_ _ | refine blk_drew ?_ | refine blk_alloc ?_ _)); refine blk_put (cs := #[.slice A185_0 ((rd_T49 l0 x7_1).f0).length c185_0, .slice A185_1 ((rd_T49 l0 x7_1).f1).length c185_1, .slice none 0 0, .int .i64 0, .int .i64 0, .bool false, .bool false]) ?_ 2 _ rfl; (with_reducible repeat (first | refine blk_drewN ?_ _ | refine blk_drew ?_ | refine blk_alloc ?_ _)); refine blk_put (cs := #[.slice A185_0 ((rd_T49 l0 x7_1).f0).length c185_0, .slice none 0 0, .slice none 0 0, .int .i64 0, .int .i64 0, .bool false, .bool false]) ?_ 1 _ rfl; (with_reducible repeat (first | refine blk_drewN ?_ _ | refine blk_drew ?_ | refine blk_alloc ?_ _)); refine blk_put (cs := #[.slice none 0 0, .slice none 0 0, .slice none 0 0, .int .i64 0, .int .i64 0, .bool false, .bool false]) ?_ 0 _ rfl; (with_reducible repeat (first | refine blk_drewN ?_ _ | refine blk_drew ?_ | refine blk_alloc ?_ _)); exact BK186.out) hg (Kd.R_ne HO_5.out BK186.out (by decide))); have n1_ := Aside0.mk (hb); have n2_ := Aside0.mk (ho); clear BK186; clear HB; clear HO_5; have BK186 := n0_; have HB := n1_; have HO193 := n2_; clear n0_ n1_ n2_; clear ho hb hg hat; have p194 : 0 ≤ (x6_1 : Int) := of_decide_eq_true (by first | (with_reducible assumption) | assumption); have q194 : x6_1 < (l0.length : Int) := of_decide_eq_true (by first | (with_reducible assumption) | assumption); obtain ⟨ad194, A194_0, c194_0, A194_1, c194_1, A194_2, c194_2, e194, hx194_0, hx194_1, hx194_2, hx194_3, hx194_4, hx194_5, hx194_6, hl194_0, hi194_0, hl194_1, hi194_1, hl194_2, hi194_2⟩ := at_T49 HR0.out x6_1 p194 q194; (try rw [← Nbq5.out] at hx194_5); (try rw [← Nbq20.out] at hx194_5); (try rw [← Nbq5.out] at hx194_6); (try rw [← Nbq20.out] at hx194_6); obtain rfl : ad185 = ad194 := (by injection e194); replace hx194_0 := (HB.out.cell (World.block_lt_of_cell? w _ hx194_0)).trans hx194_0; replace hx194_1 := (HB.out.cell (World.block_lt_of_cell? w _ hx194_1)).trans hx194_1; replace hx194_2 := (HB.out.cell (World.block_lt_of_cell? w _ hx194_2)).trans hx194_2; replace hx194_3 := (HB.out.cell (World.block_lt_of_cell? w _ hx194_3)).trans hx194_3; replace hx194_4 := (HB.out.cell (World.block_lt_of_cell? w _ hx194_4)).trans hx194_4; replace hx194_5 := (HB.out.cell (World.block_lt_of_cell? w _ hx194_5)).trans hx194_5; replace hx194_6 := (HB.out.cell (World.block_lt_of_cell? w _ hx194_6)).trans hx194_6; have HR194_0 := Aside0.mk hi194_0; have HC194_0 := Aside0.mk hl194_0; clear hi194_0 hl194_0; have HR194_1 := Aside0.mk hi194_1; have HC194_1 := Aside0.mk hl194_1; clear hi194_1 hl194_1; have HR194_2 := Aside0.mk hi194_2; have HC194_2 := Aside0.mk hl194_2; clear hi194_2 hl194_2; replace p194 := eq_true p194; replace q194 := eq_true q194))
                          go_meet
                          case rel => exact ⟨_, (y191), (ji23), (by first | rfl | (simp; done) | (simp only [← hji23] <;> (first | rfl | simp)) | (simp [*]; done)), H', ⟨by have := HK1.out; first | omega | exact Nat.le_refl _⟩, ⟨by (with_reducible repeat (first | apply Kd.R_alloc | apply Kd.R_drewN | apply Kd.R_drew)); exact HO193.out⟩, ⟨by (with_reducible repeat (first | refine blk_drewN ?_ _ | refine blk_drew ?_ | refine blk_alloc ?_ _)); exact BK186.out⟩, ⟨by repeat (first | (with_reducible first | exact HB.out | apply below_alloc | apply pw_below_drewN | apply below_drew1 | refine below_set ?_ GE186.out) | exact HB.out)⟩⟩
                        · rw [if_neg c22] at H
                          exact absurd H (by simp)
                      · replace c21 := Bool.eq_false_iff.mpr c21
                        subst c21
                        have H1 : (if x5_1.length < 4398046511104 then (colophonref27_Flow.j1 k1 l0 a1 (x5_1 ++ [(⟨3, 0, 0, 0⟩ : S43)]) x7_1 (mx ((rd_T49 l0 x7_1).f3) ((rd_T49 l0 x6_1).f4)) ((rd_T49 l0 x7_1).f0) ((rd_T49 l0 x7_1).f1) ((rd_T49 l0 x7_1).f2) ((rd_T49 l0 x7_1).f3) ((rd_T49 l0 x7_1).f4) ((rd_T49 l0 x7_1).f5) false) else (none)) = some r := by rw [if_neg (show ¬ (false = true) by decide)] at H; exact H
                        clear H
                        have H := H1
                        clear H1
                        by_cases c25 : x5_1.length < 4398046511104
                        · rw [if_pos c25] at H
                          have LMc25 := Aside0.mk c25
                          clear c25
                          obtain ⟨y195, hy195⟩ : ∃ y_ : List (S43), y_ = (x5_1 ++ [(⟨3, 0, 0, 0⟩ : S43)]) := ⟨_, rfl⟩
                          replace H : (colophonref27_Flow.j1 k1 l0 a1 y195 x7_1 (mx ((rd_T49 l0 x7_1).f3) ((rd_T49 l0 x6_1).f4)) ((rd_T49 l0 x7_1).f0) ((rd_T49 l0 x7_1).f1) ((rd_T49 l0 x7_1).f2) ((rd_T49 l0 x7_1).f3) ((rd_T49 l0 x7_1).f4) ((rd_T49 l0 x7_1).f5) false) = some r := by first | (rw [hy195]; with_reducible exact H) | (have H2_ := (Option.bind_some _ _).symm.trans H; rw [hy195]; with_reducible exact H2_) | (have H2_ := (Option.bind_some _ _).symm.trans H; with_reducible exact H2_) | with_reducible exact H | (rw [hy195]; exact H) | exact H
                          have Ny195 := Aside0.mk hy195
                          clear hy195
                          obtain ⟨ji26, hji26⟩ : ∃ j_ : Int, (mx ((rd_T49 l0 x7_1).f3) ((rd_T49 l0 x6_1).f4)) = j_ := ⟨_, rfl⟩
                          replace H : (colophonref27_Flow.j1 k1 l0 a1 y195 x7_1 ji26 ((rd_T49 l0 x7_1).f0) ((rd_T49 l0 x7_1).f1) ((rd_T49 l0 x7_1).f2) ((rd_T49 l0 x7_1).f3) ((rd_T49 l0 x7_1).f4) ((rd_T49 l0 x7_1).f5) false) = some r := by first | (rw [hji26] at H; exact H) | (simp only [hji26] at H ⊢; exact H)
                          have hji26_ : (if ((rd_T49 l0 x7_1).f3) < ((rd_T49 l0 x6_1).f4) then ((rd_T49 l0 x6_1).f4) else ((rd_T49 l0 x7_1).f3)) = ji26 := hji26
                          have H' := Aside0.mk H
                          clear H
                          have p190 : 0 ≤ (x6_1 : Int) := of_decide_eq_true (by first | (with_reducible assumption) | assumption)
                          have q190 : x6_1 < (l0.length : Int) := of_decide_eq_true (by first | (with_reducible assumption) | assumption)
                          obtain ⟨ad190, A190_0, c190_0, A190_1, c190_1, A190_2, c190_2, e190, hx190_0, hx190_1, hx190_2, hx190_3, hx190_4, hx190_5, hx190_6, hl190_0, hi190_0, hl190_1, hi190_1, hl190_2, hi190_2⟩ := at_T49 HR0.out x6_1 p190 q190
                          (try rw [← Nbq5.out] at hx190_5)
                          (try rw [← Nbq20.out] at hx190_5)
                          (try rw [← Nbq5.out] at hx190_6)
                          (try rw [← Nbq20.out] at hx190_6)
                          obtain rfl : ad185 = ad190 := (by injection e190)
                          have hn190_0 : ad185.block ≠ gb186 := Nat.ne_of_lt (Nat.lt_of_lt_of_le (by have := World.block_lt_of_cell? _ _ hx190_0; first | rwa [add_block] at this | exact this) GW186.out)
                          have hn190_1 : ad185.block ≠ gb186 := Nat.ne_of_lt (Nat.lt_of_lt_of_le (by have := World.block_lt_of_cell? _ _ hx190_0; first | rwa [add_block] at this | exact this) GW186.out)
                          have hn190_2 : ad185.block ≠ gb186 := Nat.ne_of_lt (Nat.lt_of_lt_of_le (by have := World.block_lt_of_cell? _ _ hx190_0; first | rwa [add_block] at this | exact this) GW186.out)
                          have hn190_3 : ad185.block ≠ gb186 := Nat.ne_of_lt (Nat.lt_of_lt_of_le (by have := World.block_lt_of_cell? _ _ hx190_0; first | rwa [add_block] at this | exact this) GW186.out)
                          have hn190_4 : ad185.block ≠ gb186 := Nat.ne_of_lt (Nat.lt_of_lt_of_le (by have := World.block_lt_of_cell? _ _ hx190_0; first | rwa [add_block] at this | exact this) GW186.out)
                          have hn190_5 : ad185.block ≠ gb186 := Nat.ne_of_lt (Nat.lt_of_lt_of_le (by have := World.block_lt_of_cell? _ _ hx190_0; first | rwa [add_block] at this | exact this) GW186.out)
                          have hn190_6 : ad185.block ≠ gb186 := Nat.ne_of_lt (Nat.lt_of_lt_of_le (by have := World.block_lt_of_cell? _ _ hx190_0; first | rwa [add_block] at this | exact this) GW186.out)
                          replace hx190_0 := (HB.out.cell (World.block_lt_of_cell? w _ hx190_0)).trans hx190_0
                          replace hx190_1 := (HB.out.cell (World.block_lt_of_cell? w _ hx190_1)).trans hx190_1
                          replace hx190_2 := (HB.out.cell (World.block_lt_of_cell? w _ hx190_2)).trans hx190_2
                          replace hx190_3 := (HB.out.cell (World.block_lt_of_cell? w _ hx190_3)).trans hx190_3
                          replace hx190_4 := (HB.out.cell (World.block_lt_of_cell? w _ hx190_4)).trans hx190_4
                          replace hx190_5 := (HB.out.cell (World.block_lt_of_cell? w _ hx190_5)).trans hx190_5
                          replace hx190_6 := (HB.out.cell (World.block_lt_of_cell? w _ hx190_6)).trans hx190_6
                          have HR190_0 := Aside0.mk hi190_0
                          have HC190_0 := Aside0.mk hl190_0
                          clear hi190_0 hl190_0
                          have HR190_1 := Aside0.mk hi190_1
                          have HC190_1 := Aside0.mk hl190_1
                          clear hi190_1 hl190_1
                          have HR190_2 := Aside0.mk hi190_2
                          have HC190_2 := Aside0.mk hl190_2
                          clear hi190_2 hl190_2
                          replace hx190_0 := (cell_far (p := ⟨gb186, 0, none⟩) (by first | (rw [add_block]; exact hn190_0) | (show (Addr.add _ _).block ≠ _; rw [add_block]; exact hn190_0) | exact hn190_0) (.slice A185_0 ((rd_T49 l0 x7_1).f0).length c185_0)).trans hx190_0
                          replace hx190_1 := (cell_far (p := ⟨gb186, 0, none⟩) (by first | (rw [add_block]; exact hn190_0) | (show (Addr.add _ _).block ≠ _; rw [add_block]; exact hn190_0) | exact hn190_0) (.slice A185_0 ((rd_T49 l0 x7_1).f0).length c185_0)).trans hx190_1
                          replace hx190_2 := (cell_far (p := ⟨gb186, 0, none⟩) (by first | (rw [add_block]; exact hn190_0) | (show (Addr.add _ _).block ≠ _; rw [add_block]; exact hn190_0) | exact hn190_0) (.slice A185_0 ((rd_T49 l0 x7_1).f0).length c185_0)).trans hx190_2
                          replace hx190_3 := (cell_far (p := ⟨gb186, 0, none⟩) (by first | (rw [add_block]; exact hn190_0) | (show (Addr.add _ _).block ≠ _; rw [add_block]; exact hn190_0) | exact hn190_0) (.slice A185_0 ((rd_T49 l0 x7_1).f0).length c185_0)).trans hx190_3
                          replace hx190_4 := (cell_far (p := ⟨gb186, 0, none⟩) (by first | (rw [add_block]; exact hn190_0) | (show (Addr.add _ _).block ≠ _; rw [add_block]; exact hn190_0) | exact hn190_0) (.slice A185_0 ((rd_T49 l0 x7_1).f0).length c185_0)).trans hx190_4
                          replace hx190_5 := (cell_far (p := ⟨gb186, 0, none⟩) (by first | (rw [add_block]; exact hn190_0) | (show (Addr.add _ _).block ≠ _; rw [add_block]; exact hn190_0) | exact hn190_0) (.slice A185_0 ((rd_T49 l0 x7_1).f0).length c185_0)).trans hx190_5
                          replace hx190_6 := (cell_far (p := ⟨gb186, 0, none⟩) (by first | (rw [add_block]; exact hn190_0) | (show (Addr.add _ _).block ≠ _; rw [add_block]; exact hn190_0) | exact hn190_0) (.slice A185_0 ((rd_T49 l0 x7_1).f0).length c185_0)).trans hx190_6
                          replace hx190_0 := (cell_far (p := ⟨gb186, 1, none⟩) (by first | (rw [add_block]; exact hn190_1) | (show (Addr.add _ _).block ≠ _; rw [add_block]; exact hn190_1) | exact hn190_1) (.slice A185_1 ((rd_T49 l0 x7_1).f1).length c185_1)).trans hx190_0
                          replace hx190_1 := (cell_far (p := ⟨gb186, 1, none⟩) (by first | (rw [add_block]; exact hn190_1) | (show (Addr.add _ _).block ≠ _; rw [add_block]; exact hn190_1) | exact hn190_1) (.slice A185_1 ((rd_T49 l0 x7_1).f1).length c185_1)).trans hx190_1
                          replace hx190_2 := (cell_far (p := ⟨gb186, 1, none⟩) (by first | (rw [add_block]; exact hn190_1) | (show (Addr.add _ _).block ≠ _; rw [add_block]; exact hn190_1) | exact hn190_1) (.slice A185_1 ((rd_T49 l0 x7_1).f1).length c185_1)).trans hx190_2
                          replace hx190_3 := (cell_far (p := ⟨gb186, 1, none⟩) (by first | (rw [add_block]; exact hn190_1) | (show (Addr.add _ _).block ≠ _; rw [add_block]; exact hn190_1) | exact hn190_1) (.slice A185_1 ((rd_T49 l0 x7_1).f1).length c185_1)).trans hx190_3
                          replace hx190_4 := (cell_far (p := ⟨gb186, 1, none⟩) (by first | (rw [add_block]; exact hn190_1) | (show (Addr.add _ _).block ≠ _; rw [add_block]; exact hn190_1) | exact hn190_1) (.slice A185_1 ((rd_T49 l0 x7_1).f1).length c185_1)).trans hx190_4
                          replace hx190_5 := (cell_far (p := ⟨gb186, 1, none⟩) (by first | (rw [add_block]; exact hn190_1) | (show (Addr.add _ _).block ≠ _; rw [add_block]; exact hn190_1) | exact hn190_1) (.slice A185_1 ((rd_T49 l0 x7_1).f1).length c185_1)).trans hx190_5
                          replace hx190_6 := (cell_far (p := ⟨gb186, 1, none⟩) (by first | (rw [add_block]; exact hn190_1) | (show (Addr.add _ _).block ≠ _; rw [add_block]; exact hn190_1) | exact hn190_1) (.slice A185_1 ((rd_T49 l0 x7_1).f1).length c185_1)).trans hx190_6
                          replace hx190_0 := (cell_far (p := ⟨gb186, 2, none⟩) (by first | (rw [add_block]; exact hn190_2) | (show (Addr.add _ _).block ≠ _; rw [add_block]; exact hn190_2) | exact hn190_2) (.slice A185_2 ((rd_T49 l0 x7_1).f2).length c185_2)).trans hx190_0
                          replace hx190_1 := (cell_far (p := ⟨gb186, 2, none⟩) (by first | (rw [add_block]; exact hn190_2) | (show (Addr.add _ _).block ≠ _; rw [add_block]; exact hn190_2) | exact hn190_2) (.slice A185_2 ((rd_T49 l0 x7_1).f2).length c185_2)).trans hx190_1
                          replace hx190_2 := (cell_far (p := ⟨gb186, 2, none⟩) (by first | (rw [add_block]; exact hn190_2) | (show (Addr.add _ _).block ≠ _; rw [add_block]; exact hn190_2) | exact hn190_2) (.slice A185_2 ((rd_T49 l0 x7_1).f2).length c185_2)).trans hx190_2
                          replace hx190_3 := (cell_far (p := ⟨gb186, 2, none⟩) (by first | (rw [add_block]; exact hn190_2) | (show (Addr.add _ _).block ≠ _; rw [add_block]; exact hn190_2) | exact hn190_2) (.slice A185_2 ((rd_T49 l0 x7_1).f2).length c185_2)).trans hx190_3
                          replace hx190_4 := (cell_far (p := ⟨gb186, 2, none⟩) (by first | (rw [add_block]; exact hn190_2) | (show (Addr.add _ _).block ≠ _; rw [add_block]; exact hn190_2) | exact hn190_2) (.slice A185_2 ((rd_T49 l0 x7_1).f2).length c185_2)).trans hx190_4
                          replace hx190_5 := (cell_far (p := ⟨gb186, 2, none⟩) (by first | (rw [add_block]; exact hn190_2) | (show (Addr.add _ _).block ≠ _; rw [add_block]; exact hn190_2) | exact hn190_2) (.slice A185_2 ((rd_T49 l0 x7_1).f2).length c185_2)).trans hx190_5
                          replace hx190_6 := (cell_far (p := ⟨gb186, 2, none⟩) (by first | (rw [add_block]; exact hn190_2) | (show (Addr.add _ _).block ≠ _; rw [add_block]; exact hn190_2) | exact hn190_2) (.slice A185_2 ((rd_T49 l0 x7_1).f2).length c185_2)).trans hx190_6
                          replace hx190_0 := (cell_far (p := ⟨gb186, 3, none⟩) (by first | (rw [add_block]; exact hn190_3) | (show (Addr.add _ _).block ≠ _; rw [add_block]; exact hn190_3) | exact hn190_3) (.int .i64 ((rd_T49 l0 x7_1).f3))).trans hx190_0
                          replace hx190_1 := (cell_far (p := ⟨gb186, 3, none⟩) (by first | (rw [add_block]; exact hn190_3) | (show (Addr.add _ _).block ≠ _; rw [add_block]; exact hn190_3) | exact hn190_3) (.int .i64 ((rd_T49 l0 x7_1).f3))).trans hx190_1
                          replace hx190_2 := (cell_far (p := ⟨gb186, 3, none⟩) (by first | (rw [add_block]; exact hn190_3) | (show (Addr.add _ _).block ≠ _; rw [add_block]; exact hn190_3) | exact hn190_3) (.int .i64 ((rd_T49 l0 x7_1).f3))).trans hx190_2
                          replace hx190_3 := (cell_far (p := ⟨gb186, 3, none⟩) (by first | (rw [add_block]; exact hn190_3) | (show (Addr.add _ _).block ≠ _; rw [add_block]; exact hn190_3) | exact hn190_3) (.int .i64 ((rd_T49 l0 x7_1).f3))).trans hx190_3
                          replace hx190_4 := (cell_far (p := ⟨gb186, 3, none⟩) (by first | (rw [add_block]; exact hn190_3) | (show (Addr.add _ _).block ≠ _; rw [add_block]; exact hn190_3) | exact hn190_3) (.int .i64 ((rd_T49 l0 x7_1).f3))).trans hx190_4
                          replace hx190_5 := (cell_far (p := ⟨gb186, 3, none⟩) (by first | (rw [add_block]; exact hn190_3) | (show (Addr.add _ _).block ≠ _; rw [add_block]; exact hn190_3) | exact hn190_3) (.int .i64 ((rd_T49 l0 x7_1).f3))).trans hx190_5
                          replace hx190_6 := (cell_far (p := ⟨gb186, 3, none⟩) (by first | (rw [add_block]; exact hn190_3) | (show (Addr.add _ _).block ≠ _; rw [add_block]; exact hn190_3) | exact hn190_3) (.int .i64 ((rd_T49 l0 x7_1).f3))).trans hx190_6
                          replace hx190_0 := (cell_far (p := ⟨gb186, 4, none⟩) (by first | (rw [add_block]; exact hn190_4) | (show (Addr.add _ _).block ≠ _; rw [add_block]; exact hn190_4) | exact hn190_4) (.int .i64 ((rd_T49 l0 x7_1).f4))).trans hx190_0
                          replace hx190_1 := (cell_far (p := ⟨gb186, 4, none⟩) (by first | (rw [add_block]; exact hn190_4) | (show (Addr.add _ _).block ≠ _; rw [add_block]; exact hn190_4) | exact hn190_4) (.int .i64 ((rd_T49 l0 x7_1).f4))).trans hx190_1
                          replace hx190_2 := (cell_far (p := ⟨gb186, 4, none⟩) (by first | (rw [add_block]; exact hn190_4) | (show (Addr.add _ _).block ≠ _; rw [add_block]; exact hn190_4) | exact hn190_4) (.int .i64 ((rd_T49 l0 x7_1).f4))).trans hx190_2
                          replace hx190_3 := (cell_far (p := ⟨gb186, 4, none⟩) (by first | (rw [add_block]; exact hn190_4) | (show (Addr.add _ _).block ≠ _; rw [add_block]; exact hn190_4) | exact hn190_4) (.int .i64 ((rd_T49 l0 x7_1).f4))).trans hx190_3
                          replace hx190_4 := (cell_far (p := ⟨gb186, 4, none⟩) (by first | (rw [add_block]; exact hn190_4) | (show (Addr.add _ _).block ≠ _; rw [add_block]; exact hn190_4) | exact hn190_4) (.int .i64 ((rd_T49 l0 x7_1).f4))).trans hx190_4
                          replace hx190_5 := (cell_far (p := ⟨gb186, 4, none⟩) (by first | (rw [add_block]; exact hn190_4) | (show (Addr.add _ _).block ≠ _; rw [add_block]; exact hn190_4) | exact hn190_4) (.int .i64 ((rd_T49 l0 x7_1).f4))).trans hx190_5
                          replace hx190_6 := (cell_far (p := ⟨gb186, 4, none⟩) (by first | (rw [add_block]; exact hn190_4) | (show (Addr.add _ _).block ≠ _; rw [add_block]; exact hn190_4) | exact hn190_4) (.int .i64 ((rd_T49 l0 x7_1).f4))).trans hx190_6
                          replace hx190_0 := (cell_far (p := ⟨gb186, 5, none⟩) (by first | (rw [add_block]; exact hn190_5) | (show (Addr.add _ _).block ≠ _; rw [add_block]; exact hn190_5) | exact hn190_5) (.bool ((rd_T49 l0 x7_1).f5))).trans hx190_0
                          replace hx190_1 := (cell_far (p := ⟨gb186, 5, none⟩) (by first | (rw [add_block]; exact hn190_5) | (show (Addr.add _ _).block ≠ _; rw [add_block]; exact hn190_5) | exact hn190_5) (.bool ((rd_T49 l0 x7_1).f5))).trans hx190_1
                          replace hx190_2 := (cell_far (p := ⟨gb186, 5, none⟩) (by first | (rw [add_block]; exact hn190_5) | (show (Addr.add _ _).block ≠ _; rw [add_block]; exact hn190_5) | exact hn190_5) (.bool ((rd_T49 l0 x7_1).f5))).trans hx190_2
                          replace hx190_3 := (cell_far (p := ⟨gb186, 5, none⟩) (by first | (rw [add_block]; exact hn190_5) | (show (Addr.add _ _).block ≠ _; rw [add_block]; exact hn190_5) | exact hn190_5) (.bool ((rd_T49 l0 x7_1).f5))).trans hx190_3
                          replace hx190_4 := (cell_far (p := ⟨gb186, 5, none⟩) (by first | (rw [add_block]; exact hn190_5) | (show (Addr.add _ _).block ≠ _; rw [add_block]; exact hn190_5) | exact hn190_5) (.bool ((rd_T49 l0 x7_1).f5))).trans hx190_4
                          replace hx190_5 := (cell_far (p := ⟨gb186, 5, none⟩) (by first | (rw [add_block]; exact hn190_5) | (show (Addr.add _ _).block ≠ _; rw [add_block]; exact hn190_5) | exact hn190_5) (.bool ((rd_T49 l0 x7_1).f5))).trans hx190_5
                          replace hx190_6 := (cell_far (p := ⟨gb186, 5, none⟩) (by first | (rw [add_block]; exact hn190_5) | (show (Addr.add _ _).block ≠ _; rw [add_block]; exact hn190_5) | exact hn190_5) (.bool ((rd_T49 l0 x7_1).f5))).trans hx190_6
                          replace hx190_0 := (cell_far (p := ⟨gb186, 6, none⟩) (by first | (rw [add_block]; exact hn190_6) | (show (Addr.add _ _).block ≠ _; rw [add_block]; exact hn190_6) | exact hn190_6) (.bool false)).trans hx190_0
                          replace hx190_1 := (cell_far (p := ⟨gb186, 6, none⟩) (by first | (rw [add_block]; exact hn190_6) | (show (Addr.add _ _).block ≠ _; rw [add_block]; exact hn190_6) | exact hn190_6) (.bool false)).trans hx190_1
                          replace hx190_2 := (cell_far (p := ⟨gb186, 6, none⟩) (by first | (rw [add_block]; exact hn190_6) | (show (Addr.add _ _).block ≠ _; rw [add_block]; exact hn190_6) | exact hn190_6) (.bool false)).trans hx190_2
                          replace hx190_3 := (cell_far (p := ⟨gb186, 6, none⟩) (by first | (rw [add_block]; exact hn190_6) | (show (Addr.add _ _).block ≠ _; rw [add_block]; exact hn190_6) | exact hn190_6) (.bool false)).trans hx190_3
                          replace hx190_4 := (cell_far (p := ⟨gb186, 6, none⟩) (by first | (rw [add_block]; exact hn190_6) | (show (Addr.add _ _).block ≠ _; rw [add_block]; exact hn190_6) | exact hn190_6) (.bool false)).trans hx190_4
                          replace hx190_5 := (cell_far (p := ⟨gb186, 6, none⟩) (by first | (rw [add_block]; exact hn190_6) | (show (Addr.add _ _).block ≠ _; rw [add_block]; exact hn190_6) | exact hn190_6) (.bool false)).trans hx190_5
                          replace hx190_6 := (cell_far (p := ⟨gb186, 6, none⟩) (by first | (rw [add_block]; exact hn190_6) | (show (Addr.add _ _).block ≠ _; rw [add_block]; exact hn190_6) | exact hn190_6) (.bool false)).trans hx190_6
                          clear hn190_0
                          clear hn190_1
                          clear hn190_2
                          clear hn190_3
                          clear hn190_4
                          clear hn190_5
                          clear hn190_6
                          replace p190 := eq_true p190
                          replace q190 := eq_true q190
                          go_wp2_with (first | ((with_reducible refine gate_builtin (b := .append) (xs := #[.tmp 42, .tmp 45]) rfl ?_); at_builtin; refine Kd.R_append k43 (w0 := w) w.heap.size rfl (.tmp 42) (.tmp 45) 22 43 (.agg #[(.int .i64 0), (.int .i64 0), (.int .i64 0), (.int .i64 0)]) 32 rfl Try.underlying22 info43 rfl (by decide) (by omega) u5 x5_1 (⟨3, 0, 0, 0⟩ : S43) [.int .i64 3, .int .i64 0, .int .i64 0, .int .i64 0] (fun _ => True) (fun _ => False) rfl (by first | (go_simp; done) | (go_simp; rfl)) ?aP (fun _ hk => hk.elim) ?aF ?aO ?aB ?aS ?aL ?_; (case aP => exact k43_mkM _ _ _ (⟨3, 0, 0, 0⟩ : S43)); (case aB => exact (by repeat (first | (with_reducible first | exact HB.out | apply below_alloc | apply pw_below_drewN | apply below_drew1 | refine below_set ?_ GE186.out) | exact HB.out))); (case aF => exact (fun _ _ => trivial)); (case aO => exact (by (with_reducible repeat (first | apply Kd.R_alloc | apply Kd.R_drewN | apply Kd.R_drew)); exact Kd.R_mono (Kd.R_far (p := ⟨gb186, 6, none⟩) (Kd.R_far (p := ⟨gb186, 5, none⟩) (Kd.R_far (p := ⟨gb186, 4, none⟩) (Kd.R_far (p := ⟨gb186, 3, none⟩) (Kd.R_far (p := ⟨gb186, 2, none⟩) (Kd.R_far (p := ⟨gb186, 1, none⟩) (Kd.R_far (p := ⟨gb186, 0, none⟩) (Kd.R_types HO_5.out BK186.out (by decide)) (fun _ hk => hk.2) (.slice A185_0 ((rd_T49 l0 x7_1).f0).length c185_0)) (fun _ hk => hk.2) (.slice A185_1 ((rd_T49 l0 x7_1).f1).length c185_1)) (fun _ hk => hk.2) (.slice A185_2 ((rd_T49 l0 x7_1).f2).length c185_2)) (fun _ hk => hk.2) (.int .i64 ((rd_T49 l0 x7_1).f3))) (fun _ hk => hk.2) (.int .i64 ((rd_T49 l0 x7_1).f4))) (fun _ hk => hk.2) (.bool ((rd_T49 l0 x7_1).f5))) (fun _ hk => hk.2) (.bool false)) (fun _ hk => trivial))); (case aS => exact (below_size (by repeat (first | (with_reducible first | exact HB.out | apply below_alloc | apply pw_below_drewN | apply below_drew1 | refine below_set ?_ GE186.out) | exact HB.out)))); (case aL => have := LMc25.out; omega); intro v196 w27 ho hb hg hat; rw [← Ny195.out] at ho; have n0_ := Aside0.mk (blk_grown (g := gb186) (o := .cells #[.slice A185_0 ((rd_T49 l0 x7_1).f0).length c185_0, .slice A185_1 ((rd_T49 l0 x7_1).f1).length c185_1, .slice A185_2 ((rd_T49 l0 x7_1).f2).length c185_2, .int .i64 ((rd_T49 l0 x7_1).f3), .int .i64 ((rd_T49 l0 x7_1).f4), .bool ((rd_T49 l0 x7_1).f5), .bool false] 49 (0, 0)) (by (with_reducible repeat (first | refine blk_drewN ?_ _ | refine blk_drew ?_ | refine blk_alloc ?_ _)); refine blk_put (cs := #[.slice A185_0 ((rd_T49 l0 x7_1).f0).length c185_0, .slice A185_1 ((rd_T49 l0 x7_1).f1).length c185_1, .slice A185_2 ((rd_T49 l0 x7_1).f2).length c185_2, .int .i64 ((rd_T49 l0 x7_1).f3), .int .i64 ((rd_T49 l0 x7_1).f4), .bool ((rd_T49 l0 x7_1).f5), .bool false]) ?_ 6 _ rfl; (with_reducible repeat (first | refine blk_drewN ?_ _ | refine blk_drew ?_ | refine blk_alloc ?_ _)); refine blk_put (cs := #[.slice A185_0 ((rd_T49 l0 x7_1).f0).length c185_0, .slice A185_1 ((rd_T49 l0 x7_1).f1).length c185_1, .slice A185_2 ((rd_T49 l0 x7_1).f2).length c185_2, .int .i64 ((rd_T49 l0 x7_1).f3), .int .i64 ((rd_T49 l0 x7_1).f4), .bool false, .bool false]) ?_ 5 _ rfl; (with_reducible repeat (first | refine blk_drewN ?_ _ | refine blk_drew ?_ | refine blk_alloc ?_ _)); refine blk_put (cs := #[.slice A185_0 ((rd_T49 l0 x7_1).f0).length c185_0, .slice A185_1 ((rd_T49 l0 x7_1).f1).length c185_1, .slice A185_2 ((rd_T49 l0 x7_1).f2).length c185_2, .int .i64 ((rd_T49 l0 x7_1).f3), .int .i64 0, .bool false, .bool false]) ?_ 4 _ rfl; (with_reducible repeat (first | refine blk_drewN ?_ _ | refine blk_drew ?_ | refine blk_alloc ?_ _)); refine blk_put (cs := #[.slice A185_0 ((rd_T49 l0 x7_1).f0).length c185_0, .slice A185_1 ((rd_T49 l0 x7_1).f1).length c185_1, .slice A185_2 ((rd_T49 l0 x7_1).f2).length c185_2, .int .i64 0, .int .i64 0, .bool false, .bool false]) ?_ 3 _ rfl; (with_reducible repeat (first | refine blk_drewN ?_ _ | refine blk_drew ?_ | refine blk_alloc ?_ _)); refine blk_put (cs := #[.slice A185_0 ((rd_T49 l0 x7_1).f0).length c185_0, .slice A185_1 ((rd_T49 l0 x7_1).f1).length c185_1, .slice none 0 0, .int .i64 0, .int .i64 0, .bool false, .bool false]) ?_ 2 _ rfl; (with_reducible repeat (first | refine blk_drewN ?_ _ | refine blk_drew ?_ | refine blk_alloc ?_ _)); refine blk_put (cs := #[.slice A185_0 ((rd_T49 l0 x7_1).f0).length c185_0, .slice none 0 0, .slice none 0 0, .int .i64 0, .int .i64 0, .bool false, .bool false]) ?_ 1 _ rfl; (with_reducible repeat (first | refine blk_drewN ?_ _ | refine blk_drew ?_ | refine blk_alloc ?_ _)); refine blk_put (cs := #[.slice none 0 0, .slice none 0 0, .slice none 0 0, .int .i64 0, .int .i64 0, .bool false, .bool false]) ?_ 0 _ rfl; (with_reducible repeat (first | refine blk_drewN ?_ _ | refine blk_drew ?_ | refine blk_alloc ?_ _)); exact BK186.out) hg (Kd.R_ne HO_5.out BK186.out (by decide))); have n1_ := Aside0.mk (hb); have n2_ := Aside0.mk (ho); clear BK186; clear HB; clear HO_5; have BK186 := n0_; have HB := n1_; have HO197 := n2_; clear n0_ n1_ n2_; clear ho hb hg hat; have p198 : 0 ≤ (x6_1 : Int) := of_decide_eq_true (by first | (with_reducible assumption) | assumption); have q198 : x6_1 < (l0.length : Int) := of_decide_eq_true (by first | (with_reducible assumption) | assumption); obtain ⟨ad198, A198_0, c198_0, A198_1, c198_1, A198_2, c198_2, e198, hx198_0, hx198_1, hx198_2, hx198_3, hx198_4, hx198_5, hx198_6, hl198_0, hi198_0, hl198_1, hi198_1, hl198_2, hi198_2⟩ := at_T49 HR0.out x6_1 p198 q198; (try rw [← Nbq5.out] at hx198_5); (try rw [← Nbq20.out] at hx198_5); (try rw [← Nbq5.out] at hx198_6); (try rw [← Nbq20.out] at hx198_6); obtain rfl : ad185 = ad198 := (by injection e198); replace hx198_0 := (HB.out.cell (World.block_lt_of_cell? w _ hx198_0)).trans hx198_0; replace hx198_1 := (HB.out.cell (World.block_lt_of_cell? w _ hx198_1)).trans hx198_1; replace hx198_2 := (HB.out.cell (World.block_lt_of_cell? w _ hx198_2)).trans hx198_2; replace hx198_3 := (HB.out.cell (World.block_lt_of_cell? w _ hx198_3)).trans hx198_3; replace hx198_4 := (HB.out.cell (World.block_lt_of_cell? w _ hx198_4)).trans hx198_4; replace hx198_5 := (HB.out.cell (World.block_lt_of_cell? w _ hx198_5)).trans hx198_5; replace hx198_6 := (HB.out.cell (World.block_lt_of_cell? w _ hx198_6)).trans hx198_6; have HR198_0 := Aside0.mk hi198_0; have HC198_0 := Aside0.mk hl198_0; clear hi198_0 hl198_0; have HR198_1 := Aside0.mk hi198_1; have HC198_1 := Aside0.mk hl198_1; clear hi198_1 hl198_1; have HR198_2 := Aside0.mk hi198_2; have HC198_2 := Aside0.mk hl198_2; clear hi198_2 hl198_2; replace p198 := eq_true p198; replace q198 := eq_true q198))
                          go_meet
                          case rel => exact ⟨_, (y195), (ji26), (by first | rfl | (simp; done) | (simp only [← hji26] <;> (first | rfl | simp)) | (simp [*]; done)), H', ⟨by have := HK1.out; first | omega | exact Nat.le_refl _⟩, ⟨by (with_reducible repeat (first | apply Kd.R_alloc | apply Kd.R_drewN | apply Kd.R_drew)); exact HO197.out⟩, ⟨by (with_reducible repeat (first | refine blk_drewN ?_ _ | refine blk_drew ?_ | refine blk_alloc ?_ _)); exact BK186.out⟩, ⟨by repeat (first | (with_reducible first | exact HB.out | apply below_alloc | apply pw_below_drewN | apply below_drew1 | refine below_set ?_ GE186.out) | exact HB.out)⟩⟩
                        · rw [if_neg c25] at H
                          exact absurd H (by simp)
                    · rw [if_neg c19] at H
                      exact absurd H (by simp)
                  · rw [if_neg c18] at H
                    exact absurd H (by simp)
                · rw [if_neg c17] at H
                  have c17b0 : decide (0 ≤ x6_1) = false := decide_eq_false c17
                  clear c17
                  (first | rw [c17b0] | (simp only [i64_w, i32_w]; rw [c17b0]) | skip)
                  have H' := Aside0.mk H
                  clear H
                  go_wp2
                  go_meet
                  case rel => exact ⟨_, (x5_1), ((rd_T49 l0 x7_1).f3), (by first | rfl | (simp; done) | (simp [*]; done)), H', ⟨by have := HK1.out; first | omega | exact Nat.le_refl _⟩, ⟨by (with_reducible repeat (first | apply Kd.R_alloc | apply Kd.R_drewN | apply Kd.R_drew)); exact Kd.R_mono (Kd.R_far (p := ⟨gb186, 6, none⟩) (Kd.R_far (p := ⟨gb186, 5, none⟩) (Kd.R_far (p := ⟨gb186, 4, none⟩) (Kd.R_far (p := ⟨gb186, 3, none⟩) (Kd.R_far (p := ⟨gb186, 2, none⟩) (Kd.R_far (p := ⟨gb186, 1, none⟩) (Kd.R_far (p := ⟨gb186, 0, none⟩) (Kd.R_types HO_5.out BK186.out (by decide)) (fun _ hk => hk.2) (.slice A185_0 ((rd_T49 l0 x7_1).f0).length c185_0)) (fun _ hk => hk.2) (.slice A185_1 ((rd_T49 l0 x7_1).f1).length c185_1)) (fun _ hk => hk.2) (.slice A185_2 ((rd_T49 l0 x7_1).f2).length c185_2)) (fun _ hk => hk.2) (.int .i64 ((rd_T49 l0 x7_1).f3))) (fun _ hk => hk.2) (.int .i64 ((rd_T49 l0 x7_1).f4))) (fun _ hk => hk.2) (.bool ((rd_T49 l0 x7_1).f5))) (fun _ hk => hk.2) (.bool false)) (fun _ hk => trivial)⟩, ⟨by (with_reducible repeat (first | refine blk_drewN ?_ _ | refine blk_drew ?_ | refine blk_alloc ?_ _)); refine blk_put (cs := #[.slice A185_0 ((rd_T49 l0 x7_1).f0).length c185_0, .slice A185_1 ((rd_T49 l0 x7_1).f1).length c185_1, .slice A185_2 ((rd_T49 l0 x7_1).f2).length c185_2, .int .i64 ((rd_T49 l0 x7_1).f3), .int .i64 ((rd_T49 l0 x7_1).f4), .bool ((rd_T49 l0 x7_1).f5), .bool false]) ?_ 6 _ rfl; (with_reducible repeat (first | refine blk_drewN ?_ _ | refine blk_drew ?_ | refine blk_alloc ?_ _)); refine blk_put (cs := #[.slice A185_0 ((rd_T49 l0 x7_1).f0).length c185_0, .slice A185_1 ((rd_T49 l0 x7_1).f1).length c185_1, .slice A185_2 ((rd_T49 l0 x7_1).f2).length c185_2, .int .i64 ((rd_T49 l0 x7_1).f3), .int .i64 ((rd_T49 l0 x7_1).f4), .bool false, .bool false]) ?_ 5 _ rfl; (with_reducible repeat (first | refine blk_drewN ?_ _ | refine blk_drew ?_ | refine blk_alloc ?_ _)); refine blk_put (cs := #[.slice A185_0 ((rd_T49 l0 x7_1).f0).length c185_0, .slice A185_1 ((rd_T49 l0 x7_1).f1).length c185_1, .slice A185_2 ((rd_T49 l0 x7_1).f2).length c185_2, .int .i64 ((rd_T49 l0 x7_1).f3), .int .i64 0, .bool false, .bool false]) ?_ 4 _ rfl; (with_reducible repeat (first | refine blk_drewN ?_ _ | refine blk_drew ?_ | refine blk_alloc ?_ _)); refine blk_put (cs := #[.slice A185_0 ((rd_T49 l0 x7_1).f0).length c185_0, .slice A185_1 ((rd_T49 l0 x7_1).f1).length c185_1, .slice A185_2 ((rd_T49 l0 x7_1).f2).length c185_2, .int .i64 0, .int .i64 0, .bool false, .bool false]) ?_ 3 _ rfl; (with_reducible repeat (first | refine blk_drewN ?_ _ | refine blk_drew ?_ | refine blk_alloc ?_ _)); refine blk_put (cs := #[.slice A185_0 ((rd_T49 l0 x7_1).f0).length c185_0, .slice A185_1 ((rd_T49 l0 x7_1).f1).length c185_1, .slice none 0 0, .int .i64 0, .int .i64 0, .bool false, .bool false]) ?_ 2 _ rfl; (with_reducible repeat (first | refine blk_drewN ?_ _ | refine blk_drew ?_ | refine blk_alloc ?_ _)); refine blk_put (cs := #[.slice A185_0 ((rd_T49 l0 x7_1).f0).length c185_0, .slice none 0 0, .slice none 0 0, .int .i64 0, .int .i64 0, .bool false, .bool false]) ?_ 1 _ rfl; (with_reducible repeat (first | refine blk_drewN ?_ _ | refine blk_drew ?_ | refine blk_alloc ?_ _)); refine blk_put (cs := #[.slice none 0 0, .slice none 0 0, .slice none 0 0, .int .i64 0, .int .i64 0, .bool false, .bool false]) ?_ 0 _ rfl; (with_reducible repeat (first | refine blk_drewN ?_ _ | refine blk_drew ?_ | refine blk_alloc ?_ _)); exact BK186.out⟩, ⟨by repeat (first | (with_reducible first | exact HB.out | apply below_alloc | apply pw_below_drewN | apply below_drew1 | refine below_set ?_ GE186.out) | exact HB.out)⟩⟩
              case rest =>
                clear HC14
                try clear c1
                try clear p1
                try clear q1
                try clear hx1
                try clear c2
                try clear p2
                try clear q2
                try clear c3
                try clear c3b0
                try clear c4
                try clear c4b0
                try clear q5
                try clear c6
                try clear p6
                try clear c7
                try clear c11
                try clear c11b0
                try clear c11b1
                try clear c11b2
                try clear c17
                try clear c17b0
                try clear c18
                try clear c18b0
                try clear p18
                try clear q18
                try clear hx18
                try clear c19
                try clear c19b0
                try clear p19
                try clear q19
                try clear hx19
                try clear q20
                try clear c21
                try clear c22
                try clear c25
                try clear hcz13_0
                try clear hcz13_1
                try clear hcz13_2
                try clear hcz13_3
                try clear hcz13_4
                try clear hcz13_5
                try clear hcz13_6
                try clear hcz16_0
                try clear hcz16_1
                try clear hcz16_2
                try clear hcz16_3
                try clear hcz16_4
                try clear hcz16_5
                try clear hcz16_6
                try clear hcz9_0
                try clear hcz9_1
                try clear hcz9_2
                try clear hcz9_3
                try clear hcz9_4
                try clear hcz9_5
                try clear hcz9_6
                try clear hfz13_0
                try clear hfz13_1
                try clear hfz13_2
                try clear hfz13_3
                try clear hfz13_4
                try clear hfz13_5
                try clear hfz13_6
                try clear hfz16_0
                try clear hfz16_1
                try clear hfz16_2
                try clear hfz16_3
                try clear hfz16_4
                try clear hfz16_5
                try clear hfz16_6
                try clear hfz9_0
                try clear hfz9_1
                try clear hfz9_2
                try clear hfz9_3
                try clear hfz9_4
                try clear hfz9_5
                try clear hfz9_6
                try clear hx185_0
                try clear hx185_1
                try clear hx185_2
                try clear hx185_3
                try clear hx185_4
                try clear hx185_5
                try clear hx185_6
                try clear hx190_0
                try clear hx190_1
                try clear hx190_2
                try clear hx190_3
                try clear hx190_4
                try clear hx190_5
                try clear hx190_6
                try clear hx194_0
                try clear hx194_1
                try clear hx194_2
                try clear hx194_3
                try clear hx194_4
                try clear hx194_5
                try clear hx194_6
                try clear hx198_0
                try clear hx198_1
                try clear hx198_2
                try clear hx198_3
                try clear hx198_4
                try clear hx198_5
                try clear hx198_6
                try clear p185
                try clear p190
                try clear p194
                try clear p198
                try clear p2
                try clear q185
                try clear q190
                try clear q194
                try clear q198
                obtain ⟨kq, x5_13, x9_13, rfl, HA, HJ13, HO_5, BK186, HB⟩ := hcut
                cases kq with
                | zero => exact absurd HA.out (by simp [colophonref27_Flow.j1])
                | succ kj13 =>
                  have H := HA.out
                  clear HA
                  simp only [colophonref27_Flow.j1] at H
                  by_cases c28 : x5_13.length < 4398046511104
                  · rw [if_pos c28] at H
                    have LMc28 := Aside0.mk c28
                    clear c28
                    obtain ⟨y199, hy199⟩ : ∃ y_ : List (S43), y_ = (x5_13 ++ [(⟨2, x9_13, 0, 0⟩ : S43)]) := ⟨_, rfl⟩
                    replace H : (colophonref27_Flow.l1 kj13 l0 a1 y199 x7_1 0 ((rd_T49 l0 x7_1).f0) ((rd_T49 l0 x7_1).f1) ((rd_T49 l0 x7_1).f2) ((rd_T49 l0 x7_1).f3) ((rd_T49 l0 x7_1).f4) ((rd_T49 l0 x7_1).f5) false) = some r := by first | (rw [hy199]; with_reducible exact H) | (have H2_ := (Option.bind_some _ _).symm.trans H; rw [hy199]; with_reducible exact H2_) | (have H2_ := (Option.bind_some _ _).symm.trans H; with_reducible exact H2_) | with_reducible exact H | (rw [hy199]; exact H) | exact H
                    have Ny199 := Aside0.mk hy199
                    clear hy199
                    have H' := Aside0.mk H
                    clear H
                    go_wp2_with (first | ((with_reducible refine gate_builtin (b := .append) (xs := #[.tmp 54, .tmp 57]) rfl ?_); at_builtin; refine Kd.R_append k43 (w0 := w) w.heap.size rfl (.tmp 54) (.tmp 57) 22 43 (.agg #[(.int .i64 0), (.int .i64 0), (.int .i64 0), (.int .i64 0)]) 32 rfl Try.underlying22 info43 rfl (by decide) (by omega) u5 x5_13 (⟨2, x9_13, 0, 0⟩ : S43) [.int .i64 2, .int .i64 x9_13, .int .i64 0, .int .i64 0] (fun _ => True) (fun _ => False) rfl rfl ?aP (fun _ hk => hk.elim) ?aF ?aO ?aB ?aS ?aL ?_; (case aP => exact k43_mkM _ _ _ (⟨2, x9_13, 0, 0⟩ : S43)); (case aB => exact (by repeat (first | (with_reducible first | exact HB.out | apply below_alloc | apply pw_below_drewN | apply below_drew1 | refine below_set ?_ GE186.out) | exact HB.out))); (case aF => exact (fun _ _ => trivial)); (case aO => exact (by (with_reducible repeat (first | apply Kd.R_alloc | apply Kd.R_drewN | apply Kd.R_drew)); exact HO_5.out)); (case aS => exact (below_size (by repeat (first | (with_reducible first | exact HB.out | apply below_alloc | apply pw_below_drewN | apply below_drew1 | refine below_set ?_ GE186.out) | exact HB.out)))); (case aL => have := LMc28.out; omega); intro v200 w29 ho hb hg hat; rw [← Ny199.out] at ho; have n0_ := Aside0.mk (blk_grown (g := gb186) (o := .cells #[.slice A185_0 ((rd_T49 l0 x7_1).f0).length c185_0, .slice A185_1 ((rd_T49 l0 x7_1).f1).length c185_1, .slice A185_2 ((rd_T49 l0 x7_1).f2).length c185_2, .int .i64 ((rd_T49 l0 x7_1).f3), .int .i64 ((rd_T49 l0 x7_1).f4), .bool ((rd_T49 l0 x7_1).f5), .bool false] 49 (0, 0)) (by (with_reducible repeat (first | refine blk_drewN ?_ _ | refine blk_drew ?_ | refine blk_alloc ?_ _)); exact BK186.out) hg (Kd.R_ne HO_5.out BK186.out (by decide))); have n1_ := Aside0.mk (hb); have n2_ := Aside0.mk (ho); clear BK186; clear HB; clear HO_5; have BK186 := n0_; have HB := n1_; have HO201 := n2_; clear n0_ n1_ n2_; clear ho hb hg hat))
                    go_loopg [5, 11] kj13 (fun kq v5 v11 w' => ∃ (x5_3 : List (S43)) (x11_3 : Int), v11 = .int .i64 x11_3 ∧ Aside0 (colophonref27_Flow.l1 kq l0 a1 x5_3 x7_1 x11_3 ((rd_T49 l0 x7_1).f0) ((rd_T49 l0 x7_1).f1) ((rd_T49 l0 x7_1).f2) ((rd_T49 l0 x7_1).f3) ((rd_T49 l0 x7_1).f4) ((rd_T49 l0 x7_1).f5) false = some r) ∧ Aside0 (kq ≤ kj13) ∧ Aside0 (Kd.R k43 43 w' w.heap.size (fun _ => True) v5 x5_3) ∧ Aside0 (w'.heap[gb186]? = some (.cells #[(.slice A185_0 ((rd_T49 l0 x7_1).f0).length c185_0), (.slice A185_1 ((rd_T49 l0 x7_1).f1).length c185_1), (.slice A185_2 ((rd_T49 l0 x7_1).f2).length c185_2), .int .i64 ((rd_T49 l0 x7_1).f3), .int .i64 ((rd_T49 l0 x7_1).f4), .bool ((rd_T49 l0 x7_1).f5), .bool false] 49 (0, 0))) ∧ Aside0 (Below w.heap.size w w'))
                    case atStart => exact ⟨(y199), (0), (by first | rfl | (simp; done) | (simp [*]; done)), H', ⟨Nat.le_refl _⟩, ⟨by (with_reducible repeat (first | apply Kd.R_alloc | apply Kd.R_drewN | apply Kd.R_drew)); exact HO201.out⟩, ⟨by (with_reducible repeat (first | refine blk_drewN ?_ _ | refine blk_drew ?_ | refine blk_alloc ?_ _)); exact BK186.out⟩, ⟨by repeat (first | (with_reducible first | exact HB.out | apply below_alloc | apply pw_below_drewN | apply below_drew1 | refine below_set ?_ GE186.out) | exact HB.out)⟩⟩
                    case round =>
                      clear H'
                      try clear c1
                      try clear p1
                      try clear q1
                      try clear hx1
                      try clear c2
                      try clear p2
                      try clear q2
                      try clear c3
                      try clear c3b0
                      try clear c4
                      try clear c4b0
                      try clear q5
                      try clear c6
                      try clear p6
                      try clear c7
                      try clear c11
                      try clear c11b0
                      try clear c11b1
                      try clear c11b2
                      try clear c17
                      try clear c17b0
                      try clear c18
                      try clear c18b0
                      try clear p18
                      try clear q18
                      try clear hx18
                      try clear c19
                      try clear c19b0
                      try clear p19
                      try clear q19
                      try clear hx19
                      try clear q20
                      try clear c21
                      try clear c22
                      try clear c25
                      try clear c28
                      try clear hcz13_0
                      try clear hcz13_1
                      try clear hcz13_2
                      try clear hcz13_3
                      try clear hcz13_4
                      try clear hcz13_5
                      try clear hcz13_6
                      try clear hcz16_0
                      try clear hcz16_1
                      try clear hcz16_2
                      try clear hcz16_3
                      try clear hcz16_4
                      try clear hcz16_5
                      try clear hcz16_6
                      try clear hcz9_0
                      try clear hcz9_1
                      try clear hcz9_2
                      try clear hcz9_3
                      try clear hcz9_4
                      try clear hcz9_5
                      try clear hcz9_6
                      try clear hfz13_0
                      try clear hfz13_1
                      try clear hfz13_2
                      try clear hfz13_3
                      try clear hfz13_4
                      try clear hfz13_5
                      try clear hfz13_6
                      try clear hfz16_0
                      try clear hfz16_1
                      try clear hfz16_2
                      try clear hfz16_3
                      try clear hfz16_4
                      try clear hfz16_5
                      try clear hfz16_6
                      try clear hfz9_0
                      try clear hfz9_1
                      try clear hfz9_2
                      try clear hfz9_3
                      try clear hfz9_4
                      try clear hfz9_5
                      try clear hfz9_6
                      try clear hx185_0
                      try clear hx185_1
                      try clear hx185_2
                      try clear hx185_3
                      try clear hx185_4
                      try clear hx185_5
                      try clear hx185_6
                      try clear hx190_0
                      try clear hx190_1
                      try clear hx190_2
                      try clear hx190_3
                      try clear hx190_4
                      try clear hx190_5
                      try clear hx190_6
                      try clear hx194_0
                      try clear hx194_1
                      try clear hx194_2
                      try clear hx194_3
                      try clear hx194_4
                      try clear hx194_5
                      try clear hx194_6
                      try clear hx198_0
                      try clear hx198_1
                      try clear hx198_2
                      try clear hx198_3
                      try clear hx198_4
                      try clear hx198_5
                      try clear hx198_6
                      try clear p1
                      try clear p18
                      try clear p185
                      try clear p19
                      try clear p190
                      try clear p194
                      try clear p198
                      try clear p2
                      try clear p6
                      try clear q1
                      try clear q18
                      try clear q185
                      try clear q19
                      try clear q190
                      try clear q194
                      try clear q198
                      try clear q2
                      try clear q20
                      try clear q5
                      obtain ⟨x5_3, x11_3, rfl, HA, HK3, HO_5, BK186, HB⟩ := hrel
                      cases gk with
                      | zero => exact absurd HA.out (by simp [colophonref27_Flow.l1])
                      | succ k3 =>
                        have H := HA.out
                        clear HA
                        simp only [colophonref27_Flow.l1] at H
                        by_cases c30 : x11_3 < (((rd_T49 l0 x7_1).f0).length : Int)
                        · rw [if_pos c30] at H
                          have c30b0 : decide (x11_3 < (((rd_T49 l0 x7_1).f0).length : Int)) = true := decide_eq_true c30
                          clear c30
                          by_cases c31 : x11_3 > 0
                          · rw [if_pos c31] at H
                            have c31b0 : decide (0 < x11_3) = true := decide_eq_true c31
                            clear c31
                            replace H := Option.bind_eq_some_iff.mp H
                            obtain ⟨t202, A320, H⟩ := H
                            replace H : (if x5_3.length < 4398046511104 then ((some (x5_3 ++ [(⟨3, 0, 0, t202⟩ : S43)] : List (S43))).bind fun y203 => (if 0 ≤ x11_3 then ((colophonref27_at.f ((rd_T49 l0 x7_1).f1) x11_3).bind fun t207 => (if y203.length < 4398046511104 then (colophonref27_Flow.l1 k3 l0 a1 (y203 ++ [(⟨1, rd ((rd_T49 l0 x7_1).f0) x11_3, t207, 0⟩ : S43)]) x7_1 (wrap64 (x11_3 + 1)) ((rd_T49 l0 x7_1).f0) ((rd_T49 l0 x7_1).f1) ((rd_T49 l0 x7_1).f2) ((rd_T49 l0 x7_1).f3) ((rd_T49 l0 x7_1).f4) ((rd_T49 l0 x7_1).f5) false) else (none))) else (none))) else (none)) = some r := H
                            have A32 := Aside0.mk A320
                            clear A320
                            by_cases c33 : x5_3.length < 4398046511104
                            · rw [if_pos c33] at H
                              have LMc33 := Aside0.mk c33
                              clear c33
                              obtain ⟨y203, hy203⟩ : ∃ y_ : List (S43), y_ = (x5_3 ++ [(⟨3, 0, 0, t202⟩ : S43)]) := ⟨_, rfl⟩
                              replace H : (if 0 ≤ x11_3 then ((colophonref27_at.f ((rd_T49 l0 x7_1).f1) x11_3).bind fun t207 => (if y203.length < 4398046511104 then (colophonref27_Flow.l1 k3 l0 a1 (y203 ++ [(⟨1, rd ((rd_T49 l0 x7_1).f0) x11_3, t207, 0⟩ : S43)]) x7_1 (wrap64 (x11_3 + 1)) ((rd_T49 l0 x7_1).f0) ((rd_T49 l0 x7_1).f1) ((rd_T49 l0 x7_1).f2) ((rd_T49 l0 x7_1).f3) ((rd_T49 l0 x7_1).f4) ((rd_T49 l0 x7_1).f5) false) else (none))) else (none)) = some r := by first | (rw [hy203]; with_reducible exact H) | (have H2_ := (Option.bind_some _ _).symm.trans H; rw [hy203]; with_reducible exact H2_) | (have H2_ := (Option.bind_some _ _).symm.trans H; with_reducible exact H2_) | with_reducible exact H | (rw [hy203]; exact H) | exact H
                              have Ny203 := Aside0.mk hy203
                              clear hy203
                              by_cases c34 : 0 ≤ x11_3
                              · rw [if_pos c34] at H
                                have c34b0 : decide (0 ≤ x11_3) = true := decide_eq_true c34
                                clear c34
                                replace H := Option.bind_eq_some_iff.mp H
                                obtain ⟨t207, A350, H⟩ := H
                                replace H : (if y203.length < 4398046511104 then (colophonref27_Flow.l1 k3 l0 a1 (y203 ++ [(⟨1, rd ((rd_T49 l0 x7_1).f0) x11_3, t207, 0⟩ : S43)]) x7_1 (wrap64 (x11_3 + 1)) ((rd_T49 l0 x7_1).f0) ((rd_T49 l0 x7_1).f1) ((rd_T49 l0 x7_1).f2) ((rd_T49 l0 x7_1).f3) ((rd_T49 l0 x7_1).f4) ((rd_T49 l0 x7_1).f5) false) else (none)) = some r := H
                                have A35 := Aside0.mk A350
                                clear A350
                                by_cases c36 : y203.length < 4398046511104
                                · rw [if_pos c36] at H
                                  have LMc36 := Aside0.mk c36
                                  clear c36
                                  obtain ⟨y208, hy208⟩ : ∃ y_ : List (S43), y_ = (y203 ++ [(⟨1, rd ((rd_T49 l0 x7_1).f0) x11_3, t207, 0⟩ : S43)]) := ⟨_, rfl⟩
                                  replace H : (colophonref27_Flow.l1 k3 l0 a1 y208 x7_1 (wrap64 (x11_3 + 1)) ((rd_T49 l0 x7_1).f0) ((rd_T49 l0 x7_1).f1) ((rd_T49 l0 x7_1).f2) ((rd_T49 l0 x7_1).f3) ((rd_T49 l0 x7_1).f4) ((rd_T49 l0 x7_1).f5) false) = some r := by first | (rw [hy208]; with_reducible exact H) | (have H2_ := (Option.bind_some _ _).symm.trans H; rw [hy208]; with_reducible exact H2_) | (have H2_ := (Option.bind_some _ _).symm.trans H; with_reducible exact H2_) | with_reducible exact H | (rw [hy208]; exact H) | exact H
                                  have Ny208 := Aside0.mk hy208
                                  clear hy208
                                  have H' := Aside0.mk H
                                  clear H
                                  have hcz37_0 : wr.cell? ⟨gb186, 0, none⟩ = some (.slice A185_0 ((rd_T49 l0 x7_1).f0).length c185_0) := (blk_cell BK186.out 0).trans rfl
                                  have hcz37_1 : wr.cell? ⟨gb186, 1, none⟩ = some (.slice A185_1 ((rd_T49 l0 x7_1).f1).length c185_1) := (blk_cell BK186.out 1).trans rfl
                                  have hcz37_2 : wr.cell? ⟨gb186, 2, none⟩ = some (.slice A185_2 ((rd_T49 l0 x7_1).f2).length c185_2) := (blk_cell BK186.out 2).trans rfl
                                  have hcz37_3 : wr.cell? ⟨gb186, 3, none⟩ = some (.int .i64 ((rd_T49 l0 x7_1).f3)) := (blk_cell BK186.out 3).trans rfl
                                  have hcz37_4 : wr.cell? ⟨gb186, 4, none⟩ = some (.int .i64 ((rd_T49 l0 x7_1).f4)) := (blk_cell BK186.out 4).trans rfl
                                  have hcz37_5 : wr.cell? ⟨gb186, 5, none⟩ = some (.bool ((rd_T49 l0 x7_1).f5)) := (blk_cell BK186.out 5).trans rfl
                                  have hcz37_6 : wr.cell? ⟨gb186, 6, none⟩ = some (.bool false) := (blk_cell BK186.out 6).trans rfl
                                  have hfz37_0 := blk_frozen BK186.out 0
                                  have hfz37_1 := blk_frozen BK186.out 1
                                  have hfz37_2 := blk_frozen BK186.out 2
                                  have hfz37_3 := blk_frozen BK186.out 3
                                  have hfz37_4 := blk_frozen BK186.out 4
                                  have hfz37_5 := blk_frozen BK186.out 5
                                  have hfz37_6 := blk_frozen BK186.out 6
                                  try go_wp2_with (first | ((with_reducible refine gate_callee (f := 51) rfl ?_); refine goesL_ (some 73) rfl rfl Try.func51 (by kernel_rfl) rfl #[.slice A185_2 ((rd_T49 l0 x7_1).f2).length c185_2, .int .i64 (wrap64 (x11_3 - 1))] rfl (by (try simp only [List.map_toArray, List.map_cons, List.map_nil]); first | done | rfl | (simp only [List.length_drop, List.length_take]; rfl)) ?_; (with_reducible refine (colophonref27_at.calls _ _ ((rd_T49 l0 x7_1).f2) (wrap64 (x11_3 - 1)) t202 _ ?side1 ?side2 A32.out).mono ?_); (case side1 => repeat (first | exact (Kd.C_below HR185_2.out HB.out) | (with_reducible refine Kd.C_alloc ?_ _) | (with_reducible refine Kd.C_drewN ?_ _) | (with_reducible refine Kd.C_drew ?_))); (case side2 => exact HC185_2.out); rintro e w' ⟨rfl, ⟨nd, rfl⟩⟩; refine ⟨_, rfl, ?_⟩) | ((with_reducible refine gate_builtin (b := .append) (xs := #[.tmp 68, .tmp 75]) rfl ?_); at_builtin; refine Kd.R_append k43 (w0 := w) w.heap.size rfl (.tmp 68) (.tmp 75) 22 43 (.agg #[(.int .i64 0), (.int .i64 0), (.int .i64 0), (.int .i64 0)]) 32 rfl Try.underlying22 info43 rfl (by decide) (by omega) u5 x5_3 (⟨3, 0, 0, t202⟩ : S43) [.int .i64 3, .int .i64 0, .int .i64 0, .int .i64 t202] (fun _ => True) (fun _ => False) rfl rfl ?aP (fun _ hk => hk.elim) ?aF ?aO ?aB ?aS ?aL ?_; (case aP => exact k43_mkM _ _ _ (⟨3, 0, 0, t202⟩ : S43)); (case aB => exact (by repeat (first | (with_reducible first | exact HB.out | apply below_alloc | apply pw_below_drewN | apply below_drew1 | refine below_set ?_ GE186.out) | exact HB.out))); (case aF => exact (fun _ _ => trivial)); (case aO => exact (by (with_reducible repeat (first | apply Kd.R_alloc | apply Kd.R_drewN | apply Kd.R_drew)); exact HO_5.out)); (case aS => exact (below_size (by repeat (first | (with_reducible first | exact HB.out | apply below_alloc | apply pw_below_drewN | apply below_drew1 | refine below_set ?_ GE186.out) | exact HB.out)))); (case aL => have := LMc33.out; omega); intro v204 w38 ho hb hg hat; rw [← Ny203.out] at ho; have n0_ := Aside0.mk (blk_grown (g := gb186) (o := .cells #[.slice A185_0 ((rd_T49 l0 x7_1).f0).length c185_0, .slice A185_1 ((rd_T49 l0 x7_1).f1).length c185_1, .slice A185_2 ((rd_T49 l0 x7_1).f2).length c185_2, .int .i64 ((rd_T49 l0 x7_1).f3), .int .i64 ((rd_T49 l0 x7_1).f4), .bool ((rd_T49 l0 x7_1).f5), .bool false] 49 (0, 0)) (by (with_reducible repeat (first | refine blk_drewN ?_ _ | refine blk_drew ?_ | refine blk_alloc ?_ _)); exact BK186.out) hg (Kd.R_ne HO_5.out BK186.out (by decide))); have n1_ := Aside0.mk (hb); have n2_ := Aside0.mk (ho); clear BK186; clear HB; clear HO_5; have BK186 := n0_; have HB := n1_; have HO205 := n2_; clear n0_ n1_ n2_; clear ho hb hg hat))
                                  have n0_ := Aside0.mk (Kd.R_drew HO205.out)
                                  have n1_ := Aside0.mk (blk_drew BK186.out)
                                  have n2_ := Aside0.mk (below_drew1 HB.out)
                                  clear HO205
                                  clear BK186
                                  clear HB
                                  have HO205 := n0_
                                  have BK186 := n1_
                                  have HB := n2_
                                  clear n0_ n1_ n2_
                                  have p206 : 0 ≤ (x11_3 : Int) := of_decide_eq_true (by first | (with_reducible assumption) | assumption)
                                  have q206 : x11_3 < (((rd_T49 l0 x7_1).f0).length : Int) := of_decide_eq_true (by first | (with_reducible assumption) | assumption)
                                  obtain ⟨ad206, e206, hx206_0⟩ := Kd.at_int HR185_0.out x11_3 p206 q206
                                  have hw206_0 := hx206_0
                                  cases e206
                                  replace hx206_0 := (HB.out.cell (World.block_lt_of_cell? w _ hx206_0)).trans hx206_0
                                  replace p206 := eq_true p206
                                  replace q206 := eq_true q206
                                  refine start_ (n := 14) (S := fun w' => w'.cell? ⟨gb186, 0, none⟩ = some (.slice (some ad206) ((rd_T49 l0 x7_1).f0).length c185_0) ∧ w'.cell? ⟨gb186, 1, none⟩ = some (.slice A185_1 ((rd_T49 l0 x7_1).f1).length c185_1) ∧ w'.cell? ⟨gb186, 2, none⟩ = some (.slice A185_2 ((rd_T49 l0 x7_1).f2).length c185_2) ∧ w'.cell? ⟨gb186, 3, none⟩ = some (.int .i64 ((rd_T49 l0 x7_1).f3)) ∧ w'.cell? ⟨gb186, 4, none⟩ = some (.int .i64 ((rd_T49 l0 x7_1).f4)) ∧ w'.cell? ⟨gb186, 5, none⟩ = some (.bool ((rd_T49 l0 x7_1).f5)) ∧ w'.cell? ⟨gb186, 6, none⟩ = some (.bool false) ∧ w'.cell? (ad206.add (x11_3).toNat) = some (.int .i64 (rd ((rd_T49 l0 x7_1).f0) x11_3))) (ds := []) #[false, false, false, false, false, false, false, false, false, false, false, false, false, false] (by kernel_rfl) rfl rfl ⟨(blk_cell BK186.out 0).trans rfl, (blk_cell BK186.out 1).trans rfl, (blk_cell BK186.out 2).trans rfl, (blk_cell BK186.out 3).trans rfl, (blk_cell BK186.out 4).trans rfl, (blk_cell BK186.out 5).trans rfl, (blk_cell BK186.out 6).trans rfl, ((HB.out.cell (World.block_lt_of_cell? w _ hw206_0)).trans hw206_0)⟩ (fun hHeld => ?_); refine with_tabW colophonref27_Flow.tab24 colophonref27_Flow.bits24 (fun HT_ HW_ => ?_)
                                  generalize w38.drew = w39 at HO205 BK186 HB hx206_0 hHeld ⊢
                                  refine pure_ (i := 0) (N := some 77) (v := ?_) (a' := ?_) #[true, false, false, false, false, false, false, false, false, false, false, false, false, false] rfl rfl (any_of HT_.out (by kernel_rfl)) (fun _ _ _ h => h) (Or.inl ⟨by rfl, ?_⟩) ?_ ?_
                                  rotate_left
                                  · intro w'
                                    go_simp
                                    with_reducible rfl
                                  rotate_left
                                  · simp only [Act.put, List.setIfInBounds_toArray, List.set_cons_zero, List.set_cons_succ, i64_w, i32_w]
                                    rfl
                                  refine pure_ (i := 1) (N := some 78) (v := ?_) (a' := ?_) #[true, true, false, false, false, false, false, false, false, false, false, false, false, false] rfl rfl (any_of HT_.out (by kernel_rfl)) (fun _ _ _ h => h) (Or.inl ⟨by rfl, ?_⟩) ?_ ?_
                                  rotate_left
                                  · intro w'
                                    go_simp
                                    with_reducible rfl
                                  rotate_left
                                  · simp only [Act.put, List.setIfInBounds_toArray, List.set_cons_zero, List.set_cons_succ, i64_w, i32_w]
                                    rfl
                                  refine pure_ (i := 3) (N := some 80) (v := ?_) (a' := ?_) #[true, true, false, true, false, false, false, false, false, false, false, false, false, false] rfl rfl (any_of HT_.out (by kernel_rfl)) (fun _ _ _ h => h) (Or.inl ⟨by rfl, ?_⟩) ?_ ?_
                                  rotate_left
                                  · intro w'
                                    go_simp
                                    with_reducible rfl
                                  rotate_left
                                  · simp only [Act.put, List.setIfInBounds_toArray, List.set_cons_zero, List.set_cons_succ, i64_w, i32_w]
                                    rfl
                                  refine pure_ (i := 6) (N := some 83) (v := ?_) (a' := ?_) #[true, true, false, true, false, false, true, false, false, false, false, false, false, false] rfl rfl (any_of HT_.out (by kernel_rfl)) (fun _ _ _ h => h) (Or.inl ⟨by rfl, ?_⟩) ?_ ?_
                                  rotate_left
                                  · intro w'
                                    go_simp
                                    with_reducible rfl
                                  rotate_left
                                  · simp only [Act.put, List.setIfInBounds_toArray, List.set_cons_zero, List.set_cons_succ, i64_w, i32_w]
                                    rfl
                                  refine pure_ (i := 8) (N := some 85) (v := ?_) (a' := ?_) #[true, true, false, true, false, false, true, false, true, false, false, false, false, false] rfl rfl (any_of HT_.out (by kernel_rfl)) (fun _ _ _ h => h) (Or.inl ⟨by rfl, ?_⟩) ?_ ?_
                                  rotate_left
                                  · intro w'
                                    go_simp
                                    with_reducible rfl
                                  rotate_left
                                  · simp only [Act.put, List.setIfInBounds_toArray, List.set_cons_zero, List.set_cons_succ, i64_w, i32_w]
                                    rfl
                                  refine take_ (i := 2) (N := some 79) (v := ?_) (a' := ?_) #[true, true, true, true, false, false, true, false, true, false, false, false, false, false] rfl rfl (take_ofW HT_.out HW_.out (by kernel_rfl)) (fun _ _ _ h => h) (Or.inl ⟨by rfl, ?_⟩) hHeld ?_ ?_
                                  rotate_left
                                  · rintro w' ⟨s0, s1, s2, s3, s4, s5, s6, s7⟩
                                    go_simp
                                    with_reducible rfl
                                  rotate_left
                                  · simp only [Act.put, List.setIfInBounds_toArray, List.set_cons_zero, List.set_cons_succ, i64_w, i32_w]
                                    rfl
                                  refine pure_ (i := 4) (N := some 81) (v := ?_) (a' := ?_) #[true, true, true, true, true, false, true, false, true, false, false, false, false, false] rfl rfl (any_of HT_.out (by kernel_rfl)) (fun _ _ _ h => h) (Or.inl ⟨by rfl, ?_⟩) ?_ ?_
                                  rotate_left
                                  · intro w'
                                    go_simp
                                    with_reducible rfl
                                  rotate_left
                                  · simp only [Act.put, List.setIfInBounds_toArray, List.set_cons_zero, List.set_cons_succ, i64_w, i32_w]
                                    rfl
                                  refine take_ (i := 5) (N := some 82) (v := ?_) (a' := ?_) #[true, true, true, true, true, true, true, false, true, false, false, false, false, false] rfl rfl (take_ofW HT_.out HW_.out (by kernel_rfl)) (fun _ _ _ h => h) (Or.inl ⟨by rfl, ?_⟩) hHeld ?_ ?_
                                  rotate_left
                                  · rintro w' ⟨s0, s1, s2, s3, s4, s5, s6, s7⟩
                                    go_simp
                                    with_reducible rfl
                                  rotate_left
                                  · simp only [Act.put, List.setIfInBounds_toArray, List.set_cons_zero, List.set_cons_succ, i64_w, i32_w]
                                    rfl
                                  refine take_ (i := 7) (N := some 84) (v := ?_) (a' := ?_) #[true, true, true, true, true, true, true, true, true, false, false, false, false, false] rfl rfl (take_ofW HT_.out HW_.out (by kernel_rfl)) (fun _ _ _ h => h) (Or.inl ⟨by rfl, ?_⟩) hHeld ?_ ?_
                                  rotate_left
                                  · rintro w' ⟨s0, s1, s2, s3, s4, s5, s6, s7⟩
                                    go_simp
                                    with_reducible rfl
                                  rotate_left
                                  · simp only [Act.put, List.setIfInBounds_toArray, List.set_cons_zero, List.set_cons_succ, i64_w, i32_w]
                                    rfl
                                  refine one_ (i := 9) (N := some 86) #[true, true, true, true, true, true, true, true, true, true, false, false, false, false] rfl rfl (one_of HT_.out (by kernel_rfl)) (by decide) (fun K hK => ?_)
                                  refine goes_ Try.func51 (by kernel_rfl) rfl #[.slice A185_1 ((rd_T49 l0 x7_1).f1).length c185_1, .int .i64 x11_3] (by rfl) rfl rfl (by (try simp only [List.map_toArray, List.map_cons, List.map_nil]); first | done | rfl | (simp only [List.length_drop, List.length_take]; rfl)) ?_
                                  with_reducible refine (colophonref27_at.calls _ _ ((rd_T49 l0 x7_1).f1) x11_3 t207 _ ?side1 ?side2 A35.out).mono ?_
                                  (case side1 => repeat (first | exact (Kd.C_below HR185_1.out HB.out) | (with_reducible refine Kd.C_alloc ?_ _) | (with_reducible refine Kd.C_drewN ?_ _) | (with_reducible refine Kd.C_drew ?_)))
                                  (case side2 => exact HC185_1.out)
                                  rintro e w' ⟨rfl, ⟨nd, rfl⟩⟩
                                  refine ⟨_, rfl, ?_⟩
                                  refine hK.out _ _ ⟨(blk_cell BK186.out 0).trans rfl, (blk_cell BK186.out 1).trans rfl, (blk_cell BK186.out 2).trans rfl, (blk_cell BK186.out 3).trans rfl, (blk_cell BK186.out 4).trans rfl, (blk_cell BK186.out 5).trans rfl, (blk_cell BK186.out 6).trans rfl, ((HB.out.cell (World.block_lt_of_cell? w _ hw206_0)).trans hw206_0)⟩ (fun hHeld => ?_)
                                  clear hK K
                                  refine norm_ (a' := ?_) ?_ ?_
                                  rotate_left
                                  · show Act.put _ (some 86) _ = _
                                    simp only [Act.put, List.setIfInBounds_toArray, List.set_cons_zero, List.set_cons_succ, i64_w, i32_w]
                                    rfl
                                  refine pure_ (i := 10) (N := some 87) (v := ?_) (a' := ?_) #[true, true, true, true, true, true, true, true, true, true, true, false, false, false] rfl rfl (any_of HT_.out (by kernel_rfl)) (fun _ _ _ h => h) (Or.inl ⟨by rfl, ?_⟩) ?_ ?_
                                  rotate_left
                                  · intro w'
                                    go_simp
                                    with_reducible rfl
                                  rotate_left
                                  · simp only [Act.put, List.setIfInBounds_toArray, List.set_cons_zero, List.set_cons_succ, i64_w, i32_w]
                                    rfl
                                  refine one_ (i := 11) (N := some 88) #[true, true, true, true, true, true, true, true, true, true, true, true, false, false] rfl rfl (one_of HT_.out (by kernel_rfl)) (by decide) (fun K hK => ?_)
                                  refine value_ (w1 := ?_) (v := ?_) (by rfl) rfl ?_ ?_
                                  rotate_left 2
                                  · go_simp
                                    constructor
                                    · rfl
                                    · rfl
                                  refine hK.out _ _ ⟨(blk_cell (blk_alloc BK186.out _) 0).trans rfl, (blk_cell (blk_alloc BK186.out _) 1).trans rfl, (blk_cell (blk_alloc BK186.out _) 2).trans rfl, (blk_cell (blk_alloc BK186.out _) 3).trans rfl, (blk_cell (blk_alloc BK186.out _) 4).trans rfl, (blk_cell (blk_alloc BK186.out _) 5).trans rfl, (blk_cell (blk_alloc BK186.out _) 6).trans rfl, (World.cell?_alloc_lt _ _ _ (World.block_lt_of_cell? _ _ (((HB.out.cell (World.block_lt_of_cell? w _ hw206_0)).trans hw206_0)))).trans (((HB.out.cell (World.block_lt_of_cell? w _ hw206_0)).trans hw206_0))⟩ (fun hHeld => ?_)
                                  clear hK K
                                  refine norm_ (a' := ?_) ?_ ?_
                                  rotate_left
                                  · show Act.put _ (some 88) _ = _
                                    simp only [Act.put, List.setIfInBounds_toArray, List.set_cons_zero, List.set_cons_succ, i64_w, i32_w]
                                    rfl
                                  refine one_ (i := 12) (N := some 89) #[true, true, true, true, true, true, true, true, true, true, true, true, true, false] rfl rfl (one_of HT_.out (by kernel_rfl)) (by decide) (fun K hK => ?_)
                                  refine Kd.R_append_step k43 (w0 := w) w.heap.size (by rfl) (.tmp 77) (.tmp 88) 22 43 (.agg #[(.int .i64 0), (.int .i64 0), (.int .i64 0), (.int .i64 0)]) 32 rfl Try.underlying22 info43 rfl (by decide) (by omega) v204 y203 (⟨1, rd ((rd_T49 l0 x7_1).f0) x11_3, t207, 0⟩ : S43) [.int .i64 1, .int .i64 (rd ((rd_T49 l0 x7_1).f0) x11_3), .int .i64 t207, .int .i64 0] (fun _ => True) (fun _ => False) rfl rfl ?aP (fun _ hk => hk.elim) ?aF ?aO ?aB ?aS ?aL ?_
                                  (case aP => exact k43_mkM _ _ _ (⟨1, rd ((rd_T49 l0 x7_1).f0) x11_3, t207, 0⟩ : S43))
                                  (case aB => exact (by repeat (first | (with_reducible first | exact HB.out | apply below_alloc | apply pw_below_drewN | apply below_drew1 | refine below_set ?_ GE186.out) | exact HB.out)))
                                  (case aF => exact (fun _ _ => trivial))
                                  (case aO => exact (by (with_reducible repeat (first | apply Kd.R_alloc | apply Kd.R_drewN | apply Kd.R_drew)); exact HO205.out))
                                  (case aS => exact (below_size (by repeat (first | (with_reducible first | exact HB.out | apply below_alloc | apply pw_below_drewN | apply below_drew1 | refine below_set ?_ GE186.out) | exact HB.out))))
                                  (case aL => have := LMc36.out; omega)
                                  intro v209 w40 ho hb hg hat
                                  rw [← Ny208.out] at ho
                                  have n0_ := Aside0.mk (blk_grown (g := gb186) (o := .cells #[.slice (some ad206) ((rd_T49 l0 x7_1).f0).length c185_0, .slice A185_1 ((rd_T49 l0 x7_1).f1).length c185_1, .slice A185_2 ((rd_T49 l0 x7_1).f2).length c185_2, .int .i64 ((rd_T49 l0 x7_1).f3), .int .i64 ((rd_T49 l0 x7_1).f4), .bool ((rd_T49 l0 x7_1).f5), .bool false] 49 (0, 0)) (by (with_reducible repeat (first | refine blk_drewN ?_ _ | refine blk_drew ?_ | refine blk_alloc ?_ _)); exact BK186.out) hg (Kd.R_ne HO205.out BK186.out (by decide)))
                                  have n1_ := Aside0.mk (hb)
                                  have n2_ := Aside0.mk (ho)
                                  clear BK186
                                  clear HB
                                  clear HO205
                                  have BK186 := n0_
                                  have HB := n1_
                                  have HO210 := n2_
                                  clear n0_ n1_ n2_
                                  clear ho hb hg hat
                                  refine hK.out _ _ ⟨(blk_cell BK186.out 0).trans rfl, (blk_cell BK186.out 1).trans rfl, (blk_cell BK186.out 2).trans rfl, (blk_cell BK186.out 3).trans rfl, (blk_cell BK186.out 4).trans rfl, (blk_cell BK186.out 5).trans rfl, (blk_cell BK186.out 6).trans rfl, ((HB.out.cell (World.block_lt_of_cell? w _ hw206_0)).trans hw206_0)⟩ (fun hHeld => ?_)
                                  clear hK K
                                  refine norm_ (a' := ?_) ?_ ?_
                                  rotate_left
                                  · show Act.put _ (some 89) _ = _
                                    simp only [Act.put, List.setIfInBounds_toArray, List.set_cons_zero, List.set_cons_succ, i64_w, i32_w]
                                    rfl
                                  refine pure_ (i := 13) (N := some 5) (v := ?_) (a' := ?_) #[true, true, true, true, true, true, true, true, true, true, true, true, true, true] rfl rfl (any_of HT_.out (by kernel_rfl)) (fun _ _ _ h => h) (Or.inl ⟨by rfl, ?_⟩) ?_ ?_
                                  rotate_left
                                  · intro w'
                                    go_simp
                                    with_reducible rfl
                                  rotate_left
                                  · simp only [Act.put, List.setIfInBounds_toArray, List.set_cons_zero, List.set_cons_succ, i64_w, i32_w]
                                    rfl
                                  refine done_ (done_of HT_.out (by kernel_rfl)) ?_
                                  try go_wp2
                                  go_roundg k3
                                  case measure => have := HK1.out; have := HJ13.out; have := HK3.out; omega
                                  case rel => exact ⟨(y208), (wrap64 (x11_3 + 1)), (by first | rfl | (simp; done) | (simp [*]; done)), H', ⟨by have := HK1.out; have := HJ13.out; have := HK3.out; omega⟩, ⟨by (with_reducible repeat (first | apply Kd.R_alloc | apply Kd.R_drewN | apply Kd.R_drew)); exact HO210.out⟩, ⟨by (with_reducible repeat (first | refine blk_drewN ?_ _ | refine blk_drew ?_ | refine blk_alloc ?_ _)); exact BK186.out⟩, ⟨by repeat (first | (with_reducible first | exact HB.out | apply below_alloc | apply pw_below_drewN | apply below_drew1 | refine below_set ?_ GE186.out) | exact HB.out)⟩⟩
                                · rw [if_neg c36] at H
                                  exact absurd H (by simp)
                              · rw [if_neg c34] at H
                                exact absurd H (by simp)
                            · rw [if_neg c33] at H
                              exact absurd H (by simp)
                          · rw [if_neg c31] at H
                            have c31b0 : decide (0 < x11_3) = false := decide_eq_false c31
                            clear c31
                            by_cases c41 : 0 ≤ x11_3
                            · rw [if_pos c41] at H
                              have c41b0 : decide (0 ≤ x11_3) = true := decide_eq_true c41
                              clear c41
                              replace H := Option.bind_eq_some_iff.mp H
                              obtain ⟨t212, A420, H⟩ := H
                              replace H : (if x5_3.length < 4398046511104 then (colophonref27_Flow.l1 k3 l0 a1 (x5_3 ++ [(⟨1, rd ((rd_T49 l0 x7_1).f0) x11_3, t212, 0⟩ : S43)]) x7_1 (wrap64 (x11_3 + 1)) ((rd_T49 l0 x7_1).f0) ((rd_T49 l0 x7_1).f1) ((rd_T49 l0 x7_1).f2) ((rd_T49 l0 x7_1).f3) ((rd_T49 l0 x7_1).f4) ((rd_T49 l0 x7_1).f5) false) else (none)) = some r := H
                              have A42 := Aside0.mk A420
                              clear A420
                              by_cases c43 : x5_3.length < 4398046511104
                              · rw [if_pos c43] at H
                                have LMc43 := Aside0.mk c43
                                clear c43
                                obtain ⟨y213, hy213⟩ : ∃ y_ : List (S43), y_ = (x5_3 ++ [(⟨1, rd ((rd_T49 l0 x7_1).f0) x11_3, t212, 0⟩ : S43)]) := ⟨_, rfl⟩
                                replace H : (colophonref27_Flow.l1 k3 l0 a1 y213 x7_1 (wrap64 (x11_3 + 1)) ((rd_T49 l0 x7_1).f0) ((rd_T49 l0 x7_1).f1) ((rd_T49 l0 x7_1).f2) ((rd_T49 l0 x7_1).f3) ((rd_T49 l0 x7_1).f4) ((rd_T49 l0 x7_1).f5) false) = some r := by first | (rw [hy213]; with_reducible exact H) | (have H2_ := (Option.bind_some _ _).symm.trans H; rw [hy213]; with_reducible exact H2_) | (have H2_ := (Option.bind_some _ _).symm.trans H; with_reducible exact H2_) | with_reducible exact H | (rw [hy213]; exact H) | exact H
                                have Ny213 := Aside0.mk hy213
                                clear hy213
                                have H' := Aside0.mk H
                                clear H
                                have hcz44_0 : wr.cell? ⟨gb186, 0, none⟩ = some (.slice A185_0 ((rd_T49 l0 x7_1).f0).length c185_0) := (blk_cell BK186.out 0).trans rfl
                                have hcz44_1 : wr.cell? ⟨gb186, 1, none⟩ = some (.slice A185_1 ((rd_T49 l0 x7_1).f1).length c185_1) := (blk_cell BK186.out 1).trans rfl
                                have hcz44_2 : wr.cell? ⟨gb186, 2, none⟩ = some (.slice A185_2 ((rd_T49 l0 x7_1).f2).length c185_2) := (blk_cell BK186.out 2).trans rfl
                                have hcz44_3 : wr.cell? ⟨gb186, 3, none⟩ = some (.int .i64 ((rd_T49 l0 x7_1).f3)) := (blk_cell BK186.out 3).trans rfl
                                have hcz44_4 : wr.cell? ⟨gb186, 4, none⟩ = some (.int .i64 ((rd_T49 l0 x7_1).f4)) := (blk_cell BK186.out 4).trans rfl
                                have hcz44_5 : wr.cell? ⟨gb186, 5, none⟩ = some (.bool ((rd_T49 l0 x7_1).f5)) := (blk_cell BK186.out 5).trans rfl
                                have hcz44_6 : wr.cell? ⟨gb186, 6, none⟩ = some (.bool false) := (blk_cell BK186.out 6).trans rfl
                                have hfz44_0 := blk_frozen BK186.out 0
                                have hfz44_1 := blk_frozen BK186.out 1
                                have hfz44_2 := blk_frozen BK186.out 2
                                have hfz44_3 := blk_frozen BK186.out 3
                                have hfz44_4 := blk_frozen BK186.out 4
                                have hfz44_5 := blk_frozen BK186.out 5
                                have hfz44_6 := blk_frozen BK186.out 6
                                try go_wp2
                                have n0_ := Aside0.mk (Kd.R_drew HO_5.out)
                                have n1_ := Aside0.mk (blk_drew BK186.out)
                                have n2_ := Aside0.mk (below_drew1 HB.out)
                                clear HO_5
                                clear BK186
                                clear HB
                                have HO_5 := n0_
                                have BK186 := n1_
                                have HB := n2_
                                clear n0_ n1_ n2_
                                have p211 : 0 ≤ (x11_3 : Int) := of_decide_eq_true (by first | (with_reducible assumption) | assumption)
                                have q211 : x11_3 < (((rd_T49 l0 x7_1).f0).length : Int) := of_decide_eq_true (by first | (with_reducible assumption) | assumption)
                                obtain ⟨ad211, e211, hx211_0⟩ := Kd.at_int HR185_0.out x11_3 p211 q211
                                have hw211_0 := hx211_0
                                cases e211
                                replace hx211_0 := (HB.out.cell (World.block_lt_of_cell? w _ hx211_0)).trans hx211_0
                                replace p211 := eq_true p211
                                replace q211 := eq_true q211
                                refine start_ (n := 14) (S := fun w' => w'.cell? ⟨gb186, 0, none⟩ = some (.slice (some ad211) ((rd_T49 l0 x7_1).f0).length c185_0) ∧ w'.cell? ⟨gb186, 1, none⟩ = some (.slice A185_1 ((rd_T49 l0 x7_1).f1).length c185_1) ∧ w'.cell? ⟨gb186, 2, none⟩ = some (.slice A185_2 ((rd_T49 l0 x7_1).f2).length c185_2) ∧ w'.cell? ⟨gb186, 3, none⟩ = some (.int .i64 ((rd_T49 l0 x7_1).f3)) ∧ w'.cell? ⟨gb186, 4, none⟩ = some (.int .i64 ((rd_T49 l0 x7_1).f4)) ∧ w'.cell? ⟨gb186, 5, none⟩ = some (.bool ((rd_T49 l0 x7_1).f5)) ∧ w'.cell? ⟨gb186, 6, none⟩ = some (.bool false) ∧ w'.cell? (ad211.add (x11_3).toNat) = some (.int .i64 (rd ((rd_T49 l0 x7_1).f0) x11_3))) (ds := []) #[false, false, false, false, false, false, false, false, false, false, false, false, false, false] (by kernel_rfl) rfl rfl ⟨(blk_cell BK186.out 0).trans rfl, (blk_cell BK186.out 1).trans rfl, (blk_cell BK186.out 2).trans rfl, (blk_cell BK186.out 3).trans rfl, (blk_cell BK186.out 4).trans rfl, (blk_cell BK186.out 5).trans rfl, (blk_cell BK186.out 6).trans rfl, ((HB.out.cell (World.block_lt_of_cell? w _ hw211_0)).trans hw211_0)⟩ (fun hHeld => ?_); refine with_tabW colophonref27_Flow.tab24 colophonref27_Flow.bits24 (fun HT_ HW_ => ?_)
                                generalize wr.drew = w45 at HO_5 BK186 HB hx211_0 hHeld ⊢
                                refine pure_ (i := 0) (N := some 77) (v := ?_) (a' := ?_) #[true, false, false, false, false, false, false, false, false, false, false, false, false, false] rfl rfl (any_of HT_.out (by kernel_rfl)) (fun _ _ _ h => h) (Or.inl ⟨by rfl, ?_⟩) ?_ ?_
                                rotate_left
                                · intro w'
                                  go_simp
                                  with_reducible rfl
                                rotate_left
                                · simp only [Act.put, List.setIfInBounds_toArray, List.set_cons_zero, List.set_cons_succ, i64_w, i32_w]
                                  rfl
                                refine pure_ (i := 1) (N := some 78) (v := ?_) (a' := ?_) #[true, true, false, false, false, false, false, false, false, false, false, false, false, false] rfl rfl (any_of HT_.out (by kernel_rfl)) (fun _ _ _ h => h) (Or.inl ⟨by rfl, ?_⟩) ?_ ?_
                                rotate_left
                                · intro w'
                                  go_simp
                                  with_reducible rfl
                                rotate_left
                                · simp only [Act.put, List.setIfInBounds_toArray, List.set_cons_zero, List.set_cons_succ, i64_w, i32_w]
                                  rfl
                                refine pure_ (i := 3) (N := some 80) (v := ?_) (a' := ?_) #[true, true, false, true, false, false, false, false, false, false, false, false, false, false] rfl rfl (any_of HT_.out (by kernel_rfl)) (fun _ _ _ h => h) (Or.inl ⟨by rfl, ?_⟩) ?_ ?_
                                rotate_left
                                · intro w'
                                  go_simp
                                  with_reducible rfl
                                rotate_left
                                · simp only [Act.put, List.setIfInBounds_toArray, List.set_cons_zero, List.set_cons_succ, i64_w, i32_w]
                                  rfl
                                refine pure_ (i := 6) (N := some 83) (v := ?_) (a' := ?_) #[true, true, false, true, false, false, true, false, false, false, false, false, false, false] rfl rfl (any_of HT_.out (by kernel_rfl)) (fun _ _ _ h => h) (Or.inl ⟨by rfl, ?_⟩) ?_ ?_
                                rotate_left
                                · intro w'
                                  go_simp
                                  with_reducible rfl
                                rotate_left
                                · simp only [Act.put, List.setIfInBounds_toArray, List.set_cons_zero, List.set_cons_succ, i64_w, i32_w]
                                  rfl
                                refine pure_ (i := 8) (N := some 85) (v := ?_) (a' := ?_) #[true, true, false, true, false, false, true, false, true, false, false, false, false, false] rfl rfl (any_of HT_.out (by kernel_rfl)) (fun _ _ _ h => h) (Or.inl ⟨by rfl, ?_⟩) ?_ ?_
                                rotate_left
                                · intro w'
                                  go_simp
                                  with_reducible rfl
                                rotate_left
                                · simp only [Act.put, List.setIfInBounds_toArray, List.set_cons_zero, List.set_cons_succ, i64_w, i32_w]
                                  rfl
                                refine take_ (i := 2) (N := some 79) (v := ?_) (a' := ?_) #[true, true, true, true, false, false, true, false, true, false, false, false, false, false] rfl rfl (take_ofW HT_.out HW_.out (by kernel_rfl)) (fun _ _ _ h => h) (Or.inl ⟨by rfl, ?_⟩) hHeld ?_ ?_
                                rotate_left
                                · rintro w' ⟨s0, s1, s2, s3, s4, s5, s6, s7⟩
                                  go_simp
                                  with_reducible rfl
                                rotate_left
                                · simp only [Act.put, List.setIfInBounds_toArray, List.set_cons_zero, List.set_cons_succ, i64_w, i32_w]
                                  rfl
                                refine pure_ (i := 4) (N := some 81) (v := ?_) (a' := ?_) #[true, true, true, true, true, false, true, false, true, false, false, false, false, false] rfl rfl (any_of HT_.out (by kernel_rfl)) (fun _ _ _ h => h) (Or.inl ⟨by rfl, ?_⟩) ?_ ?_
                                rotate_left
                                · intro w'
                                  go_simp
                                  with_reducible rfl
                                rotate_left
                                · simp only [Act.put, List.setIfInBounds_toArray, List.set_cons_zero, List.set_cons_succ, i64_w, i32_w]
                                  rfl
                                refine take_ (i := 5) (N := some 82) (v := ?_) (a' := ?_) #[true, true, true, true, true, true, true, false, true, false, false, false, false, false] rfl rfl (take_ofW HT_.out HW_.out (by kernel_rfl)) (fun _ _ _ h => h) (Or.inl ⟨by rfl, ?_⟩) hHeld ?_ ?_
                                rotate_left
                                · rintro w' ⟨s0, s1, s2, s3, s4, s5, s6, s7⟩
                                  go_simp
                                  with_reducible rfl
                                rotate_left
                                · simp only [Act.put, List.setIfInBounds_toArray, List.set_cons_zero, List.set_cons_succ, i64_w, i32_w]
                                  rfl
                                refine take_ (i := 7) (N := some 84) (v := ?_) (a' := ?_) #[true, true, true, true, true, true, true, true, true, false, false, false, false, false] rfl rfl (take_ofW HT_.out HW_.out (by kernel_rfl)) (fun _ _ _ h => h) (Or.inl ⟨by rfl, ?_⟩) hHeld ?_ ?_
                                rotate_left
                                · rintro w' ⟨s0, s1, s2, s3, s4, s5, s6, s7⟩
                                  go_simp
                                  with_reducible rfl
                                rotate_left
                                · simp only [Act.put, List.setIfInBounds_toArray, List.set_cons_zero, List.set_cons_succ, i64_w, i32_w]
                                  rfl
                                refine one_ (i := 9) (N := some 86) #[true, true, true, true, true, true, true, true, true, true, false, false, false, false] rfl rfl (one_of HT_.out (by kernel_rfl)) (by decide) (fun K hK => ?_)
                                refine goes_ Try.func51 (by kernel_rfl) rfl #[.slice A185_1 ((rd_T49 l0 x7_1).f1).length c185_1, .int .i64 x11_3] (by rfl) rfl rfl (by (try simp only [List.map_toArray, List.map_cons, List.map_nil]); first | done | rfl | (simp only [List.length_drop, List.length_take]; rfl)) ?_
                                with_reducible refine (colophonref27_at.calls _ _ ((rd_T49 l0 x7_1).f1) x11_3 t212 _ ?side1 ?side2 A42.out).mono ?_
                                (case side1 => repeat (first | exact (Kd.C_below HR185_1.out HB.out) | (with_reducible refine Kd.C_alloc ?_ _) | (with_reducible refine Kd.C_drewN ?_ _) | (with_reducible refine Kd.C_drew ?_)))
                                (case side2 => exact HC185_1.out)
                                rintro e w' ⟨rfl, ⟨nd, rfl⟩⟩
                                refine ⟨_, rfl, ?_⟩
                                refine hK.out _ _ ⟨(blk_cell BK186.out 0).trans rfl, (blk_cell BK186.out 1).trans rfl, (blk_cell BK186.out 2).trans rfl, (blk_cell BK186.out 3).trans rfl, (blk_cell BK186.out 4).trans rfl, (blk_cell BK186.out 5).trans rfl, (blk_cell BK186.out 6).trans rfl, ((HB.out.cell (World.block_lt_of_cell? w _ hw211_0)).trans hw211_0)⟩ (fun hHeld => ?_)
                                clear hK K
                                refine norm_ (a' := ?_) ?_ ?_
                                rotate_left
                                · show Act.put _ (some 86) _ = _
                                  simp only [Act.put, List.setIfInBounds_toArray, List.set_cons_zero, List.set_cons_succ, i64_w, i32_w]
                                  rfl
                                refine pure_ (i := 10) (N := some 87) (v := ?_) (a' := ?_) #[true, true, true, true, true, true, true, true, true, true, true, false, false, false] rfl rfl (any_of HT_.out (by kernel_rfl)) (fun _ _ _ h => h) (Or.inl ⟨by rfl, ?_⟩) ?_ ?_
                                rotate_left
                                · intro w'
                                  go_simp
                                  with_reducible rfl
                                rotate_left
                                · simp only [Act.put, List.setIfInBounds_toArray, List.set_cons_zero, List.set_cons_succ, i64_w, i32_w]
                                  rfl
                                refine one_ (i := 11) (N := some 88) #[true, true, true, true, true, true, true, true, true, true, true, true, false, false] rfl rfl (one_of HT_.out (by kernel_rfl)) (by decide) (fun K hK => ?_)
                                refine value_ (w1 := ?_) (v := ?_) (by rfl) rfl ?_ ?_
                                rotate_left 2
                                · go_simp
                                  constructor
                                  · rfl
                                  · rfl
                                refine hK.out _ _ ⟨(blk_cell (blk_alloc BK186.out _) 0).trans rfl, (blk_cell (blk_alloc BK186.out _) 1).trans rfl, (blk_cell (blk_alloc BK186.out _) 2).trans rfl, (blk_cell (blk_alloc BK186.out _) 3).trans rfl, (blk_cell (blk_alloc BK186.out _) 4).trans rfl, (blk_cell (blk_alloc BK186.out _) 5).trans rfl, (blk_cell (blk_alloc BK186.out _) 6).trans rfl, (World.cell?_alloc_lt _ _ _ (World.block_lt_of_cell? _ _ (((HB.out.cell (World.block_lt_of_cell? w _ hw211_0)).trans hw211_0)))).trans (((HB.out.cell (World.block_lt_of_cell? w _ hw211_0)).trans hw211_0))⟩ (fun hHeld => ?_)
                                clear hK K
                                refine norm_ (a' := ?_) ?_ ?_
                                rotate_left
                                · show Act.put _ (some 88) _ = _
                                  simp only [Act.put, List.setIfInBounds_toArray, List.set_cons_zero, List.set_cons_succ, i64_w, i32_w]
                                  rfl
                                refine one_ (i := 12) (N := some 89) #[true, true, true, true, true, true, true, true, true, true, true, true, true, false] rfl rfl (one_of HT_.out (by kernel_rfl)) (by decide) (fun K hK => ?_)
                                refine Kd.R_append_step k43 (w0 := w) w.heap.size (by rfl) (.tmp 77) (.tmp 88) 22 43 (.agg #[(.int .i64 0), (.int .i64 0), (.int .i64 0), (.int .i64 0)]) 32 rfl Try.underlying22 info43 rfl (by decide) (by omega) u5 x5_3 (⟨1, rd ((rd_T49 l0 x7_1).f0) x11_3, t212, 0⟩ : S43) [.int .i64 1, .int .i64 (rd ((rd_T49 l0 x7_1).f0) x11_3), .int .i64 t212, .int .i64 0] (fun _ => True) (fun _ => False) rfl rfl ?aP (fun _ hk => hk.elim) ?aF ?aO ?aB ?aS ?aL ?_
                                (case aP => exact k43_mkM _ _ _ (⟨1, rd ((rd_T49 l0 x7_1).f0) x11_3, t212, 0⟩ : S43))
                                (case aB => exact (by repeat (first | (with_reducible first | exact HB.out | apply below_alloc | apply pw_below_drewN | apply below_drew1 | refine below_set ?_ GE186.out) | exact HB.out)))
                                (case aF => exact (fun _ _ => trivial))
                                (case aO => exact (by (with_reducible repeat (first | apply Kd.R_alloc | apply Kd.R_drewN | apply Kd.R_drew)); exact HO_5.out))
                                (case aS => exact (below_size (by repeat (first | (with_reducible first | exact HB.out | apply below_alloc | apply pw_below_drewN | apply below_drew1 | refine below_set ?_ GE186.out) | exact HB.out))))
                                (case aL => have := LMc43.out; omega)
                                intro v214 w46 ho hb hg hat
                                rw [← Ny213.out] at ho
                                have n0_ := Aside0.mk (blk_grown (g := gb186) (o := .cells #[.slice (some ad211) ((rd_T49 l0 x7_1).f0).length c185_0, .slice A185_1 ((rd_T49 l0 x7_1).f1).length c185_1, .slice A185_2 ((rd_T49 l0 x7_1).f2).length c185_2, .int .i64 ((rd_T49 l0 x7_1).f3), .int .i64 ((rd_T49 l0 x7_1).f4), .bool ((rd_T49 l0 x7_1).f5), .bool false] 49 (0, 0)) (by (with_reducible repeat (first | refine blk_drewN ?_ _ | refine blk_drew ?_ | refine blk_alloc ?_ _)); exact BK186.out) hg (Kd.R_ne HO_5.out BK186.out (by decide)))
                                have n1_ := Aside0.mk (hb)
                                have n2_ := Aside0.mk (ho)
                                clear BK186
                                clear HB
                                clear HO_5
                                have BK186 := n0_
                                have HB := n1_
                                have HO215 := n2_
                                clear n0_ n1_ n2_
                                clear ho hb hg hat
                                refine hK.out _ _ ⟨(blk_cell BK186.out 0).trans rfl, (blk_cell BK186.out 1).trans rfl, (blk_cell BK186.out 2).trans rfl, (blk_cell BK186.out 3).trans rfl, (blk_cell BK186.out 4).trans rfl, (blk_cell BK186.out 5).trans rfl, (blk_cell BK186.out 6).trans rfl, ((HB.out.cell (World.block_lt_of_cell? w _ hw211_0)).trans hw211_0)⟩ (fun hHeld => ?_)
                                clear hK K
                                refine norm_ (a' := ?_) ?_ ?_
                                rotate_left
                                · show Act.put _ (some 89) _ = _
                                  simp only [Act.put, List.setIfInBounds_toArray, List.set_cons_zero, List.set_cons_succ, i64_w, i32_w]
                                  rfl
                                refine pure_ (i := 13) (N := some 5) (v := ?_) (a' := ?_) #[true, true, true, true, true, true, true, true, true, true, true, true, true, true] rfl rfl (any_of HT_.out (by kernel_rfl)) (fun _ _ _ h => h) (Or.inl ⟨by rfl, ?_⟩) ?_ ?_
                                rotate_left
                                · intro w'
                                  go_simp
                                  with_reducible rfl
                                rotate_left
                                · simp only [Act.put, List.setIfInBounds_toArray, List.set_cons_zero, List.set_cons_succ, i64_w, i32_w]
                                  rfl
                                refine done_ (done_of HT_.out (by kernel_rfl)) ?_
                                try go_wp2
                                go_roundg k3
                                case measure => have := HK1.out; have := HJ13.out; have := HK3.out; omega
                                case rel => exact ⟨(y213), (wrap64 (x11_3 + 1)), (by first | rfl | (simp; done) | (simp [*]; done)), H', ⟨by have := HK1.out; have := HJ13.out; have := HK3.out; omega⟩, ⟨by (with_reducible repeat (first | apply Kd.R_alloc | apply Kd.R_drewN | apply Kd.R_drew)); exact HO215.out⟩, ⟨by (with_reducible repeat (first | refine blk_drewN ?_ _ | refine blk_drew ?_ | refine blk_alloc ?_ _)); exact BK186.out⟩, ⟨by repeat (first | (with_reducible first | exact HB.out | apply below_alloc | apply pw_below_drewN | apply below_drew1 | refine below_set ?_ GE186.out) | exact HB.out)⟩⟩
                              · rw [if_neg c43] at H
                                exact absurd H (by simp)
                            · rw [if_neg c41] at H
                              exact absurd H (by simp)
                        · rw [if_neg c30] at H
                          have c30b0 : decide (x11_3 < (((rd_T49 l0 x7_1).f0).length : Int)) = false := decide_eq_false c30
                          clear c30
                          have H' := Aside0.mk H
                          clear H
                          have hcz47_0 : wr.cell? ⟨gb186, 0, none⟩ = some (.slice A185_0 ((rd_T49 l0 x7_1).f0).length c185_0) := (blk_cell BK186.out 0).trans rfl
                          have hcz47_1 : wr.cell? ⟨gb186, 1, none⟩ = some (.slice A185_1 ((rd_T49 l0 x7_1).f1).length c185_1) := (blk_cell BK186.out 1).trans rfl
                          have hcz47_2 : wr.cell? ⟨gb186, 2, none⟩ = some (.slice A185_2 ((rd_T49 l0 x7_1).f2).length c185_2) := (blk_cell BK186.out 2).trans rfl
                          have hcz47_3 : wr.cell? ⟨gb186, 3, none⟩ = some (.int .i64 ((rd_T49 l0 x7_1).f3)) := (blk_cell BK186.out 3).trans rfl
                          have hcz47_4 : wr.cell? ⟨gb186, 4, none⟩ = some (.int .i64 ((rd_T49 l0 x7_1).f4)) := (blk_cell BK186.out 4).trans rfl
                          have hcz47_5 : wr.cell? ⟨gb186, 5, none⟩ = some (.bool ((rd_T49 l0 x7_1).f5)) := (blk_cell BK186.out 5).trans rfl
                          have hcz47_6 : wr.cell? ⟨gb186, 6, none⟩ = some (.bool false) := (blk_cell BK186.out 6).trans rfl
                          have hfz47_0 := blk_frozen BK186.out 0
                          have hfz47_1 := blk_frozen BK186.out 1
                          have hfz47_2 := blk_frozen BK186.out 2
                          have hfz47_3 := blk_frozen BK186.out 3
                          have hfz47_4 := blk_frozen BK186.out 4
                          have hfz47_5 := blk_frozen BK186.out 5
                          have hfz47_6 := blk_frozen BK186.out 6
                          go_wp2
                          go_roundg k3
                          case measure => have := HK1.out; have := HJ13.out; have := HK3.out; omega
                          case rel => exact ⟨(x5_3), (x7_1), (wrap64 (x7_1 + 1)), (by first | rfl | (simp; done) | (simp [*]; done)), (by first | rfl | (simp; done) | (simp [*]; done)), H', ⟨by have := HK1.out; have := HJ13.out; have := HK3.out; omega⟩, ⟨by (with_reducible repeat (first | apply Kd.R_alloc | apply Kd.R_drewN | apply Kd.R_drew)); exact HO_5.out⟩, ⟨by repeat (first | (with_reducible first | exact HB.out | apply below_alloc | apply pw_below_drewN | apply below_drew1 | refine below_set ?_ GE186.out) | exact HB.out)⟩⟩
                  · rw [if_neg c28] at H
                    exact absurd H (by simp)
        · rw [if_neg c4] at H
          exact absurd H (by simp)
      · rw [if_neg c3] at H
        have c3b0 : decide (x7_1 < (l0.length : Int)) = false := decide_eq_false c3
        clear c3
        by_cases c48 : x5_1.length < 4398046511104
        · rw [if_pos c48] at H
          have LMc48 := Aside0.mk c48
          clear c48
          obtain ⟨y182, hy182⟩ : ∃ y_ : List (S43), y_ = (x5_1 ++ [(⟨3, 0, 0, (-10000)⟩ : S43)]) := ⟨_, rfl⟩
          replace H : (some y182) = some r := by first | (rw [hy182]; with_reducible exact H) | (have H2_ := (Option.bind_some _ _).symm.trans H; rw [hy182]; with_reducible exact H2_) | (have H2_ := (Option.bind_some _ _).symm.trans H; with_reducible exact H2_) | with_reducible exact H | (rw [hy182]; exact H) | exact H
          have Ny182 := Aside0.mk hy182
          clear hy182
          obtain rfl := Option.some.inj H
          go_wp2_with (first | ((with_reducible refine gate_builtin (b := .append) (xs := #[.tmp 91, .tmp 93]) rfl ?_); at_builtin; refine Kd.R_append k43 (w0 := w) w.heap.size rfl (.tmp 91) (.tmp 93) 22 43 (.agg #[(.int .i64 0), (.int .i64 0), (.int .i64 0), (.int .i64 0)]) 32 rfl Try.underlying22 info43 rfl (by decide) (by omega) u5 x5_1 (⟨3, 0, 0, (-10000)⟩ : S43) [.int .i64 3, .int .i64 0, .int .i64 0, .int .i64 (-10000)] (fun _ => True) (fun _ => False) rfl rfl ?aP (fun _ hk => hk.elim) ?aF ?aO ?aB ?aS ?aL ?_; (case aP => exact k43_mkM _ _ _ (⟨3, 0, 0, (-10000)⟩ : S43)); (case aB => exact (by repeat (first | (with_reducible first | exact HB.out | apply below_alloc | apply pw_below_drewN | apply below_drew1) | exact HB.out))); (case aF => exact (fun _ _ => trivial)); (case aO => exact (by (with_reducible repeat (first | apply Kd.R_alloc | apply Kd.R_drewN | apply Kd.R_drew)); exact HO_5.out)); (case aS => exact (below_size (by repeat (first | (with_reducible first | exact HB.out | apply below_alloc | apply pw_below_drewN | apply below_drew1) | exact HB.out)))); (case aL => have := LMc48.out; omega); intro v183 w49 ho hb hg hat; rw [← Ny182.out] at ho; have n0_ := Aside0.mk (hb); have n1_ := Aside0.mk (ho); clear HB; clear HO_5; have HB := n0_; have HO184 := n1_; clear n0_ n1_; clear ho hb hg hat))
          go_ret
          exact ⟨_, by first | rfl | (simp [errW_none, errW_some] <;> rfl) | (simp [*, errW_none, errW_some] <;> rfl), by (with_reducible repeat (first | apply Kd.R_alloc | apply Kd.R_drewN | apply Kd.R_drew)); exact HO184.out, by repeat (first | (with_reducible first | exact HB.out | apply below_alloc | apply pw_below_drewN | apply below_drew1) | exact HB.out)⟩
        · rw [if_neg c48] at H
          exact absurd H (by simp)

end Go.Proofs.Ytogjeababinnlaa.PPagesFlow
