-- Written by a copy of the print that this session has turned (wip/tools/patchprint.py): arrays as records.
import Derived.Test.YtogjeababinnlaaPPagesAllx0
namespace Go.Proofs.Ytogjeababinnlaa.PPagesAll
open Go.RowKit Go.Proofs.YtogjeababinnlaaW.PrintWords Go.Proofs.YtogjeababinnlaaW.PrintLast Go.Proofs.YtogjeababinnlaaW.PrintMore
attribute [local go_sem] max2_int min2_int max_two min_two max_three min_three max_four min_four   -- for this text's walks alone
set_option linter.unusedVariables false
set_option linter.unusedSimpArgs false

/-! ### colophonlaw27_twin: function 12 -/
def colophonlaw27_twin.f (l0 : List (S43)) : Option ((List (S43))) := (some (([] : List (S43)) : List (S43))).bind fun y147 => (if y147.length + l0.length < 4398046511104 then (some (y147 ++ l0)) else (none))
set_option maxHeartbeats 8000000 in
set_option maxRecDepth 100000 in
theorem colophonlaw27_twin.calls (A0 : Option Addr) (c0 : Nat) (l0 : List (S43)) (r : List (S43)) (w : World) (hr0 : Kd.C k43 w A0 l0.length l0) (hc0 : l0.length ≤ c0) (h : colophonlaw27_twin.f l0 = some r) :
    Calls Try.prog 12 #[.slice A0 l0.length c0] w fun e w' => ∃ v0_ : Value, e = .returned (v0_) ∧ Kd.R k43 43 w' w.heap.size (fun _ => True) v0_ r ∧ Below w.heap.size w w' := by
  have HR0 := Aside0.mk hr0
  have HC0 := Aside0.mk hc0
  clear hr0 hc0
  have HB := Aside0.mk (Below.refl w.heap.size w)
  have H : ((some (([] : List (S43)) : List (S43))).bind fun y147 => (if y147.length + l0.length < 4398046511104 then (some (y147 ++ l0)) else (none))) = some r := h
  clear h
  obtain ⟨y147, hy147⟩ : ∃ y_ : List (S43), y_ = (([] : List (S43))) := ⟨_, rfl⟩
  replace H : (if y147.length + l0.length < 4398046511104 then (some (y147 ++ l0)) else (none)) = some r := by first | (rw [hy147]; with_reducible exact H) | (have H2_ := (Option.bind_some _ _).symm.trans H; rw [hy147]; with_reducible exact H2_) | (have H2_ := (Option.bind_some _ _).symm.trans H; with_reducible exact H2_) | with_reducible exact H | (rw [hy147]; exact H) | exact H
  have Ny147 := Aside0.mk hy147
  clear hy147
  by_cases c2 : y147.length + l0.length < 4398046511104
  · rw [if_pos c2] at H
    have LMc2 := Aside0.mk c2
    clear c2
    obtain ⟨y150, hy150⟩ : ∃ y_ : List (S43), y_ = (y147 ++ l0) := ⟨_, rfl⟩
    replace H : (some y150) = some r := by first | (rw [hy150]; with_reducible exact H) | (have H2_ := (Option.bind_some _ _).symm.trans H; rw [hy150]; with_reducible exact H2_) | (have H2_ := (Option.bind_some _ _).symm.trans H; with_reducible exact H2_) | with_reducible exact H | (rw [hy150]; exact H) | exact H
    have Ny150 := Aside0.mk hy150
    clear hy150
    obtain rfl := Option.some.inj H
    go_enter Try.func12, Try.ntmps12
    go_wp2_with (first | ((with_reducible refine gate_dst (N := 3) rfl ?_); refine Kd.R_lit k43 _ 43 ?hg (N := 3) ?hd (xs := ([] : List (S43))) (inner := []) (ok := fun _ => True) (okp := fun _ => True) ?hr ?hp (fun _ hk => hk) trivial (Below.refl _ _) (Nat.le_refl _) (by simp) ?_; (case hd => rfl); (case hg => rfl); (case hr => first | (go_simp; done) | (go_simp; rfl)); (case hp => exact (Reps.none _ _)); intro v148 w3 ho4 hb hg_ hnew_; clear hg_ hnew_; (first | rw [← Ny147.out] at ho4 | (simp only [Int.reduceToNat] at ho4; rw [← Ny147.out] at ho4)); have n0_ := Aside0.mk (Kd.R_lower ho4 (below_size (by repeat (first | (with_reducible first | exact HB.out | apply below_alloc | apply pw_below_drewN | apply below_drew1) | exact HB.out)))); have n1_ := Aside0.mk (below_step (by repeat (first | (with_reducible first | exact HB.out | apply below_alloc | apply pw_below_drewN | apply below_drew1) | exact HB.out)) hb); clear HB; have HO149 := n0_; have HB := n1_; clear n0_ n1_; clear hb ho4) | ((with_reducible refine gate_builtin (b := .append) (xs := #[.tmp 3, .tmp 4]) rfl ?_); at_builtin; refine Kd.R_append_rows k43 (w0 := w) w.heap.size rfl (.tmp 3) (.tmp 4) 22 43 (.agg #[(.int .i64 0), (.int .i64 0), (.int .i64 0), (.int .i64 0)]) 32 rfl Try.underlying22 info43 rfl (by decide) (by omega) v148 y147 l0 _ _ _ (fun _ => True) (fun _ => False) rfl rfl ?aO ?aR (fun _ _ h => h) (fun _ h => h.elim) ?aF ?aB ?aS ?aL ?_; (case aR => repeat (first | exact (Kd.C_below HR0.out HB.out) | (with_reducible refine Kd.C_alloc ?_ _) | (with_reducible refine Kd.C_drewN ?_ _) | (with_reducible refine Kd.C_drew ?_))); (case aB => exact (by repeat (first | (with_reducible first | exact HB.out | apply below_alloc | apply pw_below_drewN | apply below_drew1) | exact HB.out))); (case aF => exact (fun _ _ => trivial)); (case aO => exact (by (with_reducible repeat (first | apply Kd.R_alloc | apply Kd.R_drewN | apply Kd.R_drew)); exact HO149.out)); (case aS => exact (below_size (by repeat (first | (with_reducible first | exact HB.out | apply below_alloc | apply pw_below_drewN | apply below_drew1) | exact HB.out)))); (case aL => have := LMc2.out; omega); intro v151 w5 ho hb hg hat; rw [← Ny150.out] at ho; have n0_ := Aside0.mk (hb); have n1_ := Aside0.mk (ho); clear HB; clear HO149; have HB := n0_; have HO152 := n1_; clear n0_ n1_; clear ho hb hg hat))
    go_ret
    exact ⟨_, by first | rfl | (simp [errW_none, errW_some] <;> rfl) | (simp [*, errW_none, errW_some] <;> rfl), by (with_reducible repeat (first | apply Kd.R_alloc | apply Kd.R_drewN | apply Kd.R_drew)); exact HO152.out, by repeat (first | (with_reducible first | exact HB.out | apply below_alloc | apply pw_below_drewN | apply below_drew1) | exact HB.out)⟩
  · rw [if_neg c2] at H
    exact absurd H (by simp)

/-! ### colophonref27_forced: function 42 -/
def colophonref27_forced.f (a0_0 : Int) (a0_1 : Int) (a0_2 : Int) (a0_3 : Int) : Option (Bool) := if a0_0 = 3 then (some (a0_3 == (-10000))) else (some false)
set_option maxHeartbeats 8000000 in
set_option maxRecDepth 100000 in
theorem colophonref27_forced.calls (a0_0 : Int) (a0_1 : Int) (a0_2 : Int) (a0_3 : Int) (r : Bool) (w : World) (h : colophonref27_forced.f a0_0 a0_1 a0_2 a0_3 = some r) :
    Calls Try.prog 42 #[.agg #[.int .i64 a0_0, .int .i64 a0_1, .int .i64 a0_2, .int .i64 a0_3]] w fun e w' => e = .returned (.bool r) ∧ Below w.heap.size w w' := by
  have hu43 := Try.underlying43
  have HB := Aside0.mk (Below.refl w.heap.size w)
  have H : (if a0_0 = 3 then (some (a0_3 == (-10000))) else (some false)) = some r := h
  clear h
  by_cases c2 : a0_0 = 3
  · rw [if_pos c2] at H
    have c2b0 : (a0_0 == 3) = true := beq_iff_eq.mpr c2
    have c2b1 : (a0_0 != 3) = false := bne_eq_false_iff_eq.mpr c2
    clear c2
    obtain rfl := Option.some.inj H
    go_enter Try.func42, Try.ntmps42
    go_wp2_with (first | ((with_reducible refine gate_dst (N := 1) rfl ?_); refine box_event ?hg (N := 1) ?hd (cs := #[.int .i64 a0_0, .int .i64 a0_1, .int .i64 a0_2, .int .i64 a0_3]) (t := 43) ?hr ?_; (case hd => rfl); (case hg => rfl); (case hr => first | (go_simp; done) | (go_simp; rfl)); intro gb153 hg w3 hbox hb; have n0_ := Aside0.mk (below_step (by repeat (first | (with_reducible first | exact HB.out | apply below_alloc | apply pw_below_drewN | apply below_drew1) | exact HB.out)) hb); have n1_ := Aside0.mk (hbox); have n2_ := Aside0.mk ((by rw [hg]; exact (below_size (by repeat (first | (with_reducible first | exact HB.out | apply below_alloc | apply pw_below_drewN | apply below_drew1) | exact HB.out))) : w.heap.size ≤ gb153)); have n3_ := Aside0.mk ((by rw [hg]; exact (below_size (by repeat (first | (with_reducible first | exact HB.out | apply below_alloc | apply pw_below_drewN | apply below_drew1) | exact HB.out))) : w.heap.size ≤ gb153)); clear HB; have HB := n0_; have BK153 := n1_; have GW153 := n2_; have GE153 := n3_; clear n0_ n1_ n2_ n3_; clear hb hbox hg; have hcz4_0 : w3.cell? ⟨gb153, 0, none⟩ = some (.int .i64 a0_0) := (blk_cell BK153.out 0).trans rfl; have hcz4_1 : w3.cell? ⟨gb153, 1, none⟩ = some (.int .i64 a0_1) := (blk_cell BK153.out 1).trans rfl; have hcz4_2 : w3.cell? ⟨gb153, 2, none⟩ = some (.int .i64 a0_2) := (blk_cell BK153.out 2).trans rfl; have hcz4_3 : w3.cell? ⟨gb153, 3, none⟩ = some (.int .i64 a0_3) := (blk_cell BK153.out 3).trans rfl; have hfz4_0 := blk_frozen BK153.out 0; have hfz4_1 := blk_frozen BK153.out 1; have hfz4_2 := blk_frozen BK153.out 2; have hfz4_3 := blk_frozen BK153.out 3))
    go_ret
    exact ⟨by first | rfl | (simp [errW_none, errW_some] <;> rfl) | (simp [*, errW_none, errW_some] <;> rfl), by repeat (first | (with_reducible first | exact HB.out | apply below_alloc | apply pw_below_drewN | apply below_drew1 | refine below_set ?_ GE153.out) | exact HB.out)⟩
  · rw [if_neg c2] at H
    have c2b0 : (a0_0 == 3) = false := beq_eq_false_iff_ne.mpr c2
    have c2b1 : (a0_0 != 3) = true := bne_iff_ne.mpr c2
    obtain rfl := Option.some.inj H
    go_enter Try.func42, Try.ntmps42
    go_wp2_with (first | ((with_reducible refine gate_dst (N := 1) rfl ?_); refine box_event ?hg (N := 1) ?hd (cs := #[.int .i64 a0_0, .int .i64 a0_1, .int .i64 a0_2, .int .i64 a0_3]) (t := 43) ?hr ?_; (case hd => rfl); (case hg => rfl); (case hr => first | (go_simp; done) | (go_simp; rfl)); intro gb153 hg w5 hbox hb; have n0_ := Aside0.mk (below_step (by repeat (first | (with_reducible first | exact HB.out | apply below_alloc | apply pw_below_drewN | apply below_drew1) | exact HB.out)) hb); have n1_ := Aside0.mk (hbox); have n2_ := Aside0.mk ((by rw [hg]; exact (below_size (by repeat (first | (with_reducible first | exact HB.out | apply below_alloc | apply pw_below_drewN | apply below_drew1) | exact HB.out))) : w.heap.size ≤ gb153)); have n3_ := Aside0.mk ((by rw [hg]; exact (below_size (by repeat (first | (with_reducible first | exact HB.out | apply below_alloc | apply pw_below_drewN | apply below_drew1) | exact HB.out))) : w.heap.size ≤ gb153)); clear HB; have HB := n0_; have BK153 := n1_; have GW153 := n2_; have GE153 := n3_; clear n0_ n1_ n2_ n3_; clear hb hbox hg; have hcz6_0 : w5.cell? ⟨gb153, 0, none⟩ = some (.int .i64 a0_0) := (blk_cell BK153.out 0).trans rfl; have hcz6_1 : w5.cell? ⟨gb153, 1, none⟩ = some (.int .i64 a0_1) := (blk_cell BK153.out 1).trans rfl; have hcz6_2 : w5.cell? ⟨gb153, 2, none⟩ = some (.int .i64 a0_2) := (blk_cell BK153.out 2).trans rfl; have hcz6_3 : w5.cell? ⟨gb153, 3, none⟩ = some (.int .i64 a0_3) := (blk_cell BK153.out 3).trans rfl; have hfz6_0 := blk_frozen BK153.out 0; have hfz6_1 := blk_frozen BK153.out 1; have hfz6_2 := blk_frozen BK153.out 2; have hfz6_3 := blk_frozen BK153.out 3))
    go_ret
    exact ⟨by first | rfl | (simp [errW_none, errW_some] <;> rfl) | (simp [*, errW_none, errW_some] <;> rfl), by repeat (first | (with_reducible first | exact HB.out | apply below_alloc | apply pw_below_drewN | apply below_drew1 | refine below_set ?_ GE153.out) | exact HB.out)⟩

/-! ### colophonref27_Good: function 19 -/
mutual
def colophonref27_Good.j0 : Nat → List (S43) → Bool → Option (Bool)
  | 0, _, _ => none
  | k + 1, x0, x12 => if x12 = true then (some false) else (colophonref27_Good.l0 k x0 0)
def colophonref27_Good.l0 : Nat → List (S43) → Int → Option (Bool)
  | 0, _, _ => none
  | k + 1, x0, x3 => if x3 < (x0.length : Int) then (if 0 ≤ x3 then (if ((rd_T43 x0 x3).f1) < 0 then (colophonref27_Good.j2 k x0 x3 true ((rd_T43 x0 x3).f0) ((rd_T43 x0 x3).f1) ((rd_T43 x0 x3).f2) ((rd_T43 x0 x3).f3)) else (if ((rd_T43 x0 x3).f1) > 1073741824 then (colophonref27_Good.j2 k x0 x3 true ((rd_T43 x0 x3).f0) ((rd_T43 x0 x3).f1) ((rd_T43 x0 x3).f2) ((rd_T43 x0 x3).f3)) else (if ((rd_T43 x0 x3).f2) < 0 then (colophonref27_Good.j2 k x0 x3 true ((rd_T43 x0 x3).f0) ((rd_T43 x0 x3).f1) ((rd_T43 x0 x3).f2) ((rd_T43 x0 x3).f3)) else (if ((rd_T43 x0 x3).f2) > 1073741824 then (colophonref27_Good.j2 k x0 x3 true ((rd_T43 x0 x3).f0) ((rd_T43 x0 x3).f1) ((rd_T43 x0 x3).f2) ((rd_T43 x0 x3).f3)) else (if ((rd_T43 x0 x3).f3) < (-10000) then (colophonref27_Good.j2 k x0 x3 true ((rd_T43 x0 x3).f0) ((rd_T43 x0 x3).f1) ((rd_T43 x0 x3).f2) ((rd_T43 x0 x3).f3)) else (colophonref27_Good.j2 k x0 x3 (decide (((rd_T43 x0 x3).f3) > 10000)) ((rd_T43 x0 x3).f0) ((rd_T43 x0 x3).f1) ((rd_T43 x0 x3).f2) ((rd_T43 x0 x3).f3))))))) else (none)) else (if 0 ≤ (wrap64 ((x0.length : Int) - 1)) then (if (wrap64 ((x0.length : Int) - 1)) < (x0.length : Int) then ((colophonref27_forced.f ((rd_T43 x0 (wrap64 ((x0.length : Int) - 1))).f0) ((rd_T43 x0 (wrap64 ((x0.length : Int) - 1))).f1) ((rd_T43 x0 (wrap64 ((x0.length : Int) - 1))).f2) ((rd_T43 x0 (wrap64 ((x0.length : Int) - 1))).f3)).bind fun t155 => (some t155)) else (none)) else (none))
def colophonref27_Good.j2 : Nat → List (S43) → Int → Bool → Int → Int → Int → Int → Option (Bool)
  | 0, _, _, _, _, _, _, _ => none
  | k + 1, x0, x3, x50, x158000, x158001, x158002, x158003 => if x50 = true then (some false) else (if x158000 < 1 then (some false) else (if x158000 > 3 then (some false) else (if x158000 = 1 then (if x158000 = 3 then (if x158001 = 0 then (colophonref27_Good.l0 k x0 (wrap64 (x3 + 1))) else (some false)) else (if x158003 = 0 then (colophonref27_Good.l0 k x0 (wrap64 (x3 + 1))) else (some false))) else (if x158002 = 0 then (if x158000 = 3 then (if x158001 = 0 then (colophonref27_Good.l0 k x0 (wrap64 (x3 + 1))) else (some false)) else (if x158003 = 0 then (colophonref27_Good.l0 k x0 (wrap64 (x3 + 1))) else (some false))) else (some false)))))
end
def colophonref27_Good.f (k : Nat) (l0 : List (S43)) : Option (Bool) := if (l0.length : Int) < 1 then (colophonref27_Good.j0 k l0 true) else (colophonref27_Good.j0 k l0 (decide ((l0.length : Int) > 1024)))
theorem colophonref27_Good.mono_l : ∀ k, (∀ y0 y1, LeO (colophonref27_Good.j0 k y0 y1) (colophonref27_Good.j0 (k + 1) y0 y1)) ∧ (∀ y0 y1, LeO (colophonref27_Good.l0 k y0 y1) (colophonref27_Good.l0 (k + 1) y0 y1)) ∧ (∀ y0 y1 y2 y3 y4 y5 y6, LeO (colophonref27_Good.j2 k y0 y1 y2 y3 y4 y5 y6) (colophonref27_Good.j2 (k + 1) y0 y1 y2 y3 y4 y5 y6))
  | 0 => ⟨fun _ _ r h => by simp [colophonref27_Good.j0] at h, fun _ _ r h => by simp [colophonref27_Good.l0] at h, fun _ _ _ _ _ _ _ r h => by simp [colophonref27_Good.j2] at h⟩
  | k + 1 => by
    obtain ⟨ih0, ih1, ih2⟩ := colophonref27_Good.mono_l k
    refine ⟨?_, ?_, ?_⟩
    · intro y0 y1
      unfold colophonref27_Good.j0
      repeat' first
      | (with_reducible exact ih0 _ _)
      | (with_reducible exact ih1 _ _)
      | (with_reducible exact ih2 _ _ _ _ _ _ _)
      | (with_reducible exact LeO.refl _)
      | (with_reducible exact LeO.none _)
      | (with_reducible refine LeO.ite ?_ ?_)
      | (with_reducible refine LeO.bind ?_ (fun _ => ?_))
      | exact ih0 _ _
      | exact ih1 _ _
      | exact ih2 _ _ _ _ _ _ _
      | exact LeO.none _
      | refine LeO.ite ?_ ?_
      | refine LeO.bind ?_ (fun _ => ?_)
    · intro y0 y1
      unfold colophonref27_Good.l0
      repeat' first
      | (with_reducible exact ih0 _ _)
      | (with_reducible exact ih1 _ _)
      | (with_reducible exact ih2 _ _ _ _ _ _ _)
      | (with_reducible exact LeO.refl _)
      | (with_reducible exact LeO.none _)
      | (with_reducible refine LeO.ite ?_ ?_)
      | (with_reducible refine LeO.bind ?_ (fun _ => ?_))
      | exact ih0 _ _
      | exact ih1 _ _
      | exact ih2 _ _ _ _ _ _ _
      | exact LeO.none _
      | refine LeO.ite ?_ ?_
      | refine LeO.bind ?_ (fun _ => ?_)
    · intro y0 y1 y2 y3 y4 y5 y6
      unfold colophonref27_Good.j2
      repeat' first
      | (with_reducible exact ih0 _ _)
      | (with_reducible exact ih1 _ _)
      | (with_reducible exact ih2 _ _ _ _ _ _ _)
      | (with_reducible exact LeO.refl _)
      | (with_reducible exact LeO.none _)
      | (with_reducible refine LeO.ite ?_ ?_)
      | (with_reducible refine LeO.bind ?_ (fun _ => ?_))
      | exact ih0 _ _
      | exact ih1 _ _
      | exact ih2 _ _ _ _ _ _ _
      | exact LeO.none _
      | refine LeO.ite ?_ ?_
      | refine LeO.bind ?_ (fun _ => ?_)
theorem colophonref27_Good.mono : ∀ a0 k, LeO (colophonref27_Good.f k a0) (colophonref27_Good.f (k + 1) a0) := by
  intro a0 k
  obtain ⟨ih0, ih1, ih2⟩ := colophonref27_Good.mono_l k
  unfold colophonref27_Good.f
  repeat' first
      | (with_reducible exact ih0 _ _)
      | (with_reducible exact ih1 _ _)
      | (with_reducible exact ih2 _ _ _ _ _ _ _)
      | (with_reducible exact LeO.refl _)
      | (with_reducible exact LeO.none _)
      | (with_reducible refine LeO.ite ?_ ?_)
      | (with_reducible refine LeO.bind ?_ (fun _ => ?_))
      | exact ih0 _ _
      | exact ih1 _ _
      | exact ih2 _ _ _ _ _ _ _
      | exact LeO.none _
      | refine LeO.ite ?_ ?_
      | refine LeO.bind ?_ (fun _ => ?_)
set_option maxHeartbeats 8000000 in
set_option maxRecDepth 100000 in
theorem colophonref27_Good.calls (k : Nat) (A0 : Option Addr) (c0 : Nat) (l0 : List (S43)) (r : Bool) (w : World) (hr0 : Kd.C k43 w A0 l0.length l0) (hc0 : l0.length ≤ c0) (h : colophonref27_Good.f k l0 = some r) :
    Calls Try.prog 19 #[.slice A0 l0.length c0] w fun e w' => e = .returned (.bool r) ∧ Below w.heap.size w w' := by
  have hu43 := Try.underlying43
  have HR0 := Aside0.mk hr0
  have HC0 := Aside0.mk hc0
  clear hr0 hc0
  have HB := Aside0.mk (Below.refl w.heap.size w)
  have H : (if (l0.length : Int) < 1 then (colophonref27_Good.j0 k l0 true) else (colophonref27_Good.j0 k l0 (decide ((l0.length : Int) > 1024)))) = some r := h
  clear h
  have HC2 := Aside0.mk H
  clear H
  go_enter Try.func19, Try.ntmps19
  go_upto_region 1 with (fail)
  go_cut [12] (fun v12 wc => ∃ (kq : Nat) (x12_1 : Bool), v12 = .bool x12_1 ∧ Aside0 (colophonref27_Good.j0 kq l0 x12_1 = some r) ∧ Aside0 (kq ≤ k) ∧ Aside0 (Below w.heap.size w wc))
  case first =>
    have H := HC2.out
    clear HC2
    by_cases c3 : (l0.length : Int) < 1
    · rw [if_pos c3] at H
      have c3b0 : decide ((l0.length : Int) < 1) = true := decide_eq_true c3
      have c3b1 : decide (l0.length < 1) = true := decide_eq_true (by omega)
      clear c3
      (first | rw [c3b0] | rw [c3b1] | (simp only [i64_w, i32_w]; rw [c3b0]) | skip)
      have H' := Aside0.mk H
      clear H
      go_wp2
      go_meet
      case rel => exact ⟨_, (true), (by first | rfl | (simp; done) | (simp [*]; done)), H', ⟨by first | omega | exact Nat.le_refl _⟩, ⟨by repeat (first | (with_reducible first | exact HB.out | apply below_alloc | apply pw_below_drewN | apply below_drew1) | exact HB.out)⟩⟩
    · rw [if_neg c3] at H
      have c3b0 : decide ((l0.length : Int) < 1) = false := decide_eq_false c3
      have c3b1 : decide (l0.length < 1) = false := decide_eq_false (by omega)
      clear c3
      (first | rw [c3b0] | rw [c3b1] | (simp only [i64_w, i32_w]; rw [c3b0]) | skip)
      have H' := Aside0.mk H
      clear H
      go_wp2
      go_meet
      case rel => exact ⟨_, (decide ((l0.length : Int) > 1024)), (by first | rfl | (simp; done) | (simp [*]; done)), H', ⟨by first | omega | exact Nat.le_refl _⟩, ⟨by repeat (first | (with_reducible first | exact HB.out | apply below_alloc | apply pw_below_drewN | apply below_drew1) | exact HB.out)⟩⟩
  case rest =>
    clear HC2
    try clear c1
    try clear p2
    try clear c3
    try clear c3b0
    try clear c3b1
    obtain ⟨kq, x12_1, rfl, HA, HJ1, HB⟩ := hcut
    cases kq with
    | zero => exact absurd HA.out (by simp [colophonref27_Good.j0])
    | succ kj1 =>
      have H := HA.out
      clear HA
      simp only [colophonref27_Good.j0] at H
      by_cases c4 : x12_1 = true
      · subst c4
        have H1 : (some false) = some r := by rw [if_pos rfl] at H; exact H
        clear H
        have H := H1
        clear H1
        obtain rfl := Option.some.inj H
        go_wp2
        go_ret
        exact ⟨by first | rfl | (simp [errW_none, errW_some] <;> rfl) | (simp [*, errW_none, errW_some] <;> rfl), by repeat (first | (with_reducible first | exact HB.out | apply below_alloc | apply pw_below_drewN | apply below_drew1) | exact HB.out)⟩
      · replace c4 := Bool.eq_false_iff.mpr c4
        subst c4
        have H1 : (colophonref27_Good.l0 kj1 l0 0) = some r := by rw [if_neg (show ¬ (false = true) by decide)] at H; exact H
        clear H
        have H := H1
        clear H1
        have H' := Aside0.mk H
        clear H
        go_wp2
        go_loopg [3] kj1 (fun kq v3 w' => ∃ (x3_2 : Int), v3 = .int .i64 x3_2 ∧ Aside0 (colophonref27_Good.l0 kq l0 x3_2 = some r) ∧ Aside0 (kq ≤ kj1) ∧ Aside0 (Below w.heap.size w w'))
        case atStart => exact ⟨(0), (by first | rfl | (simp; done) | (simp [*]; done)), H', ⟨Nat.le_refl _⟩, ⟨by repeat (first | (with_reducible first | exact HB.out | apply below_alloc | apply pw_below_drewN | apply below_drew1) | exact HB.out)⟩⟩
        case round =>
          clear H'
          try clear c1
          try clear p2
          try clear c3
          try clear c3b0
          try clear c3b1
          try clear c4
          try clear p2
          obtain ⟨x3_2, rfl, HA, HK2, HB⟩ := hrel
          cases gk with
          | zero => exact absurd HA.out (by simp [colophonref27_Good.l0])
          | succ k2 =>
            have H := HA.out
            clear HA
            simp only [colophonref27_Good.l0] at H
            by_cases c5 : x3_2 < (l0.length : Int)
            · rw [if_pos c5] at H
              have c5b0 : decide (x3_2 < (l0.length : Int)) = true := decide_eq_true c5
              clear c5
              by_cases c6 : 0 ≤ x3_2
              · rw [if_pos c6] at H
                have c6b0 : decide (0 ≤ x3_2) = true := decide_eq_true c6
                clear c6
                have HC7 := Aside0.mk H
                clear H
                have p156 : 0 ≤ (x3_2 : Int) := of_decide_eq_true (by first | (with_reducible assumption) | assumption)
                have q156 : x3_2 < (l0.length : Int) := of_decide_eq_true (by first | (with_reducible assumption) | assumption)
                obtain ⟨ad156, e156, hx156_0, hx156_1, hx156_2, hx156_3⟩ := at_T43 HR0.out x3_2 p156 q156
                cases e156
                replace hx156_0 := (HB.out.cell (World.block_lt_of_cell? w _ hx156_0)).trans hx156_0
                replace hx156_1 := (HB.out.cell (World.block_lt_of_cell? w _ hx156_1)).trans hx156_1
                replace hx156_2 := (HB.out.cell (World.block_lt_of_cell? w _ hx156_2)).trans hx156_2
                replace hx156_3 := (HB.out.cell (World.block_lt_of_cell? w _ hx156_3)).trans hx156_3
                replace p156 := eq_true p156
                replace q156 := eq_true q156
                go_upto_region 7 with (first | ((with_reducible refine gate_dst (N := 4) rfl ?_); (try (refine gate_guard (by rfl) ?_; dsimp only)); refine box_event ?hg (N := 4) ?hd (cs := #[.int .i64 0, .int .i64 0, .int .i64 0, .int .i64 0]) (t := 43) ?hr ?_; (case hd => rfl); (case hg => rfl); (case hr => first | (go_simp; done) | (go_simp; rfl)); intro gb157 hg w8 hbox hb; have n0_ := Aside0.mk (below_step (by repeat (first | (with_reducible first | exact HB.out | apply below_alloc | apply pw_below_drewN | apply below_drew1) | exact HB.out)) hb); have n1_ := Aside0.mk (hbox); have n2_ := Aside0.mk ((by rw [hg]; exact (below_size (by repeat (first | (with_reducible first | exact HB.out | apply below_alloc | apply pw_below_drewN | apply below_drew1) | exact HB.out))) : w.heap.size ≤ gb157)); have n3_ := Aside0.mk ((by rw [hg]; exact (below_size (by repeat (first | (with_reducible first | exact HB.out | apply below_alloc | apply pw_below_drewN | apply below_drew1) | exact HB.out))) : w.heap.size ≤ gb157)); clear HB; have HB := n0_; have BK157 := n1_; have GW157 := n2_; have GE157 := n3_; clear n0_ n1_ n2_ n3_; clear hb hbox hg; have hcz9_0 : w8.cell? ⟨gb157, 0, none⟩ = some (.int .i64 0) := (blk_cell BK157.out 0).trans rfl; have hcz9_1 : w8.cell? ⟨gb157, 1, none⟩ = some (.int .i64 0) := (blk_cell BK157.out 1).trans rfl; have hcz9_2 : w8.cell? ⟨gb157, 2, none⟩ = some (.int .i64 0) := (blk_cell BK157.out 2).trans rfl; have hcz9_3 : w8.cell? ⟨gb157, 3, none⟩ = some (.int .i64 0) := (blk_cell BK157.out 3).trans rfl; have hfz9_0 := blk_frozen BK157.out 0; have hfz9_1 := blk_frozen BK157.out 1; have hfz9_2 := blk_frozen BK157.out 2; have hfz9_3 := blk_frozen BK157.out 3))
                (try simp only [Act.put, List.setIfInBounds_toArray, List.set_cons_zero, List.set_cons_succ])
                go_cut [50] (fun v50 wc => ∃ (kq : Nat) (x50_6 : Bool), v50 = .bool x50_6 ∧ Aside0 (colophonref27_Good.j2 kq l0 x3_2 x50_6 ((rd_T43 l0 x3_2).f0) ((rd_T43 l0 x3_2).f1) ((rd_T43 l0 x3_2).f2) ((rd_T43 l0 x3_2).f3) = some r) ∧ Aside0 (kq ≤ k2) ∧ Aside0 (wc.heap[gb157]? = some (.cells #[.int .i64 ((rd_T43 l0 x3_2).f0), .int .i64 ((rd_T43 l0 x3_2).f1), .int .i64 ((rd_T43 l0 x3_2).f2), .int .i64 ((rd_T43 l0 x3_2).f3)] 43 (0, 0))) ∧ Aside0 (Below w.heap.size w wc))
                case first =>
                  have H := HC7.out
                  clear HC7
                  by_cases c10 : ((rd_T43 l0 x3_2).f1) < 0
                  · rw [if_pos c10] at H
                    have c10b0 : decide (((rd_T43 l0 x3_2).f1) < 0) = true := decide_eq_true c10
                    clear c10
                    (first | rw [c10b0] | (simp only [i64_w, i32_w]; rw [c10b0]) | skip)
                    have H' := Aside0.mk H
                    clear H
                    have hcz11_0 : w8.cell? ⟨gb157, 0, none⟩ = some (.int .i64 0) := (blk_cell BK157.out 0).trans rfl
                    have hcz11_1 : w8.cell? ⟨gb157, 1, none⟩ = some (.int .i64 0) := (blk_cell BK157.out 1).trans rfl
                    have hcz11_2 : w8.cell? ⟨gb157, 2, none⟩ = some (.int .i64 0) := (blk_cell BK157.out 2).trans rfl
                    have hcz11_3 : w8.cell? ⟨gb157, 3, none⟩ = some (.int .i64 0) := (blk_cell BK157.out 3).trans rfl
                    have hfz11_0 := blk_frozen BK157.out 0
                    have hfz11_1 := blk_frozen BK157.out 1
                    have hfz11_2 := blk_frozen BK157.out 2
                    have hfz11_3 := blk_frozen BK157.out 3
                    go_wp2
                    go_meet
                    case rel => exact ⟨_, (true), (by first | rfl | (simp; done) | (simp [*]; done)), H', ⟨by have := HJ1.out; have := HK2.out; first | omega | exact Nat.le_refl _⟩, ⟨by (with_reducible repeat (first | refine blk_drewN ?_ _ | refine blk_drew ?_ | refine blk_alloc ?_ _)); refine blk_put (cs := #[.int .i64 ((rd_T43 l0 x3_2).f0), .int .i64 ((rd_T43 l0 x3_2).f1), .int .i64 ((rd_T43 l0 x3_2).f2), .int .i64 0]) ?_ 3 _ rfl; (with_reducible repeat (first | refine blk_drewN ?_ _ | refine blk_drew ?_ | refine blk_alloc ?_ _)); refine blk_put (cs := #[.int .i64 ((rd_T43 l0 x3_2).f0), .int .i64 ((rd_T43 l0 x3_2).f1), .int .i64 0, .int .i64 0]) ?_ 2 _ rfl; (with_reducible repeat (first | refine blk_drewN ?_ _ | refine blk_drew ?_ | refine blk_alloc ?_ _)); refine blk_put (cs := #[.int .i64 ((rd_T43 l0 x3_2).f0), .int .i64 0, .int .i64 0, .int .i64 0]) ?_ 1 _ rfl; (with_reducible repeat (first | refine blk_drewN ?_ _ | refine blk_drew ?_ | refine blk_alloc ?_ _)); refine blk_put (cs := #[.int .i64 0, .int .i64 0, .int .i64 0, .int .i64 0]) ?_ 0 _ rfl; (with_reducible repeat (first | refine blk_drewN ?_ _ | refine blk_drew ?_ | refine blk_alloc ?_ _)); exact BK157.out⟩, ⟨by repeat (first | (with_reducible first | exact HB.out | apply below_alloc | apply pw_below_drewN | apply below_drew1 | refine below_set ?_ GE157.out) | exact HB.out)⟩⟩
                  · rw [if_neg c10] at H
                    have c10b0 : decide (((rd_T43 l0 x3_2).f1) < 0) = false := decide_eq_false c10
                    clear c10
                    (first | rw [c10b0] | (simp only [i64_w, i32_w]; rw [c10b0]) | skip)
                    by_cases c12 : ((rd_T43 l0 x3_2).f1) > 1073741824
                    · rw [if_pos c12] at H
                      have c12b0 : decide (1073741824 < ((rd_T43 l0 x3_2).f1)) = true := decide_eq_true c12
                      clear c12
                      have H' := Aside0.mk H
                      clear H
                      have hcz13_0 : w8.cell? ⟨gb157, 0, none⟩ = some (.int .i64 0) := (blk_cell BK157.out 0).trans rfl
                      have hcz13_1 : w8.cell? ⟨gb157, 1, none⟩ = some (.int .i64 0) := (blk_cell BK157.out 1).trans rfl
                      have hcz13_2 : w8.cell? ⟨gb157, 2, none⟩ = some (.int .i64 0) := (blk_cell BK157.out 2).trans rfl
                      have hcz13_3 : w8.cell? ⟨gb157, 3, none⟩ = some (.int .i64 0) := (blk_cell BK157.out 3).trans rfl
                      have hfz13_0 := blk_frozen BK157.out 0
                      have hfz13_1 := blk_frozen BK157.out 1
                      have hfz13_2 := blk_frozen BK157.out 2
                      have hfz13_3 := blk_frozen BK157.out 3
                      go_wp2
                      go_meet
                      case rel => exact ⟨_, (true), (by first | rfl | (simp; done) | (simp [*]; done)), H', ⟨by have := HJ1.out; have := HK2.out; first | omega | exact Nat.le_refl _⟩, ⟨by (with_reducible repeat (first | refine blk_drewN ?_ _ | refine blk_drew ?_ | refine blk_alloc ?_ _)); refine blk_put (cs := #[.int .i64 ((rd_T43 l0 x3_2).f0), .int .i64 ((rd_T43 l0 x3_2).f1), .int .i64 ((rd_T43 l0 x3_2).f2), .int .i64 0]) ?_ 3 _ rfl; (with_reducible repeat (first | refine blk_drewN ?_ _ | refine blk_drew ?_ | refine blk_alloc ?_ _)); refine blk_put (cs := #[.int .i64 ((rd_T43 l0 x3_2).f0), .int .i64 ((rd_T43 l0 x3_2).f1), .int .i64 0, .int .i64 0]) ?_ 2 _ rfl; (with_reducible repeat (first | refine blk_drewN ?_ _ | refine blk_drew ?_ | refine blk_alloc ?_ _)); refine blk_put (cs := #[.int .i64 ((rd_T43 l0 x3_2).f0), .int .i64 0, .int .i64 0, .int .i64 0]) ?_ 1 _ rfl; (with_reducible repeat (first | refine blk_drewN ?_ _ | refine blk_drew ?_ | refine blk_alloc ?_ _)); refine blk_put (cs := #[.int .i64 0, .int .i64 0, .int .i64 0, .int .i64 0]) ?_ 0 _ rfl; (with_reducible repeat (first | refine blk_drewN ?_ _ | refine blk_drew ?_ | refine blk_alloc ?_ _)); exact BK157.out⟩, ⟨by repeat (first | (with_reducible first | exact HB.out | apply below_alloc | apply pw_below_drewN | apply below_drew1 | refine below_set ?_ GE157.out) | exact HB.out)⟩⟩
                    · rw [if_neg c12] at H
                      have c12b0 : decide (1073741824 < ((rd_T43 l0 x3_2).f1)) = false := decide_eq_false c12
                      clear c12
                      by_cases c14 : ((rd_T43 l0 x3_2).f2) < 0
                      · rw [if_pos c14] at H
                        have c14b0 : decide (((rd_T43 l0 x3_2).f2) < 0) = true := decide_eq_true c14
                        clear c14
                        have H' := Aside0.mk H
                        clear H
                        have hcz15_0 : w8.cell? ⟨gb157, 0, none⟩ = some (.int .i64 0) := (blk_cell BK157.out 0).trans rfl
                        have hcz15_1 : w8.cell? ⟨gb157, 1, none⟩ = some (.int .i64 0) := (blk_cell BK157.out 1).trans rfl
                        have hcz15_2 : w8.cell? ⟨gb157, 2, none⟩ = some (.int .i64 0) := (blk_cell BK157.out 2).trans rfl
                        have hcz15_3 : w8.cell? ⟨gb157, 3, none⟩ = some (.int .i64 0) := (blk_cell BK157.out 3).trans rfl
                        have hfz15_0 := blk_frozen BK157.out 0
                        have hfz15_1 := blk_frozen BK157.out 1
                        have hfz15_2 := blk_frozen BK157.out 2
                        have hfz15_3 := blk_frozen BK157.out 3
                        go_wp2
                        go_meet
                        case rel => exact ⟨_, (true), (by first | rfl | (simp; done) | (simp [*]; done)), H', ⟨by have := HJ1.out; have := HK2.out; first | omega | exact Nat.le_refl _⟩, ⟨by (with_reducible repeat (first | refine blk_drewN ?_ _ | refine blk_drew ?_ | refine blk_alloc ?_ _)); refine blk_put (cs := #[.int .i64 ((rd_T43 l0 x3_2).f0), .int .i64 ((rd_T43 l0 x3_2).f1), .int .i64 ((rd_T43 l0 x3_2).f2), .int .i64 0]) ?_ 3 _ rfl; (with_reducible repeat (first | refine blk_drewN ?_ _ | refine blk_drew ?_ | refine blk_alloc ?_ _)); refine blk_put (cs := #[.int .i64 ((rd_T43 l0 x3_2).f0), .int .i64 ((rd_T43 l0 x3_2).f1), .int .i64 0, .int .i64 0]) ?_ 2 _ rfl; (with_reducible repeat (first | refine blk_drewN ?_ _ | refine blk_drew ?_ | refine blk_alloc ?_ _)); refine blk_put (cs := #[.int .i64 ((rd_T43 l0 x3_2).f0), .int .i64 0, .int .i64 0, .int .i64 0]) ?_ 1 _ rfl; (with_reducible repeat (first | refine blk_drewN ?_ _ | refine blk_drew ?_ | refine blk_alloc ?_ _)); refine blk_put (cs := #[.int .i64 0, .int .i64 0, .int .i64 0, .int .i64 0]) ?_ 0 _ rfl; (with_reducible repeat (first | refine blk_drewN ?_ _ | refine blk_drew ?_ | refine blk_alloc ?_ _)); exact BK157.out⟩, ⟨by repeat (first | (with_reducible first | exact HB.out | apply below_alloc | apply pw_below_drewN | apply below_drew1 | refine below_set ?_ GE157.out) | exact HB.out)⟩⟩
                      · rw [if_neg c14] at H
                        have c14b0 : decide (((rd_T43 l0 x3_2).f2) < 0) = false := decide_eq_false c14
                        clear c14
                        by_cases c16 : ((rd_T43 l0 x3_2).f2) > 1073741824
                        · rw [if_pos c16] at H
                          have c16b0 : decide (1073741824 < ((rd_T43 l0 x3_2).f2)) = true := decide_eq_true c16
                          clear c16
                          have H' := Aside0.mk H
                          clear H
                          have hcz17_0 : w8.cell? ⟨gb157, 0, none⟩ = some (.int .i64 0) := (blk_cell BK157.out 0).trans rfl
                          have hcz17_1 : w8.cell? ⟨gb157, 1, none⟩ = some (.int .i64 0) := (blk_cell BK157.out 1).trans rfl
                          have hcz17_2 : w8.cell? ⟨gb157, 2, none⟩ = some (.int .i64 0) := (blk_cell BK157.out 2).trans rfl
                          have hcz17_3 : w8.cell? ⟨gb157, 3, none⟩ = some (.int .i64 0) := (blk_cell BK157.out 3).trans rfl
                          have hfz17_0 := blk_frozen BK157.out 0
                          have hfz17_1 := blk_frozen BK157.out 1
                          have hfz17_2 := blk_frozen BK157.out 2
                          have hfz17_3 := blk_frozen BK157.out 3
                          go_wp2
                          go_meet
                          case rel => exact ⟨_, (true), (by first | rfl | (simp; done) | (simp [*]; done)), H', ⟨by have := HJ1.out; have := HK2.out; first | omega | exact Nat.le_refl _⟩, ⟨by (with_reducible repeat (first | refine blk_drewN ?_ _ | refine blk_drew ?_ | refine blk_alloc ?_ _)); refine blk_put (cs := #[.int .i64 ((rd_T43 l0 x3_2).f0), .int .i64 ((rd_T43 l0 x3_2).f1), .int .i64 ((rd_T43 l0 x3_2).f2), .int .i64 0]) ?_ 3 _ rfl; (with_reducible repeat (first | refine blk_drewN ?_ _ | refine blk_drew ?_ | refine blk_alloc ?_ _)); refine blk_put (cs := #[.int .i64 ((rd_T43 l0 x3_2).f0), .int .i64 ((rd_T43 l0 x3_2).f1), .int .i64 0, .int .i64 0]) ?_ 2 _ rfl; (with_reducible repeat (first | refine blk_drewN ?_ _ | refine blk_drew ?_ | refine blk_alloc ?_ _)); refine blk_put (cs := #[.int .i64 ((rd_T43 l0 x3_2).f0), .int .i64 0, .int .i64 0, .int .i64 0]) ?_ 1 _ rfl; (with_reducible repeat (first | refine blk_drewN ?_ _ | refine blk_drew ?_ | refine blk_alloc ?_ _)); refine blk_put (cs := #[.int .i64 0, .int .i64 0, .int .i64 0, .int .i64 0]) ?_ 0 _ rfl; (with_reducible repeat (first | refine blk_drewN ?_ _ | refine blk_drew ?_ | refine blk_alloc ?_ _)); exact BK157.out⟩, ⟨by repeat (first | (with_reducible first | exact HB.out | apply below_alloc | apply pw_below_drewN | apply below_drew1 | refine below_set ?_ GE157.out) | exact HB.out)⟩⟩
                        · rw [if_neg c16] at H
                          have c16b0 : decide (1073741824 < ((rd_T43 l0 x3_2).f2)) = false := decide_eq_false c16
                          clear c16
                          by_cases c18 : ((rd_T43 l0 x3_2).f3) < (-10000)
                          · rw [if_pos c18] at H
                            have c18b0 : decide (((rd_T43 l0 x3_2).f3) < (-10000)) = true := decide_eq_true c18
                            clear c18
                            have H' := Aside0.mk H
                            clear H
                            have hcz19_0 : w8.cell? ⟨gb157, 0, none⟩ = some (.int .i64 0) := (blk_cell BK157.out 0).trans rfl
                            have hcz19_1 : w8.cell? ⟨gb157, 1, none⟩ = some (.int .i64 0) := (blk_cell BK157.out 1).trans rfl
                            have hcz19_2 : w8.cell? ⟨gb157, 2, none⟩ = some (.int .i64 0) := (blk_cell BK157.out 2).trans rfl
                            have hcz19_3 : w8.cell? ⟨gb157, 3, none⟩ = some (.int .i64 0) := (blk_cell BK157.out 3).trans rfl
                            have hfz19_0 := blk_frozen BK157.out 0
                            have hfz19_1 := blk_frozen BK157.out 1
                            have hfz19_2 := blk_frozen BK157.out 2
                            have hfz19_3 := blk_frozen BK157.out 3
                            go_wp2
                            go_meet
                            case rel => exact ⟨_, (true), (by first | rfl | (simp; done) | (simp [*]; done)), H', ⟨by have := HJ1.out; have := HK2.out; first | omega | exact Nat.le_refl _⟩, ⟨by (with_reducible repeat (first | refine blk_drewN ?_ _ | refine blk_drew ?_ | refine blk_alloc ?_ _)); refine blk_put (cs := #[.int .i64 ((rd_T43 l0 x3_2).f0), .int .i64 ((rd_T43 l0 x3_2).f1), .int .i64 ((rd_T43 l0 x3_2).f2), .int .i64 0]) ?_ 3 _ rfl; (with_reducible repeat (first | refine blk_drewN ?_ _ | refine blk_drew ?_ | refine blk_alloc ?_ _)); refine blk_put (cs := #[.int .i64 ((rd_T43 l0 x3_2).f0), .int .i64 ((rd_T43 l0 x3_2).f1), .int .i64 0, .int .i64 0]) ?_ 2 _ rfl; (with_reducible repeat (first | refine blk_drewN ?_ _ | refine blk_drew ?_ | refine blk_alloc ?_ _)); refine blk_put (cs := #[.int .i64 ((rd_T43 l0 x3_2).f0), .int .i64 0, .int .i64 0, .int .i64 0]) ?_ 1 _ rfl; (with_reducible repeat (first | refine blk_drewN ?_ _ | refine blk_drew ?_ | refine blk_alloc ?_ _)); refine blk_put (cs := #[.int .i64 0, .int .i64 0, .int .i64 0, .int .i64 0]) ?_ 0 _ rfl; (with_reducible repeat (first | refine blk_drewN ?_ _ | refine blk_drew ?_ | refine blk_alloc ?_ _)); exact BK157.out⟩, ⟨by repeat (first | (with_reducible first | exact HB.out | apply below_alloc | apply pw_below_drewN | apply below_drew1 | refine below_set ?_ GE157.out) | exact HB.out)⟩⟩
                          · rw [if_neg c18] at H
                            have c18b0 : decide (((rd_T43 l0 x3_2).f3) < (-10000)) = false := decide_eq_false c18
                            clear c18
                            have H' := Aside0.mk H
                            clear H
                            have hcz20_0 : w8.cell? ⟨gb157, 0, none⟩ = some (.int .i64 0) := (blk_cell BK157.out 0).trans rfl
                            have hcz20_1 : w8.cell? ⟨gb157, 1, none⟩ = some (.int .i64 0) := (blk_cell BK157.out 1).trans rfl
                            have hcz20_2 : w8.cell? ⟨gb157, 2, none⟩ = some (.int .i64 0) := (blk_cell BK157.out 2).trans rfl
                            have hcz20_3 : w8.cell? ⟨gb157, 3, none⟩ = some (.int .i64 0) := (blk_cell BK157.out 3).trans rfl
                            have hfz20_0 := blk_frozen BK157.out 0
                            have hfz20_1 := blk_frozen BK157.out 1
                            have hfz20_2 := blk_frozen BK157.out 2
                            have hfz20_3 := blk_frozen BK157.out 3
                            go_wp2
                            go_meet
                            case rel => exact ⟨_, (decide (((rd_T43 l0 x3_2).f3) > 10000)), (by first | rfl | (simp; done) | (simp [*]; done)), H', ⟨by have := HJ1.out; have := HK2.out; first | omega | exact Nat.le_refl _⟩, ⟨by (with_reducible repeat (first | refine blk_drewN ?_ _ | refine blk_drew ?_ | refine blk_alloc ?_ _)); refine blk_put (cs := #[.int .i64 ((rd_T43 l0 x3_2).f0), .int .i64 ((rd_T43 l0 x3_2).f1), .int .i64 ((rd_T43 l0 x3_2).f2), .int .i64 0]) ?_ 3 _ rfl; (with_reducible repeat (first | refine blk_drewN ?_ _ | refine blk_drew ?_ | refine blk_alloc ?_ _)); refine blk_put (cs := #[.int .i64 ((rd_T43 l0 x3_2).f0), .int .i64 ((rd_T43 l0 x3_2).f1), .int .i64 0, .int .i64 0]) ?_ 2 _ rfl; (with_reducible repeat (first | refine blk_drewN ?_ _ | refine blk_drew ?_ | refine blk_alloc ?_ _)); refine blk_put (cs := #[.int .i64 ((rd_T43 l0 x3_2).f0), .int .i64 0, .int .i64 0, .int .i64 0]) ?_ 1 _ rfl; (with_reducible repeat (first | refine blk_drewN ?_ _ | refine blk_drew ?_ | refine blk_alloc ?_ _)); refine blk_put (cs := #[.int .i64 0, .int .i64 0, .int .i64 0, .int .i64 0]) ?_ 0 _ rfl; (with_reducible repeat (first | refine blk_drewN ?_ _ | refine blk_drew ?_ | refine blk_alloc ?_ _)); exact BK157.out⟩, ⟨by repeat (first | (with_reducible first | exact HB.out | apply below_alloc | apply pw_below_drewN | apply below_drew1 | refine below_set ?_ GE157.out) | exact HB.out)⟩⟩
                case rest =>
                  clear HC7
                  try clear c1
                  try clear p1
                  try clear q1
                  try clear hx1
                  try clear p2
                  try clear c3
                  try clear c3b0
                  try clear c3b1
                  try clear c4
                  try clear c5
                  try clear c5b0
                  try clear c6
                  try clear c6b0
                  try clear c10
                  try clear c10b0
                  try clear c12
                  try clear c12b0
                  try clear c14
                  try clear c14b0
                  try clear p15
                  try clear q15
                  try clear hx15
                  try clear c16
                  try clear c16b0
                  try clear c18
                  try clear c18b0
                  try clear c19
                  try clear hcz11_0
                  try clear hcz11_1
                  try clear hcz11_2
                  try clear hcz11_3
                  try clear hcz13_0
                  try clear hcz13_1
                  try clear hcz13_2
                  try clear hcz13_3
                  try clear hcz15_0
                  try clear hcz15_1
                  try clear hcz15_2
                  try clear hcz15_3
                  try clear hcz17_0
                  try clear hcz17_1
                  try clear hcz17_2
                  try clear hcz17_3
                  try clear hcz19_0
                  try clear hcz19_1
                  try clear hcz19_2
                  try clear hcz19_3
                  try clear hcz20_0
                  try clear hcz20_1
                  try clear hcz20_2
                  try clear hcz20_3
                  try clear hcz9_0
                  try clear hcz9_1
                  try clear hcz9_2
                  try clear hcz9_3
                  try clear hfz11_0
                  try clear hfz11_1
                  try clear hfz11_2
                  try clear hfz11_3
                  try clear hfz13_0
                  try clear hfz13_1
                  try clear hfz13_2
                  try clear hfz13_3
                  try clear hfz15_0
                  try clear hfz15_1
                  try clear hfz15_2
                  try clear hfz15_3
                  try clear hfz17_0
                  try clear hfz17_1
                  try clear hfz17_2
                  try clear hfz17_3
                  try clear hfz19_0
                  try clear hfz19_1
                  try clear hfz19_2
                  try clear hfz19_3
                  try clear hfz20_0
                  try clear hfz20_1
                  try clear hfz20_2
                  try clear hfz20_3
                  try clear hfz9_0
                  try clear hfz9_1
                  try clear hfz9_2
                  try clear hfz9_3
                  try clear hx156_0
                  try clear hx156_1
                  try clear hx156_2
                  try clear hx156_3
                  try clear p156
                  try clear p2
                  try clear q156
                  obtain ⟨kq, x50_6, rfl, HA, HJ6, BK157, HB⟩ := hcut
                  cases kq with
                  | zero => exact absurd HA.out (by simp [colophonref27_Good.j2])
                  | succ kj6 =>
                    have H := HA.out
                    clear HA
                    simp only [colophonref27_Good.j2] at H
                    by_cases c21 : x50_6 = true
                    · subst c21
                      have H1 : (some false) = some r := by rw [if_pos rfl] at H; exact H
                      clear H
                      have H := H1
                      clear H1
                      obtain rfl := Option.some.inj H
                      go_wp2
                      go_ret
                      exact ⟨by first | rfl | (simp [errW_none, errW_some] <;> rfl) | (simp [*, errW_none, errW_some] <;> rfl), by repeat (first | (with_reducible first | exact HB.out | apply below_alloc | apply pw_below_drewN | apply below_drew1 | refine below_set ?_ GE157.out) | exact HB.out)⟩
                    · replace c21 := Bool.eq_false_iff.mpr c21
                      subst c21
                      have H1 : (if ((rd_T43 l0 x3_2).f0) < 1 then (some false) else (if ((rd_T43 l0 x3_2).f0) > 3 then (some false) else (if ((rd_T43 l0 x3_2).f0) = 1 then (if ((rd_T43 l0 x3_2).f0) = 3 then (if ((rd_T43 l0 x3_2).f1) = 0 then (colophonref27_Good.l0 kj6 l0 (wrap64 (x3_2 + 1))) else (some false)) else (if ((rd_T43 l0 x3_2).f3) = 0 then (colophonref27_Good.l0 kj6 l0 (wrap64 (x3_2 + 1))) else (some false))) else (if ((rd_T43 l0 x3_2).f2) = 0 then (if ((rd_T43 l0 x3_2).f0) = 3 then (if ((rd_T43 l0 x3_2).f1) = 0 then (colophonref27_Good.l0 kj6 l0 (wrap64 (x3_2 + 1))) else (some false)) else (if ((rd_T43 l0 x3_2).f3) = 0 then (colophonref27_Good.l0 kj6 l0 (wrap64 (x3_2 + 1))) else (some false))) else (some false))))) = some r := by rw [if_neg (show ¬ (false = true) by decide)] at H; exact H
                      clear H
                      have H := H1
                      clear H1
                      by_cases c22 : ((rd_T43 l0 x3_2).f0) < 1
                      · rw [if_pos c22] at H
                        have c22b0 : decide (((rd_T43 l0 x3_2).f0) < 1) = true := decide_eq_true c22
                        clear c22
                        obtain rfl := Option.some.inj H
                        have hcz23_0 : wc.cell? ⟨gb157, 0, none⟩ = some (.int .i64 ((rd_T43 l0 x3_2).f0)) := (blk_cell BK157.out 0).trans rfl
                        have hcz23_1 : wc.cell? ⟨gb157, 1, none⟩ = some (.int .i64 ((rd_T43 l0 x3_2).f1)) := (blk_cell BK157.out 1).trans rfl
                        have hcz23_2 : wc.cell? ⟨gb157, 2, none⟩ = some (.int .i64 ((rd_T43 l0 x3_2).f2)) := (blk_cell BK157.out 2).trans rfl
                        have hcz23_3 : wc.cell? ⟨gb157, 3, none⟩ = some (.int .i64 ((rd_T43 l0 x3_2).f3)) := (blk_cell BK157.out 3).trans rfl
                        have hfz23_0 := blk_frozen BK157.out 0
                        have hfz23_1 := blk_frozen BK157.out 1
                        have hfz23_2 := blk_frozen BK157.out 2
                        have hfz23_3 := blk_frozen BK157.out 3
                        go_wp2
                        go_ret
                        exact ⟨by first | rfl | (simp [errW_none, errW_some] <;> rfl) | (simp [*, errW_none, errW_some] <;> rfl), by repeat (first | (with_reducible first | exact HB.out | apply below_alloc | apply pw_below_drewN | apply below_drew1 | refine below_set ?_ GE157.out) | exact HB.out)⟩
                      · rw [if_neg c22] at H
                        have c22b0 : decide (((rd_T43 l0 x3_2).f0) < 1) = false := decide_eq_false c22
                        clear c22
                        by_cases c24 : ((rd_T43 l0 x3_2).f0) > 3
                        · rw [if_pos c24] at H
                          have c24b0 : decide (3 < ((rd_T43 l0 x3_2).f0)) = true := decide_eq_true c24
                          clear c24
                          obtain rfl := Option.some.inj H
                          have hcz25_0 : wc.cell? ⟨gb157, 0, none⟩ = some (.int .i64 ((rd_T43 l0 x3_2).f0)) := (blk_cell BK157.out 0).trans rfl
                          have hcz25_1 : wc.cell? ⟨gb157, 1, none⟩ = some (.int .i64 ((rd_T43 l0 x3_2).f1)) := (blk_cell BK157.out 1).trans rfl
                          have hcz25_2 : wc.cell? ⟨gb157, 2, none⟩ = some (.int .i64 ((rd_T43 l0 x3_2).f2)) := (blk_cell BK157.out 2).trans rfl
                          have hcz25_3 : wc.cell? ⟨gb157, 3, none⟩ = some (.int .i64 ((rd_T43 l0 x3_2).f3)) := (blk_cell BK157.out 3).trans rfl
                          have hfz25_0 := blk_frozen BK157.out 0
                          have hfz25_1 := blk_frozen BK157.out 1
                          have hfz25_2 := blk_frozen BK157.out 2
                          have hfz25_3 := blk_frozen BK157.out 3
                          go_wp2
                          go_ret
                          exact ⟨by first | rfl | (simp [errW_none, errW_some] <;> rfl) | (simp [*, errW_none, errW_some] <;> rfl), by repeat (first | (with_reducible first | exact HB.out | apply below_alloc | apply pw_below_drewN | apply below_drew1 | refine below_set ?_ GE157.out) | exact HB.out)⟩
                        · rw [if_neg c24] at H
                          have c24b0 : decide (3 < ((rd_T43 l0 x3_2).f0)) = false := decide_eq_false c24
                          clear c24
                          by_cases c26 : ((rd_T43 l0 x3_2).f0) = 1
                          · rw [if_pos c26] at H
                            have c26b0 : (((rd_T43 l0 x3_2).f0) == 1) = true := beq_iff_eq.mpr c26
                            have c26b1 : (((rd_T43 l0 x3_2).f0) != 1) = false := bne_eq_false_iff_eq.mpr c26
                            clear c26
                            by_cases c27 : ((rd_T43 l0 x3_2).f0) = 3
                            · rw [if_pos c27] at H
                              have c27b0 : (((rd_T43 l0 x3_2).f0) == 3) = true := beq_iff_eq.mpr c27
                              have c27b1 : (((rd_T43 l0 x3_2).f0) != 3) = false := bne_eq_false_iff_eq.mpr c27
                              clear c27
                              by_cases c28 : ((rd_T43 l0 x3_2).f1) = 0
                              · rw [if_pos c28] at H
                                have c28b0 : (((rd_T43 l0 x3_2).f1) == 0) = true := beq_iff_eq.mpr c28
                                have c28b1 : (((rd_T43 l0 x3_2).f1) != 0) = false := bne_eq_false_iff_eq.mpr c28
                                clear c28
                                have H' := Aside0.mk H
                                clear H
                                have hcz29_0 : wc.cell? ⟨gb157, 0, none⟩ = some (.int .i64 ((rd_T43 l0 x3_2).f0)) := (blk_cell BK157.out 0).trans rfl
                                have hcz29_1 : wc.cell? ⟨gb157, 1, none⟩ = some (.int .i64 ((rd_T43 l0 x3_2).f1)) := (blk_cell BK157.out 1).trans rfl
                                have hcz29_2 : wc.cell? ⟨gb157, 2, none⟩ = some (.int .i64 ((rd_T43 l0 x3_2).f2)) := (blk_cell BK157.out 2).trans rfl
                                have hcz29_3 : wc.cell? ⟨gb157, 3, none⟩ = some (.int .i64 ((rd_T43 l0 x3_2).f3)) := (blk_cell BK157.out 3).trans rfl
                                have hfz29_0 := blk_frozen BK157.out 0
                                have hfz29_1 := blk_frozen BK157.out 1
                                have hfz29_2 := blk_frozen BK157.out 2
                                have hfz29_3 := blk_frozen BK157.out 3
                                go_wp2
                                go_roundg kj6
                                case measure => have := HJ1.out; have := HK2.out; have := HJ6.out; omega
                                case rel => exact ⟨(wrap64 (x3_2 + 1)), (by first | rfl | (simp; done) | (simp [*]; done)), H', ⟨by have := HJ1.out; have := HK2.out; have := HJ6.out; omega⟩, ⟨by repeat (first | (with_reducible first | exact HB.out | apply below_alloc | apply pw_below_drewN | apply below_drew1 | refine below_set ?_ GE157.out) | exact HB.out)⟩⟩
                              · rw [if_neg c28] at H
                                have c28b0 : (((rd_T43 l0 x3_2).f1) == 0) = false := beq_eq_false_iff_ne.mpr c28
                                have c28b1 : (((rd_T43 l0 x3_2).f1) != 0) = true := bne_iff_ne.mpr c28
                                obtain rfl := Option.some.inj H
                                have hcz30_0 : wc.cell? ⟨gb157, 0, none⟩ = some (.int .i64 ((rd_T43 l0 x3_2).f0)) := (blk_cell BK157.out 0).trans rfl
                                have hcz30_1 : wc.cell? ⟨gb157, 1, none⟩ = some (.int .i64 ((rd_T43 l0 x3_2).f1)) := (blk_cell BK157.out 1).trans rfl
                                have hcz30_2 : wc.cell? ⟨gb157, 2, none⟩ = some (.int .i64 ((rd_T43 l0 x3_2).f2)) := (blk_cell BK157.out 2).trans rfl
                                have hcz30_3 : wc.cell? ⟨gb157, 3, none⟩ = some (.int .i64 ((rd_T43 l0 x3_2).f3)) := (blk_cell BK157.out 3).trans rfl
                                have hfz30_0 := blk_frozen BK157.out 0
                                have hfz30_1 := blk_frozen BK157.out 1
                                have hfz30_2 := blk_frozen BK157.out 2
                                have hfz30_3 := blk_frozen BK157.out 3
                                go_wp2
                                go_ret
                                exact ⟨by first | rfl | (simp [errW_none, errW_some] <;> rfl) | (simp [*, errW_none, errW_some] <;> rfl), by repeat (first | (with_reducible first | exact HB.out | apply below_alloc | apply pw_below_drewN | apply below_drew1 | refine below_set ?_ GE157.out) | exact HB.out)⟩
                            · rw [if_neg c27] at H
                              have c27b0 : (((rd_T43 l0 x3_2).f0) == 3) = false := beq_eq_false_iff_ne.mpr c27
                              have c27b1 : (((rd_T43 l0 x3_2).f0) != 3) = true := bne_iff_ne.mpr c27
                              by_cases c31 : ((rd_T43 l0 x3_2).f3) = 0
                              · rw [if_pos c31] at H
                                have c31b0 : (((rd_T43 l0 x3_2).f3) == 0) = true := beq_iff_eq.mpr c31
                                have c31b1 : (((rd_T43 l0 x3_2).f3) != 0) = false := bne_eq_false_iff_eq.mpr c31
                                clear c31
                                have H' := Aside0.mk H
                                clear H
                                have hcz32_0 : wc.cell? ⟨gb157, 0, none⟩ = some (.int .i64 ((rd_T43 l0 x3_2).f0)) := (blk_cell BK157.out 0).trans rfl
                                have hcz32_1 : wc.cell? ⟨gb157, 1, none⟩ = some (.int .i64 ((rd_T43 l0 x3_2).f1)) := (blk_cell BK157.out 1).trans rfl
                                have hcz32_2 : wc.cell? ⟨gb157, 2, none⟩ = some (.int .i64 ((rd_T43 l0 x3_2).f2)) := (blk_cell BK157.out 2).trans rfl
                                have hcz32_3 : wc.cell? ⟨gb157, 3, none⟩ = some (.int .i64 ((rd_T43 l0 x3_2).f3)) := (blk_cell BK157.out 3).trans rfl
                                have hfz32_0 := blk_frozen BK157.out 0
                                have hfz32_1 := blk_frozen BK157.out 1
                                have hfz32_2 := blk_frozen BK157.out 2
                                have hfz32_3 := blk_frozen BK157.out 3
                                go_wp2
                                go_roundg kj6
                                case measure => have := HJ1.out; have := HK2.out; have := HJ6.out; omega
                                case rel => exact ⟨(wrap64 (x3_2 + 1)), (by first | rfl | (simp; done) | (simp [*]; done)), H', ⟨by have := HJ1.out; have := HK2.out; have := HJ6.out; omega⟩, ⟨by repeat (first | (with_reducible first | exact HB.out | apply below_alloc | apply pw_below_drewN | apply below_drew1 | refine below_set ?_ GE157.out) | exact HB.out)⟩⟩
                              · rw [if_neg c31] at H
                                have c31b0 : (((rd_T43 l0 x3_2).f3) == 0) = false := beq_eq_false_iff_ne.mpr c31
                                have c31b1 : (((rd_T43 l0 x3_2).f3) != 0) = true := bne_iff_ne.mpr c31
                                obtain rfl := Option.some.inj H
                                have hcz33_0 : wc.cell? ⟨gb157, 0, none⟩ = some (.int .i64 ((rd_T43 l0 x3_2).f0)) := (blk_cell BK157.out 0).trans rfl
                                have hcz33_1 : wc.cell? ⟨gb157, 1, none⟩ = some (.int .i64 ((rd_T43 l0 x3_2).f1)) := (blk_cell BK157.out 1).trans rfl
                                have hcz33_2 : wc.cell? ⟨gb157, 2, none⟩ = some (.int .i64 ((rd_T43 l0 x3_2).f2)) := (blk_cell BK157.out 2).trans rfl
                                have hcz33_3 : wc.cell? ⟨gb157, 3, none⟩ = some (.int .i64 ((rd_T43 l0 x3_2).f3)) := (blk_cell BK157.out 3).trans rfl
                                have hfz33_0 := blk_frozen BK157.out 0
                                have hfz33_1 := blk_frozen BK157.out 1
                                have hfz33_2 := blk_frozen BK157.out 2
                                have hfz33_3 := blk_frozen BK157.out 3
                                go_wp2
                                go_ret
                                exact ⟨by first | rfl | (simp [errW_none, errW_some] <;> rfl) | (simp [*, errW_none, errW_some] <;> rfl), by repeat (first | (with_reducible first | exact HB.out | apply below_alloc | apply pw_below_drewN | apply below_drew1 | refine below_set ?_ GE157.out) | exact HB.out)⟩
                          · rw [if_neg c26] at H
                            have c26b0 : (((rd_T43 l0 x3_2).f0) == 1) = false := beq_eq_false_iff_ne.mpr c26
                            have c26b1 : (((rd_T43 l0 x3_2).f0) != 1) = true := bne_iff_ne.mpr c26
                            by_cases c34 : ((rd_T43 l0 x3_2).f2) = 0
                            · rw [if_pos c34] at H
                              have c34b0 : (((rd_T43 l0 x3_2).f2) == 0) = true := beq_iff_eq.mpr c34
                              have c34b1 : (((rd_T43 l0 x3_2).f2) != 0) = false := bne_eq_false_iff_eq.mpr c34
                              clear c34
                              by_cases c35 : ((rd_T43 l0 x3_2).f0) = 3
                              · rw [if_pos c35] at H
                                have c35b0 : (((rd_T43 l0 x3_2).f0) == 3) = true := beq_iff_eq.mpr c35
                                have c35b1 : (((rd_T43 l0 x3_2).f0) != 3) = false := bne_eq_false_iff_eq.mpr c35
                                clear c35
                                by_cases c36 : ((rd_T43 l0 x3_2).f1) = 0
                                · rw [if_pos c36] at H
                                  have c36b0 : (((rd_T43 l0 x3_2).f1) == 0) = true := beq_iff_eq.mpr c36
                                  have c36b1 : (((rd_T43 l0 x3_2).f1) != 0) = false := bne_eq_false_iff_eq.mpr c36
                                  clear c36
                                  have H' := Aside0.mk H
                                  clear H
                                  have hcz37_0 : wc.cell? ⟨gb157, 0, none⟩ = some (.int .i64 ((rd_T43 l0 x3_2).f0)) := (blk_cell BK157.out 0).trans rfl
                                  have hcz37_1 : wc.cell? ⟨gb157, 1, none⟩ = some (.int .i64 ((rd_T43 l0 x3_2).f1)) := (blk_cell BK157.out 1).trans rfl
                                  have hcz37_2 : wc.cell? ⟨gb157, 2, none⟩ = some (.int .i64 ((rd_T43 l0 x3_2).f2)) := (blk_cell BK157.out 2).trans rfl
                                  have hcz37_3 : wc.cell? ⟨gb157, 3, none⟩ = some (.int .i64 ((rd_T43 l0 x3_2).f3)) := (blk_cell BK157.out 3).trans rfl
                                  have hfz37_0 := blk_frozen BK157.out 0
                                  have hfz37_1 := blk_frozen BK157.out 1
                                  have hfz37_2 := blk_frozen BK157.out 2
                                  have hfz37_3 := blk_frozen BK157.out 3
                                  go_wp2
                                  go_roundg kj6
                                  case measure => have := HJ1.out; have := HK2.out; have := HJ6.out; omega
                                  case rel => exact ⟨(wrap64 (x3_2 + 1)), (by first | rfl | (simp; done) | (simp [*]; done)), H', ⟨by have := HJ1.out; have := HK2.out; have := HJ6.out; omega⟩, ⟨by repeat (first | (with_reducible first | exact HB.out | apply below_alloc | apply pw_below_drewN | apply below_drew1 | refine below_set ?_ GE157.out) | exact HB.out)⟩⟩
                                · rw [if_neg c36] at H
                                  have c36b0 : (((rd_T43 l0 x3_2).f1) == 0) = false := beq_eq_false_iff_ne.mpr c36
                                  have c36b1 : (((rd_T43 l0 x3_2).f1) != 0) = true := bne_iff_ne.mpr c36
                                  obtain rfl := Option.some.inj H
                                  have hcz38_0 : wc.cell? ⟨gb157, 0, none⟩ = some (.int .i64 ((rd_T43 l0 x3_2).f0)) := (blk_cell BK157.out 0).trans rfl
                                  have hcz38_1 : wc.cell? ⟨gb157, 1, none⟩ = some (.int .i64 ((rd_T43 l0 x3_2).f1)) := (blk_cell BK157.out 1).trans rfl
                                  have hcz38_2 : wc.cell? ⟨gb157, 2, none⟩ = some (.int .i64 ((rd_T43 l0 x3_2).f2)) := (blk_cell BK157.out 2).trans rfl
                                  have hcz38_3 : wc.cell? ⟨gb157, 3, none⟩ = some (.int .i64 ((rd_T43 l0 x3_2).f3)) := (blk_cell BK157.out 3).trans rfl
                                  have hfz38_0 := blk_frozen BK157.out 0
                                  have hfz38_1 := blk_frozen BK157.out 1
                                  have hfz38_2 := blk_frozen BK157.out 2
                                  have hfz38_3 := blk_frozen BK157.out 3
                                  go_wp2
                                  go_ret
                                  exact ⟨by first | rfl | (simp [errW_none, errW_some] <;> rfl) | (simp [*, errW_none, errW_some] <;> rfl), by repeat (first | (with_reducible first | exact HB.out | apply below_alloc | apply pw_below_drewN | apply below_drew1 | refine below_set ?_ GE157.out) | exact HB.out)⟩
                              · rw [if_neg c35] at H
                                have c35b0 : (((rd_T43 l0 x3_2).f0) == 3) = false := beq_eq_false_iff_ne.mpr c35
                                have c35b1 : (((rd_T43 l0 x3_2).f0) != 3) = true := bne_iff_ne.mpr c35
                                by_cases c39 : ((rd_T43 l0 x3_2).f3) = 0
                                · rw [if_pos c39] at H
                                  have c39b0 : (((rd_T43 l0 x3_2).f3) == 0) = true := beq_iff_eq.mpr c39
                                  have c39b1 : (((rd_T43 l0 x3_2).f3) != 0) = false := bne_eq_false_iff_eq.mpr c39
                                  clear c39
                                  have H' := Aside0.mk H
                                  clear H
                                  have hcz40_0 : wc.cell? ⟨gb157, 0, none⟩ = some (.int .i64 ((rd_T43 l0 x3_2).f0)) := (blk_cell BK157.out 0).trans rfl
                                  have hcz40_1 : wc.cell? ⟨gb157, 1, none⟩ = some (.int .i64 ((rd_T43 l0 x3_2).f1)) := (blk_cell BK157.out 1).trans rfl
                                  have hcz40_2 : wc.cell? ⟨gb157, 2, none⟩ = some (.int .i64 ((rd_T43 l0 x3_2).f2)) := (blk_cell BK157.out 2).trans rfl
                                  have hcz40_3 : wc.cell? ⟨gb157, 3, none⟩ = some (.int .i64 ((rd_T43 l0 x3_2).f3)) := (blk_cell BK157.out 3).trans rfl
                                  have hfz40_0 := blk_frozen BK157.out 0
                                  have hfz40_1 := blk_frozen BK157.out 1
                                  have hfz40_2 := blk_frozen BK157.out 2
                                  have hfz40_3 := blk_frozen BK157.out 3
                                  go_wp2
                                  go_roundg kj6
                                  case measure => have := HJ1.out; have := HK2.out; have := HJ6.out; omega
                                  case rel => exact ⟨(wrap64 (x3_2 + 1)), (by first | rfl | (simp; done) | (simp [*]; done)), H', ⟨by have := HJ1.out; have := HK2.out; have := HJ6.out; omega⟩, ⟨by repeat (first | (with_reducible first | exact HB.out | apply below_alloc | apply pw_below_drewN | apply below_drew1 | refine below_set ?_ GE157.out) | exact HB.out)⟩⟩
                                · rw [if_neg c39] at H
                                  have c39b0 : (((rd_T43 l0 x3_2).f3) == 0) = false := beq_eq_false_iff_ne.mpr c39
                                  have c39b1 : (((rd_T43 l0 x3_2).f3) != 0) = true := bne_iff_ne.mpr c39
                                  obtain rfl := Option.some.inj H
                                  have hcz41_0 : wc.cell? ⟨gb157, 0, none⟩ = some (.int .i64 ((rd_T43 l0 x3_2).f0)) := (blk_cell BK157.out 0).trans rfl
                                  have hcz41_1 : wc.cell? ⟨gb157, 1, none⟩ = some (.int .i64 ((rd_T43 l0 x3_2).f1)) := (blk_cell BK157.out 1).trans rfl
                                  have hcz41_2 : wc.cell? ⟨gb157, 2, none⟩ = some (.int .i64 ((rd_T43 l0 x3_2).f2)) := (blk_cell BK157.out 2).trans rfl
                                  have hcz41_3 : wc.cell? ⟨gb157, 3, none⟩ = some (.int .i64 ((rd_T43 l0 x3_2).f3)) := (blk_cell BK157.out 3).trans rfl
                                  have hfz41_0 := blk_frozen BK157.out 0
                                  have hfz41_1 := blk_frozen BK157.out 1
                                  have hfz41_2 := blk_frozen BK157.out 2
                                  have hfz41_3 := blk_frozen BK157.out 3
                                  go_wp2
                                  go_ret
                                  exact ⟨by first | rfl | (simp [errW_none, errW_some] <;> rfl) | (simp [*, errW_none, errW_some] <;> rfl), by repeat (first | (with_reducible first | exact HB.out | apply below_alloc | apply pw_below_drewN | apply below_drew1 | refine below_set ?_ GE157.out) | exact HB.out)⟩
                            · rw [if_neg c34] at H
                              have c34b0 : (((rd_T43 l0 x3_2).f2) == 0) = false := beq_eq_false_iff_ne.mpr c34
                              have c34b1 : (((rd_T43 l0 x3_2).f2) != 0) = true := bne_iff_ne.mpr c34
                              obtain rfl := Option.some.inj H
                              have hcz42_0 : wc.cell? ⟨gb157, 0, none⟩ = some (.int .i64 ((rd_T43 l0 x3_2).f0)) := (blk_cell BK157.out 0).trans rfl
                              have hcz42_1 : wc.cell? ⟨gb157, 1, none⟩ = some (.int .i64 ((rd_T43 l0 x3_2).f1)) := (blk_cell BK157.out 1).trans rfl
                              have hcz42_2 : wc.cell? ⟨gb157, 2, none⟩ = some (.int .i64 ((rd_T43 l0 x3_2).f2)) := (blk_cell BK157.out 2).trans rfl
                              have hcz42_3 : wc.cell? ⟨gb157, 3, none⟩ = some (.int .i64 ((rd_T43 l0 x3_2).f3)) := (blk_cell BK157.out 3).trans rfl
                              have hfz42_0 := blk_frozen BK157.out 0
                              have hfz42_1 := blk_frozen BK157.out 1
                              have hfz42_2 := blk_frozen BK157.out 2
                              have hfz42_3 := blk_frozen BK157.out 3
                              go_wp2
                              go_ret
                              exact ⟨by first | rfl | (simp [errW_none, errW_some] <;> rfl) | (simp [*, errW_none, errW_some] <;> rfl), by repeat (first | (with_reducible first | exact HB.out | apply below_alloc | apply pw_below_drewN | apply below_drew1 | refine below_set ?_ GE157.out) | exact HB.out)⟩
              · rw [if_neg c6] at H
                exact absurd H (by simp)
            · rw [if_neg c5] at H
              have c5b0 : decide (x3_2 < (l0.length : Int)) = false := decide_eq_false c5
              clear c5
              obtain ⟨ji43, hji43⟩ : ∃ j_ : Int, (wrap64 ((l0.length : Int) - 1)) = j_ := ⟨_, rfl⟩
              replace H : (if 0 ≤ (ji43) then (if (ji43) < (l0.length : Int) then ((colophonref27_forced.f ((rd_T43 l0 (ji43)).f0) ((rd_T43 l0 (ji43)).f1) ((rd_T43 l0 (ji43)).f2) ((rd_T43 l0 (ji43)).f3)).bind fun t155 => (some t155)) else (none)) else (none)) = some r := by first | (rw [hji43] at H; exact H) | (simp only [hji43] at H ⊢; exact H)
              have hji43w : (IntKind.i64.wrap ((l0.length : Int) - 1)) = ji43 := (i64_w _).trans hji43
              by_cases c44 : 0 ≤ (ji43)
              · rw [if_pos c44] at H
                have c44b0 : decide (0 ≤ (ji43)) = true := decide_eq_true c44
                clear c44
                by_cases c45 : (ji43) < (l0.length : Int)
                · rw [if_pos c45] at H
                  have c45b0 : decide ((ji43) < (l0.length : Int)) = true := decide_eq_true c45
                  clear c45
                  replace H := Option.bind_eq_some_iff.mp H
                  obtain ⟨t155, A460, H⟩ := H
                  replace H : (some t155) = some r := H
                  have A46 := Aside0.mk A460
                  clear A460
                  obtain rfl := Option.some.inj H
                  have p154 : 0 ≤ ((ji43) : Int) := of_decide_eq_true (by first | (with_reducible assumption) | assumption)
                  have q154 : (ji43) < (l0.length : Int) := of_decide_eq_true (by first | (with_reducible assumption) | assumption)
                  obtain ⟨ad154, e154, hx154_0, hx154_1, hx154_2, hx154_3⟩ := at_T43 HR0.out (ji43) p154 q154
                  cases e154
                  replace hx154_0 := (HB.out.cell (World.block_lt_of_cell? w _ hx154_0)).trans hx154_0
                  replace hx154_1 := (HB.out.cell (World.block_lt_of_cell? w _ hx154_1)).trans hx154_1
                  replace hx154_2 := (HB.out.cell (World.block_lt_of_cell? w _ hx154_2)).trans hx154_2
                  replace hx154_3 := (HB.out.cell (World.block_lt_of_cell? w _ hx154_3)).trans hx154_3
                  replace p154 := eq_true p154
                  replace q154 := eq_true q154
                  go_wp2_with (first | ((with_reducible refine gate_callee (f := 42) rfl ?_); refine goesL_ (some 95) rfl rfl Try.func42 (by kernel_rfl) rfl #[.agg #[.int .i64 ((rd_T43 l0 (ji43)).f0), .int .i64 ((rd_T43 l0 (ji43)).f1), .int .i64 ((rd_T43 l0 (ji43)).f2), .int .i64 ((rd_T43 l0 (ji43)).f3)]] rfl (by (try simp only [List.map_toArray, List.map_cons, List.map_nil]); first | done | (simp only [hji43]; rfl) | rfl | (simp only [List.length_drop, List.length_take]; rfl)) ?_; (with_reducible refine (colophonref27_forced.calls ((rd_T43 l0 (ji43)).f0) ((rd_T43 l0 (ji43)).f1) ((rd_T43 l0 (ji43)).f2) ((rd_T43 l0 (ji43)).f3) t155 _ A46.out).mono ?_); rintro e w47 ⟨rfl, hb⟩; refine ⟨_, rfl, ?_⟩; have n0_ := Aside0.mk (below_step (by repeat (first | (with_reducible first | exact HB.out | apply below_alloc | apply pw_below_drewN | apply below_drew1) | exact HB.out)) hb); clear HB; have HB := n0_; clear n0_; (try clear hb); (try clear hb2); (try clear hk); (try clear hi)))
                  go_ret
                  exact ⟨by first | rfl | (simp [errW_none, errW_some] <;> rfl) | (simp only [← hji43]; first | rfl | (simp [errW_none, errW_some] <;> rfl)) | (simp [*, errW_none, errW_some] <;> rfl), by repeat (first | (with_reducible first | exact HB.out | apply below_alloc | apply pw_below_drewN | apply below_drew1) | exact HB.out)⟩
                · rw [if_neg c45] at H
                  exact absurd H (by simp)
              · rw [if_neg c44] at H
                exact absurd H (by simp)

end Go.Proofs.Ytogjeababinnlaa.PPagesAll
