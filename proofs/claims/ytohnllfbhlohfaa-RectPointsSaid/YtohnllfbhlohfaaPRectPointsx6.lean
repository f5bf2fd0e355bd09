-- Written by a copy of the print that this session has turned (wip/tools/patchprint.py): arrays as records.
import Derived.Test.YtohnllfbhlohfaaPRectPointsx0
namespace Go.Proofs.Ytohnllfbhlohfaa.PRectPoints
open Go.RowKit Go.Proofs.YtohnllfbhlohfaaW.PrintWords Go.Proofs.YtohnllfbhlohfaaW.PrintLast Go.Proofs.YtohnllfbhlohfaaW.PrintMore
attribute [local go_sem] max2_int min2_int max_two min_two max_three min_three max_four min_four   -- for this text's walks alone
set_option linter.unusedVariables false
set_option linter.unusedSimpArgs false

/-! ### colophonlaw03_in: function 21 -/
def colophonlaw03_in.j0 : Nat → Bool → Option (Bool)
  | 0, _ => none
  | k + 1, x6 => some x6
def colophonlaw03_in.f (k : Nat) (a0_0 : Int) (a0_1 : Int) (a0_2 : Int) (a0_3 : Int) (a1 : Int) (a2 : Int) : Option (Bool) := if a1 ≥ a0_0 then (if a1 ≤ a0_2 then (if a2 ≥ a0_1 then (colophonlaw03_in.j0 k (decide (a2 ≤ a0_3))) else (colophonlaw03_in.j0 k false)) else (colophonlaw03_in.j0 k false)) else (colophonlaw03_in.j0 k false)
theorem colophonlaw03_in.mono_l : ∀ k, (∀ y0, LeO (colophonlaw03_in.j0 k y0) (colophonlaw03_in.j0 (k + 1) y0))
  | 0 => fun _ r h => by simp [colophonlaw03_in.j0] at h
  | k + 1 => by
    have ih0 := colophonlaw03_in.mono_l k
    · intro y0
      unfold colophonlaw03_in.j0
      repeat' first
      | (with_reducible exact ih0 _)
      | (with_reducible exact LeO.refl _)
      | (with_reducible exact LeO.none _)
      | (with_reducible refine LeO.ite ?_ ?_)
      | (with_reducible refine LeO.bind ?_ (fun _ => ?_))
      | exact ih0 _
      | exact LeO.none _
      | refine LeO.ite ?_ ?_
      | refine LeO.bind ?_ (fun _ => ?_)
theorem colophonlaw03_in.mono : ∀ a0 a1 a2 a3 a4 a5 k, LeO (colophonlaw03_in.f k a0 a1 a2 a3 a4 a5) (colophonlaw03_in.f (k + 1) a0 a1 a2 a3 a4 a5) := by
  intro a0 a1 a2 a3 a4 a5 k
  have ih0 := colophonlaw03_in.mono_l k
  unfold colophonlaw03_in.f
  repeat' first
      | (with_reducible exact ih0 _)
      | (with_reducible exact LeO.refl _)
      | (with_reducible exact LeO.none _)
      | (with_reducible refine LeO.ite ?_ ?_)
      | (with_reducible refine LeO.bind ?_ (fun _ => ?_))
      | exact ih0 _
      | exact LeO.none _
      | refine LeO.ite ?_ ?_
      | refine LeO.bind ?_ (fun _ => ?_)
set_option maxHeartbeats 8000000 in
set_option maxRecDepth 100000 in
theorem colophonlaw03_in.calls (k : Nat) (a0_0 : Int) (a0_1 : Int) (a0_2 : Int) (a0_3 : Int) (a1 : Int) (a2 : Int) (r : Bool) (w : World) (h : colophonlaw03_in.f k a0_0 a0_1 a0_2 a0_3 a1 a2 = some r) :
    Calls Try.prog 21 #[.agg #[.int .i64 a0_0, .int .i64 a0_1, .int .i64 a0_2, .int .i64 a0_3], .int .i64 a1, .int .i64 a2] w fun e w' => e = .returned (.bool r) ∧ Below w.heap.size w w' := by
  have hu24 := Try.underlying24
  have HB := Aside0.mk (Below.refl w.heap.size w)
  have H : (if a1 ≥ a0_0 then (if a1 ≤ a0_2 then (if a2 ≥ a0_1 then (colophonlaw03_in.j0 k (decide (a2 ≤ a0_3))) else (colophonlaw03_in.j0 k false)) else (colophonlaw03_in.j0 k false)) else (colophonlaw03_in.j0 k false)) = some r := h
  clear h
  have HC4 := Aside0.mk H
  clear H
  go_enter Try.func21, Try.ntmps21
  go_upto_region 1 with (first | ((with_reducible refine gate_dst (N := 3) rfl ?_); refine box_event ?hg (N := 3) ?hd (cs := #[.int .i64 a0_0, .int .i64 a0_1, .int .i64 a0_2, .int .i64 a0_3]) (t := 24) ?hr ?_; (case hd => rfl); (case hg => rfl); (case hr => first | (go_simp; done) | (go_simp; rfl)); intro gb161 hg w5 hbox hb; have n0_ := Aside0.mk (below_step (by repeat (first | (with_reducible first | exact HB.out | apply below_alloc | apply pw_below_drewN | apply below_drew1) | exact HB.out)) hb); have n1_ := Aside0.mk (hbox); have n2_ := Aside0.mk ((by rw [hg]; exact (below_size (by repeat (first | (with_reducible first | exact HB.out | apply below_alloc | apply pw_below_drewN | apply below_drew1) | exact HB.out))) : w.heap.size ≤ gb161)); have n3_ := Aside0.mk ((by rw [hg]; exact (below_size (by repeat (first | (with_reducible first | exact HB.out | apply below_alloc | apply pw_below_drewN | apply below_drew1) | exact HB.out))) : w.heap.size ≤ gb161)); clear HB; have HB := n0_; have BK161 := n1_; have GW161 := n2_; have GE161 := n3_; clear n0_ n1_ n2_ n3_; clear hb hbox hg))
  (try simp only [Act.put, List.setIfInBounds_toArray, List.set_cons_zero, List.set_cons_succ])
  go_cut [6] (fun v6 wc => ∃ (kq : Nat) (x6_3 : Bool), v6 = .bool x6_3 ∧ Aside0 (colophonlaw03_in.j0 kq x6_3 = some r) ∧ Aside0 (kq ≤ k) ∧ Aside0 (wc.heap[gb161]? = some (.cells #[.int .i64 a0_0, .int .i64 a0_1, .int .i64 a0_2, .int .i64 a0_3] 24 (0, 0))) ∧ Aside0 (Below w.heap.size w wc))
  case first =>
    have H := HC4.out
    clear HC4
    by_cases c6 : a1 ≥ a0_0
    · rw [if_pos c6] at H
      have c6b0 : decide (a0_0 ≤ a1) = true := decide_eq_true c6
      clear c6
      (first | rw [c6b0] | (simp only [i64_w, i32_w]; rw [c6b0]) | skip)
      by_cases c7 : a1 ≤ a0_2
      · rw [if_pos c7] at H
        have c7b0 : decide (a1 ≤ a0_2) = true := decide_eq_true c7
        clear c7
        by_cases c8 : a2 ≥ a0_1
        · rw [if_pos c8] at H
          have c8b0 : decide (a0_1 ≤ a2) = true := decide_eq_true c8
          clear c8
          have H' := Aside0.mk H
          clear H
          have hcz9_0 : w5.cell? ⟨gb161, 0, none⟩ = some (.int .i64 a0_0) := (blk_cell BK161.out 0).trans rfl
          have hcz9_1 : w5.cell? ⟨gb161, 1, none⟩ = some (.int .i64 a0_1) := (blk_cell BK161.out 1).trans rfl
          have hcz9_2 : w5.cell? ⟨gb161, 2, none⟩ = some (.int .i64 a0_2) := (blk_cell BK161.out 2).trans rfl
          have hcz9_3 : w5.cell? ⟨gb161, 3, none⟩ = some (.int .i64 a0_3) := (blk_cell BK161.out 3).trans rfl
          have hfz9_0 := blk_frozen BK161.out 0
          have hfz9_1 := blk_frozen BK161.out 1
          have hfz9_2 := blk_frozen BK161.out 2
          have hfz9_3 := blk_frozen BK161.out 3
          go_wp2
          go_meet
          case rel => exact ⟨_, (decide (a2 ≤ a0_3)), (by first | rfl | (simp; done) | (simp [*]; done)), H', ⟨by first | omega | exact Nat.le_refl _⟩, ⟨by (with_reducible repeat (first | refine blk_drewN ?_ _ | refine blk_drew ?_ | refine blk_alloc ?_ _)); exact BK161.out⟩, ⟨by repeat (first | (with_reducible first | exact HB.out | apply below_alloc | apply pw_below_drewN | apply below_drew1 | refine below_set ?_ GE161.out) | exact HB.out)⟩⟩
        · rw [if_neg c8] at H
          have c8b0 : decide (a0_1 ≤ a2) = false := decide_eq_false c8
          clear c8
          have H' := Aside0.mk H
          clear H
          have hcz10_0 : w5.cell? ⟨gb161, 0, none⟩ = some (.int .i64 a0_0) := (blk_cell BK161.out 0).trans rfl
          have hcz10_1 : w5.cell? ⟨gb161, 1, none⟩ = some (.int .i64 a0_1) := (blk_cell BK161.out 1).trans rfl
          have hcz10_2 : w5.cell? ⟨gb161, 2, none⟩ = some (.int .i64 a0_2) := (blk_cell BK161.out 2).trans rfl
          have hcz10_3 : w5.cell? ⟨gb161, 3, none⟩ = some (.int .i64 a0_3) := (blk_cell BK161.out 3).trans rfl
          have hfz10_0 := blk_frozen BK161.out 0
          have hfz10_1 := blk_frozen BK161.out 1
          have hfz10_2 := blk_frozen BK161.out 2
          have hfz10_3 := blk_frozen BK161.out 3
          go_wp2
          go_meet
          case rel => exact ⟨_, (false), (by first | rfl | (simp; done) | (simp [*]; done)), H', ⟨by first | omega | exact Nat.le_refl _⟩, ⟨by (with_reducible repeat (first | refine blk_drewN ?_ _ | refine blk_drew ?_ | refine blk_alloc ?_ _)); exact BK161.out⟩, ⟨by repeat (first | (with_reducible first | exact HB.out | apply below_alloc | apply pw_below_drewN | apply below_drew1 | refine below_set ?_ GE161.out) | exact HB.out)⟩⟩
      · rw [if_neg c7] at H
        have c7b0 : decide (a1 ≤ a0_2) = false := decide_eq_false c7
        clear c7
        have H' := Aside0.mk H
        clear H
        have hcz11_0 : w5.cell? ⟨gb161, 0, none⟩ = some (.int .i64 a0_0) := (blk_cell BK161.out 0).trans rfl
        have hcz11_1 : w5.cell? ⟨gb161, 1, none⟩ = some (.int .i64 a0_1) := (blk_cell BK161.out 1).trans rfl
        have hcz11_2 : w5.cell? ⟨gb161, 2, none⟩ = some (.int .i64 a0_2) := (blk_cell BK161.out 2).trans rfl
        have hcz11_3 : w5.cell? ⟨gb161, 3, none⟩ = some (.int .i64 a0_3) := (blk_cell BK161.out 3).trans rfl
        have hfz11_0 := blk_frozen BK161.out 0
        have hfz11_1 := blk_frozen BK161.out 1
        have hfz11_2 := blk_frozen BK161.out 2
        have hfz11_3 := blk_frozen BK161.out 3
        go_wp2
        go_meet
        case rel => exact ⟨_, (false), (by first | rfl | (simp; done) | (simp [*]; done)), H', ⟨by first | omega | exact Nat.le_refl _⟩, ⟨by (with_reducible repeat (first | refine blk_drewN ?_ _ | refine blk_drew ?_ | refine blk_alloc ?_ _)); exact BK161.out⟩, ⟨by repeat (first | (with_reducible first | exact HB.out | apply below_alloc | apply pw_below_drewN | apply below_drew1 | refine below_set ?_ GE161.out) | exact HB.out)⟩⟩
    · rw [if_neg c6] at H
      have c6b0 : decide (a0_0 ≤ a1) = false := decide_eq_false c6
      clear c6
      (first | rw [c6b0] | (simp only [i64_w, i32_w]; rw [c6b0]) | skip)
      have H' := Aside0.mk H
      clear H
      have hcz12_0 : w5.cell? ⟨gb161, 0, none⟩ = some (.int .i64 a0_0) := (blk_cell BK161.out 0).trans rfl
      have hcz12_1 : w5.cell? ⟨gb161, 1, none⟩ = some (.int .i64 a0_1) := (blk_cell BK161.out 1).trans rfl
      have hcz12_2 : w5.cell? ⟨gb161, 2, none⟩ = some (.int .i64 a0_2) := (blk_cell BK161.out 2).trans rfl
      have hcz12_3 : w5.cell? ⟨gb161, 3, none⟩ = some (.int .i64 a0_3) := (blk_cell BK161.out 3).trans rfl
      have hfz12_0 := blk_frozen BK161.out 0
      have hfz12_1 := blk_frozen BK161.out 1
      have hfz12_2 := blk_frozen BK161.out 2
      have hfz12_3 := blk_frozen BK161.out 3
      go_wp2
      go_meet
      case rel => exact ⟨_, (false), (by first | rfl | (simp; done) | (simp [*]; done)), H', ⟨by first | omega | exact Nat.le_refl _⟩, ⟨by (with_reducible repeat (first | refine blk_drewN ?_ _ | refine blk_drew ?_ | refine blk_alloc ?_ _)); exact BK161.out⟩, ⟨by repeat (first | (with_reducible first | exact HB.out | apply below_alloc | apply pw_below_drewN | apply below_drew1 | refine below_set ?_ GE161.out) | exact HB.out)⟩⟩
  case rest =>
    clear HC4
    try clear c2
    try clear p2
    try clear c6
    try clear c6b0
    try clear c7
    try clear c7b0
    try clear c8
    try clear c8b0
    try clear hcz10_0
    try clear hcz10_1
    try clear hcz10_2
    try clear hcz10_3
    try clear hcz11_0
    try clear hcz11_1
    try clear hcz11_2
    try clear hcz11_3
    try clear hcz12_0
    try clear hcz12_1
    try clear hcz12_2
    try clear hcz12_3
    try clear hcz9_0
    try clear hcz9_1
    try clear hcz9_2
    try clear hcz9_3
    try clear hfz10_0
    try clear hfz10_1
    try clear hfz10_2
    try clear hfz10_3
    try clear hfz11_0
    try clear hfz11_1
    try clear hfz11_2
    try clear hfz11_3
    try clear hfz12_0
    try clear hfz12_1
    try clear hfz12_2
    try clear hfz12_3
    try clear hfz9_0
    try clear hfz9_1
    try clear hfz9_2
    try clear hfz9_3
    obtain ⟨kq, x6_3, rfl, HA, HJ3, BK161, HB⟩ := hcut
    cases kq with
    | zero => exact absurd HA.out (by simp [colophonlaw03_in.j0])
    | succ kj3 =>
      have H := HA.out
      clear HA
      simp only [colophonlaw03_in.j0] at H
      obtain rfl := Option.some.inj H
      go_wp2
      go_ret
      exact ⟨by first | rfl | (simp [errW_none, errW_some] <;> rfl) | (simp [*, errW_none, errW_some] <;> rfl), by repeat (first | (with_reducible first | exact HB.out | apply below_alloc | apply pw_below_drewN | apply below_drew1 | refine below_set ?_ GE161.out) | exact HB.out)⟩

end Go.Proofs.Ytohnllfbhlohfaa.PRectPoints
