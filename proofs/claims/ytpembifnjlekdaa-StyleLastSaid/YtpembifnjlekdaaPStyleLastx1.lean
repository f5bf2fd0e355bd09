-- Written by a copy of the print that this session has turned (wip/tools/patchprint.py): arrays as records.
import Derived.Test.YtpembifnjlekdaaPStyleLastx0
namespace Go.Proofs.Ytpembifnjlekdaa.PStyleLast
open Go.RowKit Go.Proofs.YtpembifnjlekdaaW.PrintWords Go.Proofs.YtpembifnjlekdaaW.PrintLast Go.Proofs.YtpembifnjlekdaaW.PrintMore
attribute [local go_sem] max2_int min2_int max_two min_two max_three min_three max_four min_four   -- for this text's walks alone
set_option linter.unusedVariables false
set_option linter.unusedSimpArgs false

/-! ### colophonlaw19_size: function 46 -/
mutual
def colophonlaw19_size.l0 : Nat → Int → Int → List (S78) → Option (Int)
  | 0, _, _, _ => none
  | k + 1, x3, x4, x102000 => if x4 < (x102000.length : Int) then (colophonlaw19_size.j1 k x3 x4 (decide (x3 ≤ 3000)) x102000) else (colophonlaw19_size.j1 k x3 x4 false x102000)
def colophonlaw19_size.j1 : Nat → Int → Int → Bool → List (S78) → Option (Int)
  | 0, _, _, _, _ => none
  | k + 1, x3, x4, x14, x102000 => if x14 = true then (if 0 ≤ x4 then (if x4 < (x102000.length : Int) then (colophonlaw19_size.l1 k (wrap64 (x3 + (wrap64 ((wrap64 ((wrap64 (1 + (((rd_T78 x102000 x4).f2).length : Int))) + (wrap64 ((((rd_T78 x102000 x4).f0).size : Int) / 100)))) + (wrap64 ((((rd_T78 x102000 x4).f1).size : Int) / 100)))))) x4 0 x102000) else (none)) else (none)) else (some x3)
def colophonlaw19_size.l1 : Nat → Int → Int → Int → List (S78) → Option (Int)
  | 0, _, _, _, _ => none
  | k + 1, x3, x4, x5, x102000 => if 0 ≤ x4 then (if x4 < (x102000.length : Int) then (if x5 < (((rd_T78 x102000 x4).f2).length : Int) then (if x5 < 40 then (if 0 ≤ x5 then (colophonlaw19_size.l1 k (wrap64 (x3 + (wrap64 (((rdOf ByteArray.empty ((rd_T78 x102000 x4).f2) x5).size : Int) / 100)))) x4 (wrap64 (x5 + 1)) x102000) else (none)) else (colophonlaw19_size.l0 k x3 (wrap64 (x4 + 1)) x102000)) else (colophonlaw19_size.l0 k x3 (wrap64 (x4 + 1)) x102000)) else (none)) else (none)
end
def colophonlaw19_size.f (k : Nat) (l0_0 : List (S78)) : Option (Int) := colophonlaw19_size.l0 k 0 0 l0_0
theorem colophonlaw19_size.mono_l : ∀ k, (∀ y0 y1 y2, LeO (colophonlaw19_size.l0 k y0 y1 y2) (colophonlaw19_size.l0 (k + 1) y0 y1 y2)) ∧ (∀ y0 y1 y2 y3, LeO (colophonlaw19_size.j1 k y0 y1 y2 y3) (colophonlaw19_size.j1 (k + 1) y0 y1 y2 y3)) ∧ (∀ y0 y1 y2 y3, LeO (colophonlaw19_size.l1 k y0 y1 y2 y3) (colophonlaw19_size.l1 (k + 1) y0 y1 y2 y3))
  | 0 => ⟨fun _ _ _ r h => by simp [colophonlaw19_size.l0] at h, fun _ _ _ _ r h => by simp [colophonlaw19_size.j1] at h, fun _ _ _ _ r h => by simp [colophonlaw19_size.l1] at h⟩
  | k + 1 => by
    obtain ⟨ih0, ih1, ih2⟩ := colophonlaw19_size.mono_l k
    refine ⟨?_, ?_, ?_⟩
    · intro y0 y1 y2
      unfold colophonlaw19_size.l0
      repeat' first
      | (with_reducible exact ih0 _ _ _)
      | (with_reducible exact ih1 _ _ _ _)
      | (with_reducible exact ih2 _ _ _ _)
      | (with_reducible exact LeO.refl _)
      | (with_reducible exact LeO.none _)
      | (with_reducible refine LeO.ite ?_ ?_)
      | (with_reducible refine LeO.bind ?_ (fun _ => ?_))
      | exact ih0 _ _ _
      | exact ih1 _ _ _ _
      | exact ih2 _ _ _ _
      | exact LeO.none _
      | refine LeO.ite ?_ ?_
      | refine LeO.bind ?_ (fun _ => ?_)
    · intro y0 y1 y2 y3
      unfold colophonlaw19_size.j1
      repeat' first
      | (with_reducible exact ih0 _ _ _)
      | (with_reducible exact ih1 _ _ _ _)
      | (with_reducible exact ih2 _ _ _ _)
      | (with_reducible exact LeO.refl _)
      | (with_reducible exact LeO.none _)
      | (with_reducible refine LeO.ite ?_ ?_)
      | (with_reducible refine LeO.bind ?_ (fun _ => ?_))
      | exact ih0 _ _ _
      | exact ih1 _ _ _ _
      | exact ih2 _ _ _ _
      | exact LeO.none _
      | refine LeO.ite ?_ ?_
      | refine LeO.bind ?_ (fun _ => ?_)
    · intro y0 y1 y2 y3
      unfold colophonlaw19_size.l1
      repeat' first
      | (with_reducible exact ih0 _ _ _)
      | (with_reducible exact ih1 _ _ _ _)
      | (with_reducible exact ih2 _ _ _ _)
      | (with_reducible exact LeO.refl _)
      | (with_reducible exact LeO.none _)
      | (with_reducible refine LeO.ite ?_ ?_)
      | (with_reducible refine LeO.bind ?_ (fun _ => ?_))
      | exact ih0 _ _ _
      | exact ih1 _ _ _ _
      | exact ih2 _ _ _ _
      | exact LeO.none _
      | refine LeO.ite ?_ ?_
      | refine LeO.bind ?_ (fun _ => ?_)
theorem colophonlaw19_size.mono : ∀ a0 k, LeO (colophonlaw19_size.f k a0) (colophonlaw19_size.f (k + 1) a0) := by
  intro a0 k
  obtain ⟨ih0, ih1, ih2⟩ := colophonlaw19_size.mono_l k
  unfold colophonlaw19_size.f
  repeat' first
      | (with_reducible exact ih0 _ _ _)
      | (with_reducible exact ih1 _ _ _ _)
      | (with_reducible exact ih2 _ _ _ _)
      | (with_reducible exact LeO.refl _)
      | (with_reducible exact LeO.none _)
      | (with_reducible refine LeO.ite ?_ ?_)
      | (with_reducible refine LeO.bind ?_ (fun _ => ?_))
      | exact ih0 _ _ _
      | exact ih1 _ _ _ _
      | exact ih2 _ _ _ _
      | exact LeO.none _
      | refine LeO.ite ?_ ?_
      | refine LeO.bind ?_ (fun _ => ?_)
set_option maxHeartbeats 8000000 in
set_option maxRecDepth 100000 in
theorem colophonlaw19_size.calls (k : Nat) (A0_0 : Option Addr) (c0_0 : Nat) (l0_0 : List (S78)) (r : Int) (w : World) (hr0_0 : Kd.C k78 w A0_0 l0_0.length l0_0) (hc0_0 : l0_0.length ≤ c0_0) (h : colophonlaw19_size.f k l0_0 = some r) :
    Calls Try.prog 46 #[.agg #[.slice A0_0 l0_0.length c0_0]] w fun e w' => e = .returned (.int .i64 r) ∧ Below w.heap.size w w' := by
  have hu45 := Try.underlying45
  have HR0_0 := Aside0.mk hr0_0
  have HC0_0 := Aside0.mk hc0_0
  clear hr0_0 hc0_0
  have HB := Aside0.mk (Below.refl w.heap.size w)
  have H : (colophonlaw19_size.l0 k 0 0 l0_0) = some r := h
  clear h
  have H' := Aside0.mk H
  clear H
  go_enter Try.func46, Try.ntmps46
  go_wp2_with (first | ((with_reducible refine gate_dst (N := 1) rfl ?_); refine box_event ?hg (N := 1) ?hd (cs := #[.slice A0_0 l0_0.length c0_0]) (t := 45) ?hr ?_; (case hd => rfl); (case hg => rfl); (case hr => first | (go_simp; done) | (go_simp; rfl)); intro gb101 hg w2 hbox hb; have n0_ := Aside0.mk (below_step (by repeat (first | (with_reducible first | exact HB.out | apply below_alloc | apply pw_below_drewN | apply below_drew1) | exact HB.out)) hb); have n1_ := Aside0.mk (hbox); have n2_ := Aside0.mk ((by rw [hg]; exact (below_size (by repeat (first | (with_reducible first | exact HB.out | apply below_alloc | apply pw_below_drewN | apply below_drew1) | exact HB.out))) : w.heap.size ≤ gb101)); have n3_ := Aside0.mk ((by rw [hg]; exact (below_size (by repeat (first | (with_reducible first | exact HB.out | apply below_alloc | apply pw_below_drewN | apply below_drew1) | exact HB.out))) : w.heap.size ≤ gb101)); clear HB; have HB := n0_; have BK101 := n1_; have GW101 := n2_; have GE101 := n3_; clear n0_ n1_ n2_ n3_; clear hb hbox hg))
  repeat (go_quiet (first | ((with_reducible refine gate_dst (N := 1) rfl ?_); refine box_event ?hg (N := 1) ?hd (cs := #[.slice A0_0 l0_0.length c0_0]) (t := 45) ?hr ?_; (case hd => rfl); (case hg => rfl); (case hr => first | (go_simp; done) | (go_simp; rfl)); intro gb101 hg w2 hbox hb; have n0_ := Aside0.mk (below_step (by repeat (first | (with_reducible first | exact HB.out | apply below_alloc | apply pw_below_drewN | apply below_drew1) | exact HB.out)) hb); have n1_ := Aside0.mk (hbox); have n2_ := Aside0.mk ((by rw [hg]; exact (below_size (by repeat (first | (with_reducible first | exact HB.out | apply below_alloc | apply pw_below_drewN | apply below_drew1) | exact HB.out))) : w.heap.size ≤ gb101)); have n3_ := Aside0.mk ((by rw [hg]; exact (below_size (by repeat (first | (with_reducible first | exact HB.out | apply below_alloc | apply pw_below_drewN | apply below_drew1) | exact HB.out))) : w.heap.size ≤ gb101)); clear HB; have HB := n0_; have BK101 := n1_; have GW101 := n2_; have GE101 := n3_; clear n0_ n1_ n2_ n3_; clear hb hbox hg)); try go_wp2_with (first | ((with_reducible refine gate_dst (N := 1) rfl ?_); refine box_event ?hg (N := 1) ?hd (cs := #[.slice A0_0 l0_0.length c0_0]) (t := 45) ?hr ?_; (case hd => rfl); (case hg => rfl); (case hr => first | (go_simp; done) | (go_simp; rfl)); intro gb101 hg w2 hbox hb; have n0_ := Aside0.mk (below_step (by repeat (first | (with_reducible first | exact HB.out | apply below_alloc | apply pw_below_drewN | apply below_drew1) | exact HB.out)) hb); have n1_ := Aside0.mk (hbox); have n2_ := Aside0.mk ((by rw [hg]; exact (below_size (by repeat (first | (with_reducible first | exact HB.out | apply below_alloc | apply pw_below_drewN | apply below_drew1) | exact HB.out))) : w.heap.size ≤ gb101)); have n3_ := Aside0.mk ((by rw [hg]; exact (below_size (by repeat (first | (with_reducible first | exact HB.out | apply below_alloc | apply pw_below_drewN | apply below_drew1) | exact HB.out))) : w.heap.size ≤ gb101)); clear HB; have HB := n0_; have BK101 := n1_; have GW101 := n2_; have GE101 := n3_; clear n0_ n1_ n2_ n3_; clear hb hbox hg)))
  go_loopg [3, 4] k (fun kq v3 v4 w' => ∃ (x3_1 : Int) (x4_1 : Int), v3 = .int .i64 x3_1 ∧ v4 = .int .i64 x4_1 ∧ Aside0 (colophonlaw19_size.l0 kq x3_1 x4_1 l0_0 = some r) ∧ Aside0 (kq ≤ k) ∧ Aside0 (w'.heap[gb101]? = some (.cells #[(.slice A0_0 l0_0.length c0_0)] 45 (0, 0))) ∧ Aside0 (Below w.heap.size w w'))
  case atStart => exact ⟨(0), (0), (by first | rfl | (simp; done) | (simp [*]; done)), (by first | rfl | (simp; done) | (simp [*]; done)), H', ⟨Nat.le_refl _⟩, ⟨by (with_reducible repeat (first | refine blk_drewN ?_ _ | refine blk_drew ?_ | refine blk_alloc ?_ _)); exact BK101.out⟩, ⟨by repeat (first | (with_reducible first | exact HB.out | apply below_alloc | apply pw_below_drewN | apply below_drew1 | refine below_set ?_ GE101.out) | exact HB.out)⟩⟩
  case round =>
    clear H'
    try clear p2
    obtain ⟨x3_1, x4_1, rfl, rfl, HA, HK1, BK101, HB⟩ := hrel
    cases gk with
    | zero => exact absurd HA.out (by simp [colophonlaw19_size.l0])
    | succ k1 =>
      have H := HA.out
      clear HA
      simp only [colophonlaw19_size.l0] at H
      have HC3 := Aside0.mk H
      clear H
      go_upto_region 3 with (fail)
      repeat (go_quiet (fail); go_upto_region 3 with (fail))
      go_cut [14] (fun v14 wc => ∃ (kq : Nat) (x14_2 : Bool), v14 = .bool x14_2 ∧ Aside0 (colophonlaw19_size.j1 kq x3_1 x4_1 x14_2 l0_0 = some r) ∧ Aside0 (kq ≤ k1) ∧ Aside0 (wc.heap[gb101]? = some (.cells #[(.slice A0_0 l0_0.length c0_0)] 45 (0, 0))) ∧ Aside0 (Below w.heap.size w wc))
      case first =>
        have H := HC3.out
        clear HC3
        by_cases c4 : x4_1 < (l0_0.length : Int)
        · rw [if_pos c4] at H
          have c4b0 : decide (x4_1 < (l0_0.length : Int)) = true := decide_eq_true c4
          clear c4
          (first | rw [c4b0] | (simp only [i64_w, i32_w]; rw [c4b0]) | skip)
          have H' := Aside0.mk H
          clear H
          have hcz5_0 : wr.cell? ⟨gb101, 0, none⟩ = some (.slice A0_0 l0_0.length c0_0) := (blk_cell BK101.out 0).trans rfl
          have hfz5_0 := blk_frozen BK101.out 0
          go_wp2
          repeat (go_quiet (fail); try go_wp2)
          go_meet
          case rel => exact ⟨_, (decide (x3_1 ≤ 3000)), (by first | rfl | (simp; done) | (simp [*]; done)), H', ⟨by have := HK1.out; first | omega | exact Nat.le_refl _⟩, ⟨by (with_reducible repeat (first | refine blk_drewN ?_ _ | refine blk_drew ?_ | refine blk_alloc ?_ _)); exact BK101.out⟩, ⟨by repeat (first | (with_reducible first | exact HB.out | apply below_alloc | apply pw_below_drewN | apply below_drew1 | refine below_set ?_ GE101.out) | exact HB.out)⟩⟩
        · rw [if_neg c4] at H
          have c4b0 : decide (x4_1 < (l0_0.length : Int)) = false := decide_eq_false c4
          clear c4
          (first | rw [c4b0] | (simp only [i64_w, i32_w]; rw [c4b0]) | skip)
          have H' := Aside0.mk H
          clear H
          have hcz6_0 : wr.cell? ⟨gb101, 0, none⟩ = some (.slice A0_0 l0_0.length c0_0) := (blk_cell BK101.out 0).trans rfl
          have hfz6_0 := blk_frozen BK101.out 0
          go_wp2
          repeat (go_quiet (fail); try go_wp2)
          go_meet
          case rel => exact ⟨_, (false), (by first | rfl | (simp; done) | (simp [*]; done)), H', ⟨by have := HK1.out; first | omega | exact Nat.le_refl _⟩, ⟨by (with_reducible repeat (first | refine blk_drewN ?_ _ | refine blk_drew ?_ | refine blk_alloc ?_ _)); exact BK101.out⟩, ⟨by repeat (first | (with_reducible first | exact HB.out | apply below_alloc | apply pw_below_drewN | apply below_drew1 | refine below_set ?_ GE101.out) | exact HB.out)⟩⟩
      case rest =>
        clear HC3
        try clear p2
        try clear c4
        try clear c4b0
        try clear hcz5_0
        try clear hcz6_0
        try clear hfz5_0
        try clear hfz6_0
        try clear p2
        obtain ⟨kq, x14_2, rfl, HA, HJ2, BK101, HB⟩ := hcut
        cases kq with
        | zero => exact absurd HA.out (by simp [colophonlaw19_size.j1])
        | succ kj2 =>
          have H := HA.out
          clear HA
          simp only [colophonlaw19_size.j1] at H
          by_cases c7 : x14_2 = true
          · subst c7
            have H1 : (if 0 ≤ x4_1 then (if x4_1 < (l0_0.length : Int) then (colophonlaw19_size.l1 kj2 (wrap64 (x3_1 + (wrap64 ((wrap64 ((wrap64 (1 + (((rd_T78 l0_0 x4_1).f2).length : Int))) + (wrap64 ((((rd_T78 l0_0 x4_1).f0).size : Int) / 100)))) + (wrap64 ((((rd_T78 l0_0 x4_1).f1).size : Int) / 100)))))) x4_1 0 l0_0) else (none)) else (none)) = some r := by rw [if_pos rfl] at H; exact H
            clear H
            have H := H1
            clear H1
            by_cases c8 : 0 ≤ x4_1
            · rw [if_pos c8] at H
              have c8b0 : decide (0 ≤ x4_1) = true := decide_eq_true c8
              clear c8
              by_cases c9 : x4_1 < (l0_0.length : Int)
              · rw [if_pos c9] at H
                have c9b0 : decide (x4_1 < (l0_0.length : Int)) = true := decide_eq_true c9
                clear c9
                have H' := Aside0.mk H
                clear H
                have hcz10_0 : wc.cell? ⟨gb101, 0, none⟩ = some (.slice A0_0 l0_0.length c0_0) := (blk_cell BK101.out 0).trans rfl
                have hfz10_0 := blk_frozen BK101.out 0
                have p102 : 0 ≤ (x4_1 : Int) := of_decide_eq_true (by first | (with_reducible assumption) | assumption)
                have q102 : x4_1 < (l0_0.length : Int) := of_decide_eq_true (by first | (with_reducible assumption) | assumption)
                obtain ⟨ad102, A102_2, c102_2, e102, hx102_0, hx102_1, hx102_2, hx102_3, hl102_2, hi102_2⟩ := at_T78 HR0_0.out x4_1 p102 q102
                cases e102
                replace hx102_0 := (HB.out.cell (World.block_lt_of_cell? w _ hx102_0)).trans hx102_0
                replace hx102_1 := (HB.out.cell (World.block_lt_of_cell? w _ hx102_1)).trans hx102_1
                replace hx102_2 := (HB.out.cell (World.block_lt_of_cell? w _ hx102_2)).trans hx102_2
                replace hx102_3 := (HB.out.cell (World.block_lt_of_cell? w _ hx102_3)).trans hx102_3
                have HR102_2 := Aside0.mk hi102_2
                have HC102_2 := Aside0.mk hl102_2
                clear hi102_2 hl102_2
                replace p102 := eq_true p102
                replace q102 := eq_true q102
                have p103 : 0 ≤ (x4_1 : Int) := of_decide_eq_true (by first | (with_reducible assumption) | assumption)
                have q103 : x4_1 < (l0_0.length : Int) := of_decide_eq_true (by first | (with_reducible assumption) | assumption)
                obtain ⟨ad103, A103_2, c103_2, e103, hx103_0, hx103_1, hx103_2, hx103_3, hl103_2, hi103_2⟩ := at_T78 HR0_0.out x4_1 p103 q103
                obtain rfl : ad102 = ad103 := (by injection e103)
                replace hx103_0 := (HB.out.cell (World.block_lt_of_cell? w _ hx103_0)).trans hx103_0
                replace hx103_1 := (HB.out.cell (World.block_lt_of_cell? w _ hx103_1)).trans hx103_1
                replace hx103_2 := (HB.out.cell (World.block_lt_of_cell? w _ hx103_2)).trans hx103_2
                replace hx103_3 := (HB.out.cell (World.block_lt_of_cell? w _ hx103_3)).trans hx103_3
                have HR103_2 := Aside0.mk hi103_2
                have HC103_2 := Aside0.mk hl103_2
                clear hi103_2 hl103_2
                replace p103 := eq_true p103
                replace q103 := eq_true q103
                have ea_ := Option.some.inj (hx102_2.symm.trans hx103_2)
                injection ea_ with ea_ en_ ec_
                subst ea_
                subst ec_
                clear en_
                have p104 : 0 ≤ (x4_1 : Int) := of_decide_eq_true (by first | (with_reducible assumption) | assumption)
                have q104 : x4_1 < (l0_0.length : Int) := of_decide_eq_true (by first | (with_reducible assumption) | assumption)
                obtain ⟨ad104, A104_2, c104_2, e104, hx104_0, hx104_1, hx104_2, hx104_3, hl104_2, hi104_2⟩ := at_T78 HR0_0.out x4_1 p104 q104
                obtain rfl : ad102 = ad104 := (by injection e104)
                replace hx104_0 := (HB.out.cell (World.block_lt_of_cell? w _ hx104_0)).trans hx104_0
                replace hx104_1 := (HB.out.cell (World.block_lt_of_cell? w _ hx104_1)).trans hx104_1
                replace hx104_2 := (HB.out.cell (World.block_lt_of_cell? w _ hx104_2)).trans hx104_2
                replace hx104_3 := (HB.out.cell (World.block_lt_of_cell? w _ hx104_3)).trans hx104_3
                have HR104_2 := Aside0.mk hi104_2
                have HC104_2 := Aside0.mk hl104_2
                clear hi104_2 hl104_2
                replace p104 := eq_true p104
                replace q104 := eq_true q104
                have ea_ := Option.some.inj (hx102_2.symm.trans hx104_2)
                injection ea_ with ea_ en_ ec_
                subst ea_
                subst ec_
                clear en_
                go_wp2
                repeat (go_quiet (fail); try go_wp2)
                go_loopg [3, 5] kj2 (fun kq v3 v5 w' => ∃ (x3_3 : Int) (x5_3 : Int), v3 = .int .i64 x3_3 ∧ v5 = .int .i64 x5_3 ∧ Aside0 (colophonlaw19_size.l1 kq x3_3 x4_1 x5_3 l0_0 = some r) ∧ Aside0 (kq ≤ kj2) ∧ Aside0 (w'.heap[gb101]? = some (.cells #[(.slice (some ad102) l0_0.length c0_0)] 45 (0, 0))) ∧ Aside0 (Below w.heap.size w w'))
                case atStart => exact ⟨(wrap64 (x3_1 + (wrap64 ((wrap64 ((wrap64 (1 + (((rd_T78 l0_0 x4_1).f2).length : Int))) + (wrap64 ((((rd_T78 l0_0 x4_1).f0).size : Int) / 100)))) + (wrap64 ((((rd_T78 l0_0 x4_1).f1).size : Int) / 100)))))), (0), (by first | rfl | (simp; done) | (simp [*]; done)), (by first | rfl | (simp; done) | (simp [*]; done)), H', ⟨Nat.le_refl _⟩, ⟨by (with_reducible repeat (first | refine blk_drewN ?_ _ | refine blk_drew ?_ | refine blk_alloc ?_ _)); exact BK101.out⟩, ⟨by repeat (first | (with_reducible first | exact HB.out | apply below_alloc | apply pw_below_drewN | apply below_drew1 | refine below_set ?_ GE101.out) | exact HB.out)⟩⟩
                case round =>
                  clear H'
                  try clear c1
                  try clear p1
                  try clear q1
                  try clear hx1
                  try clear p2
                  try clear c4
                  try clear c4b0
                  try clear p6
                  try clear c7
                  try clear c8
                  try clear c8b0
                  try clear c9
                  try clear c9b0
                  try clear c10
                  try clear p10
                  try clear q10
                  try clear hx10
                  try clear hcz10_0
                  try clear hcz5_0
                  try clear hcz6_0
                  try clear hfz10_0
                  try clear hfz5_0
                  try clear hfz6_0
                  try clear hx102_0
                  try clear hx102_1
                  try clear hx102_2
                  try clear hx102_3
                  try clear hx103_0
                  try clear hx103_1
                  try clear hx103_2
                  try clear hx103_3
                  try clear hx104_0
                  try clear hx104_1
                  try clear hx104_2
                  try clear hx104_3
                  try clear p102
                  try clear p103
                  try clear p104
                  try clear p2
                  try clear q102
                  try clear q103
                  try clear q104
                  obtain ⟨x3_3, x5_3, rfl, rfl, HA, HK3, BK101, HB⟩ := hrel
                  cases gk with
                  | zero => exact absurd HA.out (by simp [colophonlaw19_size.l1])
                  | succ k3 =>
                    have H := HA.out
                    clear HA
                    simp only [colophonlaw19_size.l1] at H
                    by_cases c11 : 0 ≤ x4_1
                    · rw [if_pos c11] at H
                      have c11b0 : decide (0 ≤ x4_1) = true := decide_eq_true c11
                      clear c11
                      by_cases c12 : x4_1 < (l0_0.length : Int)
                      · rw [if_pos c12] at H
                        have c12b0 : decide (x4_1 < (l0_0.length : Int)) = true := decide_eq_true c12
                        clear c12
                        by_cases c13 : x5_3 < (((rd_T78 l0_0 x4_1).f2).length : Int)
                        · rw [if_pos c13] at H
                          have c13b0 : decide (x5_3 < (((rd_T78 l0_0 x4_1).f2).length : Int)) = true := decide_eq_true c13
                          clear c13
                          by_cases c14 : x5_3 < 40
                          · rw [if_pos c14] at H
                            have c14b0 : decide (x5_3 < 40) = true := decide_eq_true c14
                            clear c14
                            by_cases c15 : 0 ≤ x5_3
                            · rw [if_pos c15] at H
                              have c15b0 : decide (0 ≤ x5_3) = true := decide_eq_true c15
                              clear c15
                              have H' := Aside0.mk H
                              clear H
                              have hcz16_0 : wr.cell? ⟨gb101, 0, none⟩ = some (.slice (some ad102) l0_0.length c0_0) := (blk_cell BK101.out 0).trans rfl
                              have hfz16_0 := blk_frozen BK101.out 0
                              have p105 : 0 ≤ (x4_1 : Int) := of_decide_eq_true (by first | (with_reducible assumption) | assumption)
                              have q105 : x4_1 < (l0_0.length : Int) := of_decide_eq_true (by first | (with_reducible assumption) | assumption)
                              obtain ⟨ad105, A105_2, c105_2, e105, hx105_0, hx105_1, hx105_2, hx105_3, hl105_2, hi105_2⟩ := at_T78 HR0_0.out x4_1 p105 q105
                              obtain rfl : ad102 = ad105 := (by injection e105)
                              replace hx105_0 := (HB.out.cell (World.block_lt_of_cell? w _ hx105_0)).trans hx105_0
                              replace hx105_1 := (HB.out.cell (World.block_lt_of_cell? w _ hx105_1)).trans hx105_1
                              replace hx105_2 := (HB.out.cell (World.block_lt_of_cell? w _ hx105_2)).trans hx105_2
                              replace hx105_3 := (HB.out.cell (World.block_lt_of_cell? w _ hx105_3)).trans hx105_3
                              have HR105_2 := Aside0.mk hi105_2
                              have HC105_2 := Aside0.mk hl105_2
                              clear hi105_2 hl105_2
                              replace p105 := eq_true p105
                              replace q105 := eq_true q105
                              have p106 : 0 ≤ (x4_1 : Int) := of_decide_eq_true (by first | (with_reducible assumption) | assumption)
                              have q106 : x4_1 < (l0_0.length : Int) := of_decide_eq_true (by first | (with_reducible assumption) | assumption)
                              obtain ⟨ad106, A106_2, c106_2, e106, hx106_0, hx106_1, hx106_2, hx106_3, hl106_2, hi106_2⟩ := at_T78 HR0_0.out x4_1 p106 q106
                              obtain rfl : ad102 = ad106 := (by injection e106)
                              replace hx106_0 := (HB.out.cell (World.block_lt_of_cell? w _ hx106_0)).trans hx106_0
                              replace hx106_1 := (HB.out.cell (World.block_lt_of_cell? w _ hx106_1)).trans hx106_1
                              replace hx106_2 := (HB.out.cell (World.block_lt_of_cell? w _ hx106_2)).trans hx106_2
                              replace hx106_3 := (HB.out.cell (World.block_lt_of_cell? w _ hx106_3)).trans hx106_3
                              have HR106_2 := Aside0.mk hi106_2
                              have HC106_2 := Aside0.mk hl106_2
                              clear hi106_2 hl106_2
                              replace p106 := eq_true p106
                              replace q106 := eq_true q106
                              have ea_ := Option.some.inj (hx105_2.symm.trans hx106_2)
                              injection ea_ with ea_ en_ ec_
                              subst ea_
                              subst ec_
                              clear en_
                              have p107 : 0 ≤ (x5_3 : Int) := of_decide_eq_true (by first | (with_reducible assumption) | assumption)
                              have q107 : x5_3 < (((rd_T78 l0_0 x4_1).f2).length : Int) := of_decide_eq_true (by first | (with_reducible assumption) | assumption)
                              obtain ⟨ad107, e107, hx107_0⟩ := Kd.at_string HR106_2.out x5_3 p107 q107
                              cases e107
                              replace hx107_0 := (HB.out.cell (World.block_lt_of_cell? w _ hx107_0)).trans hx107_0
                              replace p107 := eq_true p107
                              replace q107 := eq_true q107
                              go_wp2
                              repeat (go_quiet (fail); try go_wp2)
                              go_roundg k3
                              case measure => have := HK1.out; have := HJ2.out; have := HK3.out; omega
                              case rel => exact ⟨(wrap64 (x3_3 + (wrap64 (((rdOf ByteArray.empty ((rd_T78 l0_0 x4_1).f2) x5_3).size : Int) / 100)))), (wrap64 (x5_3 + 1)), (by first | rfl | (simp; done) | (simp [*]; done)), (by first | rfl | (simp; done) | (simp [*]; done)), H', ⟨by have := HK1.out; have := HJ2.out; have := HK3.out; omega⟩, ⟨by (with_reducible repeat (first | refine blk_drewN ?_ _ | refine blk_drew ?_ | refine blk_alloc ?_ _)); exact BK101.out⟩, ⟨by repeat (first | (with_reducible first | exact HB.out | apply below_alloc | apply pw_below_drewN | apply below_drew1 | refine below_set ?_ GE101.out) | exact HB.out)⟩⟩
                            · rw [if_neg c15] at H
                              exact absurd H (by simp)
                          · rw [if_neg c14] at H
                            have c14b0 : decide (x5_3 < 40) = false := decide_eq_false c14
                            clear c14
                            have H' := Aside0.mk H
                            clear H
                            have hcz17_0 : wr.cell? ⟨gb101, 0, none⟩ = some (.slice (some ad102) l0_0.length c0_0) := (blk_cell BK101.out 0).trans rfl
                            have hfz17_0 := blk_frozen BK101.out 0
                            have p105 : 0 ≤ (x4_1 : Int) := of_decide_eq_true (by first | (with_reducible assumption) | assumption)
                            have q105 : x4_1 < (l0_0.length : Int) := of_decide_eq_true (by first | (with_reducible assumption) | assumption)
                            obtain ⟨ad105, A105_2, c105_2, e105, hx105_0, hx105_1, hx105_2, hx105_3, hl105_2, hi105_2⟩ := at_T78 HR0_0.out x4_1 p105 q105
                            obtain rfl : ad102 = ad105 := (by injection e105)
                            replace hx105_0 := (HB.out.cell (World.block_lt_of_cell? w _ hx105_0)).trans hx105_0
                            replace hx105_1 := (HB.out.cell (World.block_lt_of_cell? w _ hx105_1)).trans hx105_1
                            replace hx105_2 := (HB.out.cell (World.block_lt_of_cell? w _ hx105_2)).trans hx105_2
                            replace hx105_3 := (HB.out.cell (World.block_lt_of_cell? w _ hx105_3)).trans hx105_3
                            have HR105_2 := Aside0.mk hi105_2
                            have HC105_2 := Aside0.mk hl105_2
                            clear hi105_2 hl105_2
                            replace p105 := eq_true p105
                            replace q105 := eq_true q105
                            go_wp2
                            repeat (go_quiet (fail); try go_wp2)
                            go_roundg k3
                            case measure => have := HK1.out; have := HJ2.out; have := HK3.out; omega
                            case rel => exact ⟨(x3_3), (wrap64 (x4_1 + 1)), (by first | rfl | (simp; done) | (simp [*]; done)), (by first | rfl | (simp; done) | (simp [*]; done)), H', ⟨by have := HK1.out; have := HJ2.out; have := HK3.out; omega⟩, ⟨by (with_reducible repeat (first | refine blk_drewN ?_ _ | refine blk_drew ?_ | refine blk_alloc ?_ _)); exact BK101.out⟩, ⟨by repeat (first | (with_reducible first | exact HB.out | apply below_alloc | apply pw_below_drewN | apply below_drew1 | refine below_set ?_ GE101.out) | exact HB.out)⟩⟩
                        · rw [if_neg c13] at H
                          have c13b0 : decide (x5_3 < (((rd_T78 l0_0 x4_1).f2).length : Int)) = false := decide_eq_false c13
                          clear c13
                          have H' := Aside0.mk H
                          clear H
                          have hcz18_0 : wr.cell? ⟨gb101, 0, none⟩ = some (.slice (some ad102) l0_0.length c0_0) := (blk_cell BK101.out 0).trans rfl
                          have hfz18_0 := blk_frozen BK101.out 0
                          have p105 : 0 ≤ (x4_1 : Int) := of_decide_eq_true (by first | (with_reducible assumption) | assumption)
                          have q105 : x4_1 < (l0_0.length : Int) := of_decide_eq_true (by first | (with_reducible assumption) | assumption)
                          obtain ⟨ad105, A105_2, c105_2, e105, hx105_0, hx105_1, hx105_2, hx105_3, hl105_2, hi105_2⟩ := at_T78 HR0_0.out x4_1 p105 q105
                          obtain rfl : ad102 = ad105 := (by injection e105)
                          replace hx105_0 := (HB.out.cell (World.block_lt_of_cell? w _ hx105_0)).trans hx105_0
                          replace hx105_1 := (HB.out.cell (World.block_lt_of_cell? w _ hx105_1)).trans hx105_1
                          replace hx105_2 := (HB.out.cell (World.block_lt_of_cell? w _ hx105_2)).trans hx105_2
                          replace hx105_3 := (HB.out.cell (World.block_lt_of_cell? w _ hx105_3)).trans hx105_3
                          have HR105_2 := Aside0.mk hi105_2
                          have HC105_2 := Aside0.mk hl105_2
                          clear hi105_2 hl105_2
                          replace p105 := eq_true p105
                          replace q105 := eq_true q105
                          go_wp2
                          repeat (go_quiet (fail); try go_wp2)
                          go_roundg k3
                          case measure => have := HK1.out; have := HJ2.out; have := HK3.out; omega
                          case rel => exact ⟨(x3_3), (wrap64 (x4_1 + 1)), (by first | rfl | (simp; done) | (simp [*]; done)), (by first | rfl | (simp; done) | (simp [*]; done)), H', ⟨by have := HK1.out; have := HJ2.out; have := HK3.out; omega⟩, ⟨by (with_reducible repeat (first | refine blk_drewN ?_ _ | refine blk_drew ?_ | refine blk_alloc ?_ _)); exact BK101.out⟩, ⟨by repeat (first | (with_reducible first | exact HB.out | apply below_alloc | apply pw_below_drewN | apply below_drew1 | refine below_set ?_ GE101.out) | exact HB.out)⟩⟩
                      · rw [if_neg c12] at H
                        exact absurd H (by simp)
                    · rw [if_neg c11] at H
                      exact absurd H (by simp)
              · rw [if_neg c9] at H
                exact absurd H (by simp)
            · rw [if_neg c8] at H
              exact absurd H (by simp)
          · replace c7 := Bool.eq_false_iff.mpr c7
            subst c7
            have H1 : (some x3_1) = some r := by rw [if_neg (show ¬ (false = true) by decide)] at H; exact H
            clear H
            have H := H1
            clear H1
            obtain rfl := Option.some.inj H
            go_wp2
            repeat (go_quiet (fail); try go_wp2)
            go_ret
            exact ⟨by first | rfl | (simp [errW_none, errW_some] <;> rfl) | (simp [*, errW_none, errW_some] <;> rfl), by repeat (first | (with_reducible first | exact HB.out | apply below_alloc | apply pw_below_drewN | apply below_drew1 | refine below_set ?_ GE101.out) | exact HB.out)⟩

/-! ### colophonlaw19_Large: function 27 -/
mutual
def colophonlaw19_Large.l0 : Nat → List (S41) → Int → Int → Option (Bool)
  | 0, _, _, _ => none
  | k + 1, x0, x3, x4 => if x4 < (x0.length : Int) then (colophonlaw19_Large.j1 k x0 x3 x4 (decide (x3 ≤ 3000))) else (colophonlaw19_Large.j1 k x0 x3 x4 false)
def colophonlaw19_Large.j1 : Nat → List (S41) → Int → Int → Bool → Option (Bool)
  | 0, _, _, _, _ => none
  | k + 1, x0, x3, x4, x13 => if x13 = true then (if 0 ≤ x4 then (if x4 < (x0.length : Int) then (colophonlaw19_Large.l1 k x0 (wrap64 (x3 + (wrap64 (1 + (((rd_T41 x0 x4).f1).length : Int))))) x4 0) else (none)) else (none)) else (some (decide (x3 > 3000)))
def colophonlaw19_Large.l1 : Nat → List (S41) → Int → Int → Int → Option (Bool)
  | 0, _, _, _, _ => none
  | k + 1, x0, x3, x4, x5 => if 0 ≤ x4 then (if x4 < (x0.length : Int) then (if x5 < (((rd_T41 x0 x4).f0).length : Int) then (if x3 ≤ 3000 then (if 0 ≤ x5 then ((colophonlaw19_size.f k ((rd_T45 ((rd_T41 x0 x4).f0) x5).f0)).bind fun t112 => (colophonlaw19_Large.l1 k x0 (wrap64 (x3 + (wrap64 (1 + t112)))) x4 (wrap64 (x5 + 1)))) else (none)) else (colophonlaw19_Large.l0 k x0 x3 (wrap64 (x4 + 1)))) else (colophonlaw19_Large.l0 k x0 x3 (wrap64 (x4 + 1)))) else (none)) else (none)
end
def colophonlaw19_Large.f (k : Nat) (l0 : List (S41)) : Option (Bool) := colophonlaw19_Large.l0 k l0 0 0
theorem colophonlaw19_Large.mono_l : ∀ k, (∀ y0 y1 y2, LeO (colophonlaw19_Large.l0 k y0 y1 y2) (colophonlaw19_Large.l0 (k + 1) y0 y1 y2)) ∧ (∀ y0 y1 y2 y3, LeO (colophonlaw19_Large.j1 k y0 y1 y2 y3) (colophonlaw19_Large.j1 (k + 1) y0 y1 y2 y3)) ∧ (∀ y0 y1 y2 y3, LeO (colophonlaw19_Large.l1 k y0 y1 y2 y3) (colophonlaw19_Large.l1 (k + 1) y0 y1 y2 y3))
  | 0 => ⟨fun _ _ _ r h => by simp [colophonlaw19_Large.l0] at h, fun _ _ _ _ r h => by simp [colophonlaw19_Large.j1] at h, fun _ _ _ _ r h => by simp [colophonlaw19_Large.l1] at h⟩
  | k + 1 => by
    obtain ⟨ih0, ih1, ih2⟩ := colophonlaw19_Large.mono_l k
    refine ⟨?_, ?_, ?_⟩
    · intro y0 y1 y2
      unfold colophonlaw19_Large.l0
      repeat' first
      | (with_reducible exact ih0 _ _ _)
      | (with_reducible exact ih1 _ _ _ _)
      | (with_reducible exact ih2 _ _ _ _)
      | (with_reducible exact colophonlaw19_size.mono _ _)
      | (with_reducible exact LeO.refl _)
      | (with_reducible exact LeO.none _)
      | (with_reducible refine LeO.ite ?_ ?_)
      | (with_reducible refine LeO.bind ?_ (fun _ => ?_))
      | exact ih0 _ _ _
      | exact ih1 _ _ _ _
      | exact ih2 _ _ _ _
      | exact colophonlaw19_size.mono _ _
      | exact LeO.none _
      | refine LeO.ite ?_ ?_
      | refine LeO.bind ?_ (fun _ => ?_)
    · intro y0 y1 y2 y3
      unfold colophonlaw19_Large.j1
      repeat' first
      | (with_reducible exact ih0 _ _ _)
      | (with_reducible exact ih1 _ _ _ _)
      | (with_reducible exact ih2 _ _ _ _)
      | (with_reducible exact colophonlaw19_size.mono _ _)
      | (with_reducible exact LeO.refl _)
      | (with_reducible exact LeO.none _)
      | (with_reducible refine LeO.ite ?_ ?_)
      | (with_reducible refine LeO.bind ?_ (fun _ => ?_))
      | exact ih0 _ _ _
      | exact ih1 _ _ _ _
      | exact ih2 _ _ _ _
      | exact colophonlaw19_size.mono _ _
      | exact LeO.none _
      | refine LeO.ite ?_ ?_
      | refine LeO.bind ?_ (fun _ => ?_)
    · intro y0 y1 y2 y3
      unfold colophonlaw19_Large.l1
      repeat' first
      | (with_reducible exact ih0 _ _ _)
      | (with_reducible exact ih1 _ _ _ _)
      | (with_reducible exact ih2 _ _ _ _)
      | (with_reducible exact colophonlaw19_size.mono _ _)
      | (with_reducible exact LeO.refl _)
      | (with_reducible exact LeO.none _)
      | (with_reducible refine LeO.ite ?_ ?_)
      | (with_reducible refine LeO.bind ?_ (fun _ => ?_))
      | exact ih0 _ _ _
      | exact ih1 _ _ _ _
      | exact ih2 _ _ _ _
      | exact colophonlaw19_size.mono _ _
      | exact LeO.none _
      | refine LeO.ite ?_ ?_
      | refine LeO.bind ?_ (fun _ => ?_)
theorem colophonlaw19_Large.mono : ∀ a0 k, LeO (colophonlaw19_Large.f k a0) (colophonlaw19_Large.f (k + 1) a0) := by
  intro a0 k
  obtain ⟨ih0, ih1, ih2⟩ := colophonlaw19_Large.mono_l k
  unfold colophonlaw19_Large.f
  repeat' first
      | (with_reducible exact ih0 _ _ _)
      | (with_reducible exact ih1 _ _ _ _)
      | (with_reducible exact ih2 _ _ _ _)
      | (with_reducible exact colophonlaw19_size.mono _ _)
      | (with_reducible exact LeO.refl _)
      | (with_reducible exact LeO.none _)
      | (with_reducible refine LeO.ite ?_ ?_)
      | (with_reducible refine LeO.bind ?_ (fun _ => ?_))
      | exact ih0 _ _ _
      | exact ih1 _ _ _ _
      | exact ih2 _ _ _ _
      | exact colophonlaw19_size.mono _ _
      | exact LeO.none _
      | refine LeO.ite ?_ ?_
      | refine LeO.bind ?_ (fun _ => ?_)
set_option maxHeartbeats 8000000 in
set_option maxRecDepth 100000 in
theorem colophonlaw19_Large.calls (k : Nat) (A0 : Option Addr) (c0 : Nat) (l0 : List (S41)) (r : Bool) (w : World) (hr0 : Kd.C k41 w A0 l0.length l0) (hc0 : l0.length ≤ c0) (h : colophonlaw19_Large.f k l0 = some r) :
    Calls Try.prog 27 #[.slice A0 l0.length c0] w fun e w' => e = .returned (.bool r) ∧ Below w.heap.size w w' := by
  have hu45 := Try.underlying45
  have HR0 := Aside0.mk hr0
  have HC0 := Aside0.mk hc0
  clear hr0 hc0
  have HB := Aside0.mk (Below.refl w.heap.size w)
  have H : (colophonlaw19_Large.l0 k l0 0 0) = some r := h
  clear h
  have H' := Aside0.mk H
  clear H
  go_enter Try.func27, Try.ntmps27
  go_wp2
  go_loopg [3, 4] k (fun kq v3 v4 w' => ∃ (x3_1 : Int) (x4_1 : Int), v3 = .int .i64 x3_1 ∧ v4 = .int .i64 x4_1 ∧ Aside0 (colophonlaw19_Large.l0 kq l0 x3_1 x4_1 = some r) ∧ Aside0 (kq ≤ k) ∧ Aside0 (Below w.heap.size w w'))
  case atStart => exact ⟨(0), (0), (by first | rfl | (simp; done) | (simp [*]; done)), (by first | rfl | (simp; done) | (simp [*]; done)), H', ⟨Nat.le_refl _⟩, ⟨by repeat (first | (with_reducible first | exact HB.out | apply below_alloc | apply pw_below_drewN | apply below_drew1) | exact HB.out)⟩⟩
  case round =>
    clear H'
    obtain ⟨x3_1, x4_1, rfl, rfl, HA, HK1, HB⟩ := hrel
    cases gk with
    | zero => exact absurd HA.out (by simp [colophonlaw19_Large.l0])
    | succ k1 =>
      have H := HA.out
      clear HA
      simp only [colophonlaw19_Large.l0] at H
      have HC2 := Aside0.mk H
      clear H
      go_upto_region 3 with (fail)
      go_cut [13] (fun v13 wc => ∃ (kq : Nat) (x13_1 : Bool), v13 = .bool x13_1 ∧ Aside0 (colophonlaw19_Large.j1 kq l0 x3_1 x4_1 x13_1 = some r) ∧ Aside0 (kq ≤ k1) ∧ Aside0 (Below w.heap.size w wc))
      case first =>
        have H := HC2.out
        clear HC2
        by_cases c3 : x4_1 < (l0.length : Int)
        · rw [if_pos c3] at H
          have c3b0 : decide (x4_1 < (l0.length : Int)) = true := decide_eq_true c3
          clear c3
          (first | rw [c3b0] | (simp only [i64_w, i32_w]; rw [c3b0]) | skip)
          have H' := Aside0.mk H
          clear H
          go_wp2
          go_meet
          case rel => exact ⟨_, (decide (x3_1 ≤ 3000)), (by first | rfl | (simp; done) | (simp [*]; done)), H', ⟨by have := HK1.out; first | omega | exact Nat.le_refl _⟩, ⟨by repeat (first | (with_reducible first | exact HB.out | apply below_alloc | apply pw_below_drewN | apply below_drew1) | exact HB.out)⟩⟩
        · rw [if_neg c3] at H
          have c3b0 : decide (x4_1 < (l0.length : Int)) = false := decide_eq_false c3
          clear c3
          (first | rw [c3b0] | (simp only [i64_w, i32_w]; rw [c3b0]) | skip)
          have H' := Aside0.mk H
          clear H
          go_wp2
          go_meet
          case rel => exact ⟨_, (false), (by first | rfl | (simp; done) | (simp [*]; done)), H', ⟨by have := HK1.out; first | omega | exact Nat.le_refl _⟩, ⟨by repeat (first | (with_reducible first | exact HB.out | apply below_alloc | apply pw_below_drewN | apply below_drew1) | exact HB.out)⟩⟩
      case rest =>
        clear HC2
        try clear c2
        try clear p2
        try clear c3
        try clear c3b0
        obtain ⟨kq, x13_1, rfl, HA, HJ1, HB⟩ := hcut
        cases kq with
        | zero => exact absurd HA.out (by simp [colophonlaw19_Large.j1])
        | succ kj1 =>
          have H := HA.out
          clear HA
          simp only [colophonlaw19_Large.j1] at H
          by_cases c4 : x13_1 = true
          · subst c4
            have H1 : (if 0 ≤ x4_1 then (if x4_1 < (l0.length : Int) then (colophonlaw19_Large.l1 kj1 l0 (wrap64 (x3_1 + (wrap64 (1 + (((rd_T41 l0 x4_1).f1).length : Int))))) x4_1 0) else (none)) else (none)) = some r := by rw [if_pos rfl] at H; exact H
            clear H
            have H := H1
            clear H1
            by_cases c5 : 0 ≤ x4_1
            · rw [if_pos c5] at H
              have c5b0 : decide (0 ≤ x4_1) = true := decide_eq_true c5
              clear c5
              by_cases c6 : x4_1 < (l0.length : Int)
              · rw [if_pos c6] at H
                have c6b0 : decide (x4_1 < (l0.length : Int)) = true := decide_eq_true c6
                clear c6
                have H' := Aside0.mk H
                clear H
                have p108 : 0 ≤ (x4_1 : Int) := of_decide_eq_true (by first | (with_reducible assumption) | assumption)
                have q108 : x4_1 < (l0.length : Int) := of_decide_eq_true (by first | (with_reducible assumption) | assumption)
                obtain ⟨ad108, A108_0, c108_0, A108_1, c108_1, e108, hx108_0, hx108_1, hl108_0, hi108_0, hl108_1, hi108_1⟩ := at_T41 HR0.out x4_1 p108 q108
                cases e108
                replace hx108_0 := (HB.out.cell (World.block_lt_of_cell? w _ hx108_0)).trans hx108_0
                replace hx108_1 := (HB.out.cell (World.block_lt_of_cell? w _ hx108_1)).trans hx108_1
                have HR108_0 := Aside0.mk hi108_0
                have HC108_0 := Aside0.mk hl108_0
                clear hi108_0 hl108_0
                have HR108_1 := Aside0.mk hi108_1
                have HC108_1 := Aside0.mk hl108_1
                clear hi108_1 hl108_1
                replace p108 := eq_true p108
                replace q108 := eq_true q108
                go_wp2
                go_loopg [3, 5] kj1 (fun kq v3 v5 w' => ∃ (x3_3 : Int) (x5_3 : Int), v3 = .int .i64 x3_3 ∧ v5 = .int .i64 x5_3 ∧ Aside0 (colophonlaw19_Large.l1 kq l0 x3_3 x4_1 x5_3 = some r) ∧ Aside0 (kq ≤ kj1) ∧ Aside0 (Below w.heap.size w w'))
                case atStart => exact ⟨(wrap64 (x3_1 + (wrap64 (1 + (((rd_T41 l0 x4_1).f1).length : Int))))), (0), (by first | rfl | (simp; done) | (simp [*]; done)), (by first | rfl | (simp; done) | (simp [*]; done)), H', ⟨Nat.le_refl _⟩, ⟨by repeat (first | (with_reducible first | exact HB.out | apply below_alloc | apply pw_below_drewN | apply below_drew1) | exact HB.out)⟩⟩
                case round =>
                  clear H'
                  try clear c1
                  try clear p1
                  try clear q1
                  try clear hx1
                  try clear c2
                  try clear p2
                  try clear c3
                  try clear c3b0
                  try clear c4
                  try clear c5
                  try clear c5b0
                  try clear c6
                  try clear c6b0
                  try clear p6
                  try clear hx108_0
                  try clear hx108_1
                  try clear p108
                  try clear p2
                  try clear q108
                  obtain ⟨x3_3, x5_3, rfl, rfl, HA, HK3, HB⟩ := hrel
                  cases gk with
                  | zero => exact absurd HA.out (by simp [colophonlaw19_Large.l1])
                  | succ k3 =>
                    have H := HA.out
                    clear HA
                    simp only [colophonlaw19_Large.l1] at H
                    by_cases c7 : 0 ≤ x4_1
                    · rw [if_pos c7] at H
                      have c7b0 : decide (0 ≤ x4_1) = true := decide_eq_true c7
                      clear c7
                      by_cases c8 : x4_1 < (l0.length : Int)
                      · rw [if_pos c8] at H
                        have c8b0 : decide (x4_1 < (l0.length : Int)) = true := decide_eq_true c8
                        clear c8
                        by_cases c9 : x5_3 < (((rd_T41 l0 x4_1).f0).length : Int)
                        · rw [if_pos c9] at H
                          have c9b0 : decide (x5_3 < (((rd_T41 l0 x4_1).f0).length : Int)) = true := decide_eq_true c9
                          clear c9
                          by_cases c10 : x3_3 ≤ 3000
                          · rw [if_pos c10] at H
                            have c10b0 : decide (x3_3 ≤ 3000) = true := decide_eq_true c10
                            clear c10
                            by_cases c11 : 0 ≤ x5_3
                            · rw [if_pos c11] at H
                              have c11b0 : decide (0 ≤ x5_3) = true := decide_eq_true c11
                              clear c11
                              replace H := Option.bind_eq_some_iff.mp H
                              obtain ⟨t112, A120, H⟩ := H
                              replace H : (colophonlaw19_Large.l1 k3 l0 (wrap64 (x3_3 + (wrap64 (1 + t112)))) x4_1 (wrap64 (x5_3 + 1))) = some r := H
                              have A12 := Aside0.mk A120
                              clear A120
                              have H' := Aside0.mk H
                              clear H
                              have p109 : 0 ≤ (x4_1 : Int) := of_decide_eq_true (by first | (with_reducible assumption) | assumption)
                              have q109 : x4_1 < (l0.length : Int) := of_decide_eq_true (by first | (with_reducible assumption) | assumption)
                              obtain ⟨ad109, A109_0, c109_0, A109_1, c109_1, e109, hx109_0, hx109_1, hl109_0, hi109_0, hl109_1, hi109_1⟩ := at_T41 HR0.out x4_1 p109 q109
                              obtain rfl : ad108 = ad109 := (by injection e109)
                              replace hx109_0 := (HB.out.cell (World.block_lt_of_cell? w _ hx109_0)).trans hx109_0
                              replace hx109_1 := (HB.out.cell (World.block_lt_of_cell? w _ hx109_1)).trans hx109_1
                              have HR109_0 := Aside0.mk hi109_0
                              have HC109_0 := Aside0.mk hl109_0
                              clear hi109_0 hl109_0
                              have HR109_1 := Aside0.mk hi109_1
                              have HC109_1 := Aside0.mk hl109_1
                              clear hi109_1 hl109_1
                              replace p109 := eq_true p109
                              replace q109 := eq_true q109
                              have p110 : 0 ≤ (x4_1 : Int) := of_decide_eq_true (by first | (with_reducible assumption) | assumption)
                              have q110 : x4_1 < (l0.length : Int) := of_decide_eq_true (by first | (with_reducible assumption) | assumption)
                              obtain ⟨ad110, A110_0, c110_0, A110_1, c110_1, e110, hx110_0, hx110_1, hl110_0, hi110_0, hl110_1, hi110_1⟩ := at_T41 HR0.out x4_1 p110 q110
                              obtain rfl : ad108 = ad110 := (by injection e110)
                              replace hx110_0 := (HB.out.cell (World.block_lt_of_cell? w _ hx110_0)).trans hx110_0
                              replace hx110_1 := (HB.out.cell (World.block_lt_of_cell? w _ hx110_1)).trans hx110_1
                              have HR110_0 := Aside0.mk hi110_0
                              have HC110_0 := Aside0.mk hl110_0
                              clear hi110_0 hl110_0
                              have HR110_1 := Aside0.mk hi110_1
                              have HC110_1 := Aside0.mk hl110_1
                              clear hi110_1 hl110_1
                              replace p110 := eq_true p110
                              replace q110 := eq_true q110
                              have ea_ := Option.some.inj (hx109_0.symm.trans hx110_0)
                              injection ea_ with ea_ en_ ec_
                              subst ea_
                              subst ec_
                              clear en_
                              have ea_ := Option.some.inj (hx109_1.symm.trans hx110_1)
                              injection ea_ with ea_ en_ ec_
                              subst ea_
                              subst ec_
                              clear en_
                              have p111 : 0 ≤ (x5_3 : Int) := of_decide_eq_true (by first | (with_reducible assumption) | assumption)
                              have q111 : x5_3 < (((rd_T41 l0 x4_1).f0).length : Int) := of_decide_eq_true (by first | (with_reducible assumption) | assumption)
                              obtain ⟨ad111, A111_0, c111_0, e111, hx111_0, hl111_0, hi111_0⟩ := at_T45 HR110_0.out x5_3 p111 q111
                              cases e111
                              replace hx111_0 := (HB.out.cell (World.block_lt_of_cell? w _ hx111_0)).trans hx111_0
                              have HR111_0 := Aside0.mk hi111_0
                              have HC111_0 := Aside0.mk hl111_0
                              clear hi111_0 hl111_0
                              replace p111 := eq_true p111
                              replace q111 := eq_true q111
                              go_wp2_with (first | ((with_reducible refine gate_callee (f := 46) rfl ?_); refine goesL_ (some 48) rfl rfl Try.func46 (by kernel_rfl) rfl #[.agg #[.slice A111_0 ((rd_T45 ((rd_T41 l0 x4_1).f0) x5_3).f0).length c111_0]] rfl (by (try simp only [List.map_toArray, List.map_cons, List.map_nil]); first | done | rfl | (simp only [List.length_drop, List.length_take]; rfl)) ?_; (with_reducible refine (colophonlaw19_size.calls k3 _ _ ((rd_T45 ((rd_T41 l0 x4_1).f0) x5_3).f0) t112 _ ?side1 ?side2 A12.out).mono ?_); (case side1 => repeat (first | exact (Kd.C_below HR111_0.out HB.out) | (with_reducible refine Kd.C_alloc ?_ _) | (with_reducible refine Kd.C_drewN ?_ _) | (with_reducible refine Kd.C_drew ?_))); (case side2 => exact HC111_0.out); rintro e w13 ⟨rfl, hb⟩; refine ⟨_, rfl, ?_⟩; have n0_ := Aside0.mk (below_step (by repeat (first | (with_reducible first | exact HB.out | apply below_alloc | apply pw_below_drewN | apply below_drew1) | exact HB.out)) hb); clear HB; have HB := n0_; clear n0_; (try clear hb); (try clear hb2); (try clear hk); (try clear hi)))
                              go_roundg k3
                              case measure => have := HK1.out; have := HJ1.out; have := HK3.out; omega
                              case rel => exact ⟨(wrap64 (x3_3 + (wrap64 (1 + t112)))), (wrap64 (x5_3 + 1)), (by first | rfl | (simp; done) | (simp [*]; done)), (by first | rfl | (simp; done) | (simp [*]; done)), H', ⟨by have := HK1.out; have := HJ1.out; have := HK3.out; omega⟩, ⟨by repeat (first | (with_reducible first | exact HB.out | apply below_alloc | apply pw_below_drewN | apply below_drew1) | exact HB.out)⟩⟩
                            · rw [if_neg c11] at H
                              exact absurd H (by simp)
                          · rw [if_neg c10] at H
                            have c10b0 : decide (x3_3 ≤ 3000) = false := decide_eq_false c10
                            clear c10
                            have H' := Aside0.mk H
                            clear H
                            have p109 : 0 ≤ (x4_1 : Int) := of_decide_eq_true (by first | (with_reducible assumption) | assumption)
                            have q109 : x4_1 < (l0.length : Int) := of_decide_eq_true (by first | (with_reducible assumption) | assumption)
                            obtain ⟨ad109, A109_0, c109_0, A109_1, c109_1, e109, hx109_0, hx109_1, hl109_0, hi109_0, hl109_1, hi109_1⟩ := at_T41 HR0.out x4_1 p109 q109
                            obtain rfl : ad108 = ad109 := (by injection e109)
                            replace hx109_0 := (HB.out.cell (World.block_lt_of_cell? w _ hx109_0)).trans hx109_0
                            replace hx109_1 := (HB.out.cell (World.block_lt_of_cell? w _ hx109_1)).trans hx109_1
                            have HR109_0 := Aside0.mk hi109_0
                            have HC109_0 := Aside0.mk hl109_0
                            clear hi109_0 hl109_0
                            have HR109_1 := Aside0.mk hi109_1
                            have HC109_1 := Aside0.mk hl109_1
                            clear hi109_1 hl109_1
                            replace p109 := eq_true p109
                            replace q109 := eq_true q109
                            go_wp2
                            go_roundg k3
                            case measure => have := HK1.out; have := HJ1.out; have := HK3.out; omega
                            case rel => exact ⟨(x3_3), (wrap64 (x4_1 + 1)), (by first | rfl | (simp; done) | (simp [*]; done)), (by first | rfl | (simp; done) | (simp [*]; done)), H', ⟨by have := HK1.out; have := HJ1.out; have := HK3.out; omega⟩, ⟨by repeat (first | (with_reducible first | exact HB.out | apply below_alloc | apply pw_below_drewN | apply below_drew1) | exact HB.out)⟩⟩
                        · rw [if_neg c9] at H
                          have c9b0 : decide (x5_3 < (((rd_T41 l0 x4_1).f0).length : Int)) = false := decide_eq_false c9
                          clear c9
                          have H' := Aside0.mk H
                          clear H
                          have p109 : 0 ≤ (x4_1 : Int) := of_decide_eq_true (by first | (with_reducible assumption) | assumption)
                          have q109 : x4_1 < (l0.length : Int) := of_decide_eq_true (by first | (with_reducible assumption) | assumption)
                          obtain ⟨ad109, A109_0, c109_0, A109_1, c109_1, e109, hx109_0, hx109_1, hl109_0, hi109_0, hl109_1, hi109_1⟩ := at_T41 HR0.out x4_1 p109 q109
                          obtain rfl : ad108 = ad109 := (by injection e109)
                          replace hx109_0 := (HB.out.cell (World.block_lt_of_cell? w _ hx109_0)).trans hx109_0
                          replace hx109_1 := (HB.out.cell (World.block_lt_of_cell? w _ hx109_1)).trans hx109_1
                          have HR109_0 := Aside0.mk hi109_0
                          have HC109_0 := Aside0.mk hl109_0
                          clear hi109_0 hl109_0
                          have HR109_1 := Aside0.mk hi109_1
                          have HC109_1 := Aside0.mk hl109_1
                          clear hi109_1 hl109_1
                          replace p109 := eq_true p109
                          replace q109 := eq_true q109
                          go_wp2
                          go_roundg k3
                          case measure => have := HK1.out; have := HJ1.out; have := HK3.out; omega
                          case rel => exact ⟨(x3_3), (wrap64 (x4_1 + 1)), (by first | rfl | (simp; done) | (simp [*]; done)), (by first | rfl | (simp; done) | (simp [*]; done)), H', ⟨by have := HK1.out; have := HJ1.out; have := HK3.out; omega⟩, ⟨by repeat (first | (with_reducible first | exact HB.out | apply below_alloc | apply pw_below_drewN | apply below_drew1) | exact HB.out)⟩⟩
                      · rw [if_neg c8] at H
                        exact absurd H (by simp)
                    · rw [if_neg c7] at H
                      exact absurd H (by simp)
              · rw [if_neg c6] at H
                exact absurd H (by simp)
            · rw [if_neg c5] at H
              exact absurd H (by simp)
          · replace c4 := Bool.eq_false_iff.mpr c4
            subst c4
            have H1 : (some (decide (x3_1 > 3000))) = some r := by rw [if_neg (show ¬ (false = true) by decide)] at H; exact H
            clear H
            have H := H1
            clear H1
            obtain rfl := Option.some.inj H
            go_wp2
            go_ret
            exact ⟨by first | rfl | (simp [errW_none, errW_some] <;> rfl) | (simp [*, errW_none, errW_some] <;> rfl), by repeat (first | (with_reducible first | exact HB.out | apply below_alloc | apply pw_below_drewN | apply below_drew1) | exact HB.out)⟩

end Go.Proofs.Ytpembifnjlekdaa.PStyleLast
