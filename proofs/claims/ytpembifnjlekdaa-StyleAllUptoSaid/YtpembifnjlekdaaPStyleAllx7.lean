-- Written by a copy of the print that this session has turned (wip/tools/patchprint.py): arrays as records.
import Derived.Test.YtpembifnjlekdaaPStyleAllx0
namespace Go.Proofs.Ytpembifnjlekdaa.PStyleAll
open Go.RowKit Go.Proofs.YtpembifnjlekdaaW.PrintWords Go.Proofs.YtpembifnjlekdaaW.PrintLast Go.Proofs.YtpembifnjlekdaaW.PrintMore
attribute [local go_sem] max2_int min2_int max_two min_two max_three min_three max_four min_four   -- for this text's walks alone
set_option linter.unusedVariables false
set_option linter.unusedSimpArgs false

/-! ### colophonlaw19_size: function 46 -/
mutual
def colophonlaw19_size.l0 : Nat → Int → Int → List (S78) → Option (Int)
  | 0, _, _, _ => none
  | k + 1, x3, x4, x235000 => if x4 < (x235000.length : Int) then (colophonlaw19_size.j1 k x3 x4 (decide (x3 ≤ 3000)) x235000) else (colophonlaw19_size.j1 k x3 x4 false x235000)
def colophonlaw19_size.j1 : Nat → Int → Int → Bool → List (S78) → Option (Int)
  | 0, _, _, _, _ => none
  | k + 1, x3, x4, x14, x235000 => if x14 = true then (if 0 ≤ x4 then (if x4 < (x235000.length : Int) then (colophonlaw19_size.l1 k (wrap64 (x3 + (wrap64 ((wrap64 ((wrap64 (1 + (((rd_T78 x235000 x4).f2).length : Int))) + (wrap64 ((((rd_T78 x235000 x4).f0).size : Int) / 100)))) + (wrap64 ((((rd_T78 x235000 x4).f1).size : Int) / 100)))))) x4 0 x235000) else (none)) else (none)) else (some x3)
def colophonlaw19_size.l1 : Nat → Int → Int → Int → List (S78) → Option (Int)
  | 0, _, _, _, _ => none
  | k + 1, x3, x4, x5, x235000 => if 0 ≤ x4 then (if x4 < (x235000.length : Int) then (if x5 < (((rd_T78 x235000 x4).f2).length : Int) then (if x5 < 40 then (if 0 ≤ x5 then (colophonlaw19_size.l1 k (wrap64 (x3 + (wrap64 (((rdOf ByteArray.empty ((rd_T78 x235000 x4).f2) x5).size : Int) / 100)))) x4 (wrap64 (x5 + 1)) x235000) else (none)) else (colophonlaw19_size.l0 k x3 (wrap64 (x4 + 1)) x235000)) else (colophonlaw19_size.l0 k x3 (wrap64 (x4 + 1)) x235000)) else (none)) else (none)
end
def colophonlaw19_size.f (k : Nat) (l0_0 : List (S78)) : Option (Int) := colophonlaw19_size.l0 k 0 0 l0_0
theorem colophonlaw19_size.mono_l : ∀ k, (∀ y0 y1 y2, LeO (colophonlaw19_size.l0 k y0 y1 y2) (colophonlaw19_size.l0 (k + 1) y0 y1 y2)) ∧ (∀ y0 y1 y2 y3, LeO (colophonlaw19_size.j1 k y0 y1 y2 y3) (colophonlaw19_size.j1 (k + 1) y0 y1 y2 y3)) ∧ (∀ y0 y1 y2 y3, LeO (colophonlaw19_size.l1 k y0 y1 y2 y3) (colophonlaw19_size.l1 (k + 1) y0 y1 y2 y3))
  | 0 => ⟨fun _ _ _ r h => by simp [colophonlaw19_size.l0] at h, fun _ _ _ _ r h => by simp [colophonlaw19_size.j1] at h, fun _ _ _ _ r h => by simp [colophonlaw19_size.l1] at h⟩
  | k + 1 => by
    obtain ⟨ih0, ih1, ih2⟩ := colophonlaw19_size.mono_l k
    refine ⟨?_, ?_, ?_⟩
    · intro y0 y1 y2
      unfold colophonlaw19_size.l0
      repeat' first
      | (with_reducible exact ih0 _ _ _)
      | (with_reducible exact ih1 _ _ _ _)
      | (with_reducible exact ih2 _ _ _ _)
      | (with_reducible exact LeO.refl _)
      | (with_reducible exact LeO.none _)
      | (with_reducible refine LeO.ite ?_ ?_)
      | (with_reducible refine LeO.bind ?_ (fun _ => ?_))
      | exact ih0 _ _ _
      | exact ih1 _ _ _ _
      | exact ih2 _ _ _ _
      | exact LeO.none _
      | refine LeO.ite ?_ ?_
      | refine LeO.bind ?_ (fun _ => ?_)
    · intro y0 y1 y2 y3
      unfold colophonlaw19_size.j1
      repeat' first
      | (with_reducible exact ih0 _ _ _)
      | (with_reducible exact ih1 _ _ _ _)
      | (with_reducible exact ih2 _ _ _ _)
      | (with_reducible exact LeO.refl _)
      | (with_reducible exact LeO.none _)
      | (with_reducible refine LeO.ite ?_ ?_)
      | (with_reducible refine LeO.bind ?_ (fun _ => ?_))
      | exact ih0 _ _ _
      | exact ih1 _ _ _ _
      | exact ih2 _ _ _ _
      | exact LeO.none _
      | refine LeO.ite ?_ ?_
      | refine LeO.bind ?_ (fun _ => ?_)
    · intro y0 y1 y2 y3
      unfold colophonlaw19_size.l1
      repeat' first
      | (with_reducible exact ih0 _ _ _)
      | (with_reducible exact ih1 _ _ _ _)
      | (with_reducible exact ih2 _ _ _ _)
      | (with_reducible exact LeO.refl _)
      | (with_reducible exact LeO.none _)
      | (with_reducible refine LeO.ite ?_ ?_)
      | (with_reducible refine LeO.bind ?_ (fun _ => ?_))
      | exact ih0 _ _ _
      | exact ih1 _ _ _ _
      | exact ih2 _ _ _ _
      | exact LeO.none _
      | refine LeO.ite ?_ ?_
      | refine LeO.bind ?_ (fun _ => ?_)
theorem colophonlaw19_size.mono : ∀ a0 k, LeO (colophonlaw19_size.f k a0) (colophonlaw19_size.f (k + 1) a0) := by
  intro a0 k
  obtain ⟨ih0, ih1, ih2⟩ := colophonlaw19_size.mono_l k
  unfold colophonlaw19_size.f
  repeat' first
      | (with_reducible exact ih0 _ _ _)
      | (with_reducible exact ih1 _ _ _ _)
      | (with_reducible exact ih2 _ _ _ _)
      | (with_reducible exact LeO.refl _)
      | (with_reducible exact LeO.none _)
      | (with_reducible refine LeO.ite ?_ ?_)
      | (with_reducible refine LeO.bind ?_ (fun _ => ?_))
      | exact ih0 _ _ _
      | exact ih1 _ _ _ _
      | exact ih2 _ _ _ _
      | exact LeO.none _
      | refine LeO.ite ?_ ?_
      | refine LeO.bind ?_ (fun _ => ?_)
set_option maxHeartbeats 8000000 in
set_option maxRecDepth 100000 in
theorem colophonlaw19_size.calls (k : Nat) (A0_0 : Option Addr) (c0_0 : Nat) (l0_0 : List (S78)) (r : Int) (w : World) (hr0_0 : Kd.C k78 w A0_0 l0_0.length l0_0) (hc0_0 : l0_0.length ≤ c0_0) (h : colophonlaw19_size.f k l0_0 = some r) :
    Calls Try.prog 46 #[.agg #[.slice A0_0 l0_0.length c0_0]] w fun e w' => e = .returned (.int .i64 r) ∧ Below w.heap.size w w' := by
  have hu45 := Try.underlying45
  have HR0_0 := Aside0.mk hr0_0
  have HC0_0 := Aside0.mk hc0_0
  clear hr0_0 hc0_0
  have HB := Aside0.mk (Below.refl w.heap.size w)
  have H : (colophonlaw19_size.l0 k 0 0 l0_0) = some r := h
  clear h
  have H' := Aside0.mk H
  clear H
  go_enter Try.func46, Try.ntmps46
  go_wp2_with (first | ((with_reducible refine gate_dst (N := 1) rfl ?_); refine box_event ?hg (N := 1) ?hd (cs := #[.slice A0_0 l0_0.length c0_0]) (t := 45) ?hr ?_; (case hd => rfl); (case hg => rfl); (case hr => first | (go_simp; done) | (go_simp; rfl)); intro gb234 hg w2 hbox hb; have n0_ := Aside0.mk (below_step (by repeat (first | (with_reducible first | exact HB.out | apply below_alloc | apply pw_below_drewN | apply below_drew1) | exact HB.out)) hb); have n1_ := Aside0.mk (hbox); have n2_ := Aside0.mk ((by rw [hg]; exact (below_size (by repeat (first | (with_reducible first | exact HB.out | apply below_alloc | apply pw_below_drewN | apply below_drew1) | exact HB.out))) : w.heap.size ≤ gb234)); have n3_ := Aside0.mk ((by rw [hg]; exact (below_size (by repeat (first | (with_reducible first | exact HB.out | apply below_alloc | apply pw_below_drewN | apply below_drew1) | exact HB.out))) : w.heap.size ≤ gb234)); clear HB; have HB := n0_; have BK234 := n1_; have GW234 := n2_; have GE234 := n3_; clear n0_ n1_ n2_ n3_; clear hb hbox hg))
  repeat (go_quiet (first | ((with_reducible refine gate_dst (N := 1) rfl ?_); refine box_event ?hg (N := 1) ?hd (cs := #[.slice A0_0 l0_0.length c0_0]) (t := 45) ?hr ?_; (case hd => rfl); (case hg => rfl); (case hr => first | (go_simp; done) | (go_simp; rfl)); intro gb234 hg w2 hbox hb; have n0_ := Aside0.mk (below_step (by repeat (first | (with_reducible first | exact HB.out | apply below_alloc | apply pw_below_drewN | apply below_drew1) | exact HB.out)) hb); have n1_ := Aside0.mk (hbox); have n2_ := Aside0.mk ((by rw [hg]; exact (below_size (by repeat (first | (with_reducible first | exact HB.out | apply below_alloc | apply pw_below_drewN | apply below_drew1) | exact HB.out))) : w.heap.size ≤ gb234)); have n3_ := Aside0.mk ((by rw [hg]; exact (below_size (by repeat (first | (with_reducible first | exact HB.out | apply below_alloc | apply pw_below_drewN | apply below_drew1) | exact HB.out))) : w.heap.size ≤ gb234)); clear HB; have HB := n0_; have BK234 := n1_; have GW234 := n2_; have GE234 := n3_; clear n0_ n1_ n2_ n3_; clear hb hbox hg)); try go_wp2_with (first | ((with_reducible refine gate_dst (N := 1) rfl ?_); refine box_event ?hg (N := 1) ?hd (cs := #[.slice A0_0 l0_0.length c0_0]) (t := 45) ?hr ?_; (case hd => rfl); (case hg => rfl); (case hr => first | (go_simp; done) | (go_simp; rfl)); intro gb234 hg w2 hbox hb; have n0_ := Aside0.mk (below_step (by repeat (first | (with_reducible first | exact HB.out | apply below_alloc | apply pw_below_drewN | apply below_drew1) | exact HB.out)) hb); have n1_ := Aside0.mk (hbox); have n2_ := Aside0.mk ((by rw [hg]; exact (below_size (by repeat (first | (with_reducible first | exact HB.out | apply below_alloc | apply pw_below_drewN | apply below_drew1) | exact HB.out))) : w.heap.size ≤ gb234)); have n3_ := Aside0.mk ((by rw [hg]; exact (below_size (by repeat (first | (with_reducible first | exact HB.out | apply below_alloc | apply pw_below_drewN | apply below_drew1) | exact HB.out))) : w.heap.size ≤ gb234)); clear HB; have HB := n0_; have BK234 := n1_; have GW234 := n2_; have GE234 := n3_; clear n0_ n1_ n2_ n3_; clear hb hbox hg)))
  go_loopg [3, 4] k (fun kq v3 v4 w' => ∃ (x3_1 : Int) (x4_1 : Int), v3 = .int .i64 x3_1 ∧ v4 = .int .i64 x4_1 ∧ Aside0 (colophonlaw19_size.l0 kq x3_1 x4_1 l0_0 = some r) ∧ Aside0 (kq ≤ k) ∧ Aside0 (w'.heap[gb234]? = some (.cells #[(.slice A0_0 l0_0.length c0_0)] 45 (0, 0))) ∧ Aside0 (Below w.heap.size w w'))
  case atStart => exact ⟨(0), (0), (by first | rfl | (simp; done) | (simp [*]; done)), (by first | rfl | (simp; done) | (simp [*]; done)), H', ⟨Nat.le_refl _⟩, ⟨by (with_reducible repeat (first | refine blk_drewN ?_ _ | refine blk_drew ?_ | refine blk_alloc ?_ _)); exact BK234.out⟩, ⟨by repeat (first | (with_reducible first | exact HB.out | apply below_alloc | apply pw_below_drewN | apply below_drew1 | refine below_set ?_ GE234.out) | exact HB.out)⟩⟩
  case round =>
    clear H'
    try clear p2
    obtain ⟨x3_1, x4_1, rfl, rfl, HA, HK1, BK234, HB⟩ := hrel
    cases gk with
    | zero => exact absurd HA.out (by simp [colophonlaw19_size.l0])
    | succ k1 =>
      have H := HA.out
      clear HA
      simp only [colophonlaw19_size.l0] at H
      have HC3 := Aside0.mk H
      clear H
      go_upto_region 3 with (fail)
      repeat (go_quiet (fail); go_upto_region 3 with (fail))
      go_cut [14] (fun v14 wc => ∃ (kq : Nat) (x14_2 : Bool), v14 = .bool x14_2 ∧ Aside0 (colophonlaw19_size.j1 kq x3_1 x4_1 x14_2 l0_0 = some r) ∧ Aside0 (kq ≤ k1) ∧ Aside0 (wc.heap[gb234]? = some (.cells #[(.slice A0_0 l0_0.length c0_0)] 45 (0, 0))) ∧ Aside0 (Below w.heap.size w wc))
      case first =>
        have H := HC3.out
        clear HC3
        by_cases c4 : x4_1 < (l0_0.length : Int)
        · rw [if_pos c4] at H
          have c4b0 : decide (x4_1 < (l0_0.length : Int)) = true := decide_eq_true c4
          clear c4
          (first | rw [c4b0] | (simp only [i64_w, i32_w]; rw [c4b0]) | skip)
          have H' := Aside0.mk H
          clear H
          have hcz5_0 : wr.cell? ⟨gb234, 0, none⟩ = some (.slice A0_0 l0_0.length c0_0) := (blk_cell BK234.out 0).trans rfl
          have hfz5_0 := blk_frozen BK234.out 0
          go_wp2
          repeat (go_quiet (fail); try go_wp2)
          go_meet
          case rel => exact ⟨_, (decide (x3_1 ≤ 3000)), (by first | rfl | (simp; done) | (simp [*]; done)), H', ⟨by have := HK1.out; first | omega | exact Nat.le_refl _⟩, ⟨by (with_reducible repeat (first | refine blk_drewN ?_ _ | refine blk_drew ?_ | refine blk_alloc ?_ _)); exact BK234.out⟩, ⟨by repeat (first | (with_reducible first | exact HB.out | apply below_alloc | apply pw_below_drewN | apply below_drew1 | refine below_set ?_ GE234.out) | exact HB.out)⟩⟩
        · rw [if_neg c4] at H
          have c4b0 : decide (x4_1 < (l0_0.length : Int)) = false := decide_eq_false c4
          clear c4
          (first | rw [c4b0] | (simp only [i64_w, i32_w]; rw [c4b0]) | skip)
          have H' := Aside0.mk H
          clear H
          have hcz6_0 : wr.cell? ⟨gb234, 0, none⟩ = some (.slice A0_0 l0_0.length c0_0) := (blk_cell BK234.out 0).trans rfl
          have hfz6_0 := blk_frozen BK234.out 0
          go_wp2
          repeat (go_quiet (fail); try go_wp2)
          go_meet
          case rel => exact ⟨_, (false), (by first | rfl | (simp; done) | (simp [*]; done)), H', ⟨by have := HK1.out; first | omega | exact Nat.le_refl _⟩, ⟨by (with_reducible repeat (first | refine blk_drewN ?_ _ | refine blk_drew ?_ | refine blk_alloc ?_ _)); exact BK234.out⟩, ⟨by repeat (first | (with_reducible first | exact HB.out | apply below_alloc | apply pw_below_drewN | apply below_drew1 | refine below_set ?_ GE234.out) | exact HB.out)⟩⟩
      case rest =>
        clear HC3
        try clear p2
        try clear c4
        try clear c4b0
        try clear hcz5_0
        try clear hcz6_0
        try clear hfz5_0
        try clear hfz6_0
        try clear p2
        obtain ⟨kq, x14_2, rfl, HA, HJ2, BK234, HB⟩ := hcut
        cases kq with
        | zero => exact absurd HA.out (by simp [colophonlaw19_size.j1])
        | succ kj2 =>
          have H := HA.out
          clear HA
          simp only [colophonlaw19_size.j1] at H
          by_cases c7 : x14_2 = true
          · subst c7
            have H1 : (if 0 ≤ x4_1 then (if x4_1 < (l0_0.length : Int) then (colophonlaw19_size.l1 kj2 (wrap64 (x3_1 + (wrap64 ((wrap64 ((wrap64 (1 + (((rd_T78 l0_0 x4_1).f2).length : Int))) + (wrap64 ((((rd_T78 l0_0 x4_1).f0).size : Int) / 100)))) + (wrap64 ((((rd_T78 l0_0 x4_1).f1).size : Int) / 100)))))) x4_1 0 l0_0) else (none)) else (none)) = some r := by rw [if_pos rfl] at H; exact H
            clear H
            have H := H1
            clear H1
            by_cases c8 : 0 ≤ x4_1
            · rw [if_pos c8] at H
              have c8b0 : decide (0 ≤ x4_1) = true := decide_eq_true c8
              clear c8
              by_cases c9 : x4_1 < (l0_0.length : Int)
              · rw [if_pos c9] at H
                have c9b0 : decide (x4_1 < (l0_0.length : Int)) = true := decide_eq_true c9
                clear c9
                have H' := Aside0.mk H
                clear H
                have hcz10_0 : wc.cell? ⟨gb234, 0, none⟩ = some (.slice A0_0 l0_0.length c0_0) := (blk_cell BK234.out 0).trans rfl
                have hfz10_0 := blk_frozen BK234.out 0
                have p235 : 0 ≤ (x4_1 : Int) := of_decide_eq_true (by first | (with_reducible assumption) | assumption)
                have q235 : x4_1 < (l0_0.length : Int) := of_decide_eq_true (by first | (with_reducible assumption) | assumption)
                obtain ⟨ad235, A235_2, c235_2, e235, hx235_0, hx235_1, hx235_2, hx235_3, hl235_2, hi235_2⟩ := at_T78 HR0_0.out x4_1 p235 q235
                cases e235
                replace hx235_0 := (HB.out.cell (World.block_lt_of_cell? w _ hx235_0)).trans hx235_0
                replace hx235_1 := (HB.out.cell (World.block_lt_of_cell? w _ hx235_1)).trans hx235_1
                replace hx235_2 := (HB.out.cell (World.block_lt_of_cell? w _ hx235_2)).trans hx235_2
                replace hx235_3 := (HB.out.cell (World.block_lt_of_cell? w _ hx235_3)).trans hx235_3
                have HR235_2 := Aside0.mk hi235_2
                have HC235_2 := Aside0.mk hl235_2
                clear hi235_2 hl235_2
                replace p235 := eq_true p235
                replace q235 := eq_true q235
                have p236 : 0 ≤ (x4_1 : Int) := of_decide_eq_true (by first | (with_reducible assumption) | assumption)
                have q236 : x4_1 < (l0_0.length : Int) := of_decide_eq_true (by first | (with_reducible assumption) | assumption)
                obtain ⟨ad236, A236_2, c236_2, e236, hx236_0, hx236_1, hx236_2, hx236_3, hl236_2, hi236_2⟩ := at_T78 HR0_0.out x4_1 p236 q236
                obtain rfl : ad235 = ad236 := (by injection e236)
                replace hx236_0 := (HB.out.cell (World.block_lt_of_cell? w _ hx236_0)).trans hx236_0
                replace hx236_1 := (HB.out.cell (World.block_lt_of_cell? w _ hx236_1)).trans hx236_1
                replace hx236_2 := (HB.out.cell (World.block_lt_of_cell? w _ hx236_2)).trans hx236_2
                replace hx236_3 := (HB.out.cell (World.block_lt_of_cell? w _ hx236_3)).trans hx236_3
                have HR236_2 := Aside0.mk hi236_2
                have HC236_2 := Aside0.mk hl236_2
                clear hi236_2 hl236_2
                replace p236 := eq_true p236
                replace q236 := eq_true q236
                have ea_ := Option.some.inj (hx235_2.symm.trans hx236_2)
                injection ea_ with ea_ en_ ec_
                subst ea_
                subst ec_
                clear en_
                have p237 : 0 ≤ (x4_1 : Int) := of_decide_eq_true (by first | (with_reducible assumption) | assumption)
                have q237 : x4_1 < (l0_0.length : Int) := of_decide_eq_true (by first | (with_reducible assumption) | assumption)
                obtain ⟨ad237, A237_2, c237_2, e237, hx237_0, hx237_1, hx237_2, hx237_3, hl237_2, hi237_2⟩ := at_T78 HR0_0.out x4_1 p237 q237
                obtain rfl : ad235 = ad237 := (by injection e237)
                replace hx237_0 := (HB.out.cell (World.block_lt_of_cell? w _ hx237_0)).trans hx237_0
                replace hx237_1 := (HB.out.cell (World.block_lt_of_cell? w _ hx237_1)).trans hx237_1
                replace hx237_2 := (HB.out.cell (World.block_lt_of_cell? w _ hx237_2)).trans hx237_2
                replace hx237_3 := (HB.out.cell (World.block_lt_of_cell? w _ hx237_3)).trans hx237_3
                have HR237_2 := Aside0.mk hi237_2
                have HC237_2 := Aside0.mk hl237_2
                clear hi237_2 hl237_2
                replace p237 := eq_true p237
                replace q237 := eq_true q237
                have ea_ := Option.some.inj (hx235_2.symm.trans hx237_2)
                injection ea_ with ea_ en_ ec_
                subst ea_
                subst ec_
                clear en_
                go_wp2
                repeat (go_quiet (fail); try go_wp2)
                go_loopg [3, 5] kj2 (fun kq v3 v5 w' => ∃ (x3_3 : Int) (x5_3 : Int), v3 = .int .i64 x3_3 ∧ v5 = .int .i64 x5_3 ∧ Aside0 (colophonlaw19_size.l1 kq x3_3 x4_1 x5_3 l0_0 = some r) ∧ Aside0 (kq ≤ kj2) ∧ Aside0 (w'.heap[gb234]? = some (.cells #[(.slice (some ad235) l0_0.length c0_0)] 45 (0, 0))) ∧ Aside0 (Below w.heap.size w w'))
                case atStart => exact ⟨(wrap64 (x3_1 + (wrap64 ((wrap64 ((wrap64 (1 + (((rd_T78 l0_0 x4_1).f2).length : Int))) + (wrap64 ((((rd_T78 l0_0 x4_1).f0).size : Int) / 100)))) + (wrap64 ((((rd_T78 l0_0 x4_1).f1).size : Int) / 100)))))), (0), (by first | rfl | (simp; done) | (simp [*]; done)), (by first | rfl | (simp; done) | (simp [*]; done)), H', ⟨Nat.le_refl _⟩, ⟨by (with_reducible repeat (first | refine blk_drewN ?_ _ | refine blk_drew ?_ | refine blk_alloc ?_ _)); exact BK234.out⟩, ⟨by repeat (first | (with_reducible first | exact HB.out | apply below_alloc | apply pw_below_drewN | apply below_drew1 | refine below_set ?_ GE234.out) | exact HB.out)⟩⟩
                case round =>
                  clear H'
                  try clear c2
                  try clear p2
                  try clear q2
                  try clear hx2
                  try clear c4
                  try clear c4b0
                  try clear p6
                  try clear c7
                  try clear c8
                  try clear c8b0
                  try clear c9
                  try clear c9b0
                  try clear hcz10_0
                  try clear hcz5_0
                  try clear hcz6_0
                  try clear hfz10_0
                  try clear hfz5_0
                  try clear hfz6_0
                  try clear hx235_0
                  try clear hx235_1
                  try clear hx235_2
                  try clear hx235_3
                  try clear hx236_0
                  try clear hx236_1
                  try clear hx236_2
                  try clear hx236_3
                  try clear hx237_0
                  try clear hx237_1
                  try clear hx237_2
                  try clear hx237_3
                  try clear p2
                  try clear p235
                  try clear p236
                  try clear p237
                  try clear q235
                  try clear q236
                  try clear q237
                  obtain ⟨x3_3, x5_3, rfl, rfl, HA, HK3, BK234, HB⟩ := hrel
                  cases gk with
                  | zero => exact absurd HA.out (by simp [colophonlaw19_size.l1])
                  | succ k3 =>
                    have H := HA.out
                    clear HA
                    simp only [colophonlaw19_size.l1] at H
                    by_cases c11 : 0 ≤ x4_1
                    · rw [if_pos c11] at H
                      have c11b0 : decide (0 ≤ x4_1) = true := decide_eq_true c11
                      clear c11
                      by_cases c12 : x4_1 < (l0_0.length : Int)
                      · rw [if_pos c12] at H
                        have c12b0 : decide (x4_1 < (l0_0.length : Int)) = true := decide_eq_true c12
                        clear c12
                        by_cases c13 : x5_3 < (((rd_T78 l0_0 x4_1).f2).length : Int)
                        · rw [if_pos c13] at H
                          have c13b0 : decide (x5_3 < (((rd_T78 l0_0 x4_1).f2).length : Int)) = true := decide_eq_true c13
                          clear c13
                          by_cases c14 : x5_3 < 40
                          · rw [if_pos c14] at H
                            have c14b0 : decide (x5_3 < 40) = true := decide_eq_true c14
                            clear c14
                            by_cases c15 : 0 ≤ x5_3
                            · rw [if_pos c15] at H
                              have c15b0 : decide (0 ≤ x5_3) = true := decide_eq_true c15
                              clear c15
                              have H' := Aside0.mk H
                              clear H
                              have hcz16_0 : wr.cell? ⟨gb234, 0, none⟩ = some (.slice (some ad235) l0_0.length c0_0) := (blk_cell BK234.out 0).trans rfl
                              have hfz16_0 := blk_frozen BK234.out 0
                              have p238 : 0 ≤ (x4_1 : Int) := of_decide_eq_true (by first | (with_reducible assumption) | assumption)
                              have q238 : x4_1 < (l0_0.length : Int) := of_decide_eq_true (by first | (with_reducible assumption) | assumption)
                              obtain ⟨ad238, A238_2, c238_2, e238, hx238_0, hx238_1, hx238_2, hx238_3, hl238_2, hi238_2⟩ := at_T78 HR0_0.out x4_1 p238 q238
                              obtain rfl : ad235 = ad238 := (by injection e238)
                              replace hx238_0 := (HB.out.cell (World.block_lt_of_cell? w _ hx238_0)).trans hx238_0
                              replace hx238_1 := (HB.out.cell (World.block_lt_of_cell? w _ hx238_1)).trans hx238_1
                              replace hx238_2 := (HB.out.cell (World.block_lt_of_cell? w _ hx238_2)).trans hx238_2
                              replace hx238_3 := (HB.out.cell (World.block_lt_of_cell? w _ hx238_3)).trans hx238_3
                              have HR238_2 := Aside0.mk hi238_2
                              have HC238_2 := Aside0.mk hl238_2
                              clear hi238_2 hl238_2
                              replace p238 := eq_true p238
                              replace q238 := eq_true q238
                              have p239 : 0 ≤ (x4_1 : Int) := of_decide_eq_true (by first | (with_reducible assumption) | assumption)
                              have q239 : x4_1 < (l0_0.length : Int) := of_decide_eq_true (by first | (with_reducible assumption) | assumption)
                              obtain ⟨ad239, A239_2, c239_2, e239, hx239_0, hx239_1, hx239_2, hx239_3, hl239_2, hi239_2⟩ := at_T78 HR0_0.out x4_1 p239 q239
                              obtain rfl : ad235 = ad239 := (by injection e239)
                              replace hx239_0 := (HB.out.cell (World.block_lt_of_cell? w _ hx239_0)).trans hx239_0
                              replace hx239_1 := (HB.out.cell (World.block_lt_of_cell? w _ hx239_1)).trans hx239_1
                              replace hx239_2 := (HB.out.cell (World.block_lt_of_cell? w _ hx239_2)).trans hx239_2
                              replace hx239_3 := (HB.out.cell (World.block_lt_of_cell? w _ hx239_3)).trans hx239_3
                              have HR239_2 := Aside0.mk hi239_2
                              have HC239_2 := Aside0.mk hl239_2
                              clear hi239_2 hl239_2
                              replace p239 := eq_true p239
                              replace q239 := eq_true q239
                              have ea_ := Option.some.inj (hx238_2.symm.trans hx239_2)
                              injection ea_ with ea_ en_ ec_
                              subst ea_
                              subst ec_
                              clear en_
                              have p240 : 0 ≤ (x5_3 : Int) := of_decide_eq_true (by first | (with_reducible assumption) | assumption)
                              have q240 : x5_3 < (((rd_T78 l0_0 x4_1).f2).length : Int) := of_decide_eq_true (by first | (with_reducible assumption) | assumption)
                              obtain ⟨ad240, e240, hx240_0⟩ := Kd.at_string HR239_2.out x5_3 p240 q240
                              cases e240
                              replace hx240_0 := (HB.out.cell (World.block_lt_of_cell? w _ hx240_0)).trans hx240_0
                              replace p240 := eq_true p240
                              replace q240 := eq_true q240
                              go_wp2
                              repeat (go_quiet (fail); try go_wp2)
                              go_roundg k3
                              case measure => have := HK1.out; have := HJ2.out; have := HK3.out; omega
                              case rel => exact ⟨(wrap64 (x3_3 + (wrap64 (((rdOf ByteArray.empty ((rd_T78 l0_0 x4_1).f2) x5_3).size : Int) / 100)))), (wrap64 (x5_3 + 1)), (by first | rfl | (simp; done) | (simp [*]; done)), (by first | rfl | (simp; done) | (simp [*]; done)), H', ⟨by have := HK1.out; have := HJ2.out; have := HK3.out; omega⟩, ⟨by (with_reducible repeat (first | refine blk_drewN ?_ _ | refine blk_drew ?_ | refine blk_alloc ?_ _)); exact BK234.out⟩, ⟨by repeat (first | (with_reducible first | exact HB.out | apply below_alloc | apply pw_below_drewN | apply below_drew1 | refine below_set ?_ GE234.out) | exact HB.out)⟩⟩
                            · rw [if_neg c15] at H
                              exact absurd H (by simp)
                          · rw [if_neg c14] at H
                            have c14b0 : decide (x5_3 < 40) = false := decide_eq_false c14
                            clear c14
                            have H' := Aside0.mk H
                            clear H
                            have hcz17_0 : wr.cell? ⟨gb234, 0, none⟩ = some (.slice (some ad235) l0_0.length c0_0) := (blk_cell BK234.out 0).trans rfl
                            have hfz17_0 := blk_frozen BK234.out 0
                            have p238 : 0 ≤ (x4_1 : Int) := of_decide_eq_true (by first | (with_reducible assumption) | assumption)
                            have q238 : x4_1 < (l0_0.length : Int) := of_decide_eq_true (by first | (with_reducible assumption) | assumption)
                            obtain ⟨ad238, A238_2, c238_2, e238, hx238_0, hx238_1, hx238_2, hx238_3, hl238_2, hi238_2⟩ := at_T78 HR0_0.out x4_1 p238 q238
                            obtain rfl : ad235 = ad238 := (by injection e238)
                            replace hx238_0 := (HB.out.cell (World.block_lt_of_cell? w _ hx238_0)).trans hx238_0
                            replace hx238_1 := (HB.out.cell (World.block_lt_of_cell? w _ hx238_1)).trans hx238_1
                            replace hx238_2 := (HB.out.cell (World.block_lt_of_cell? w _ hx238_2)).trans hx238_2
                            replace hx238_3 := (HB.out.cell (World.block_lt_of_cell? w _ hx238_3)).trans hx238_3
                            have HR238_2 := Aside0.mk hi238_2
                            have HC238_2 := Aside0.mk hl238_2
                            clear hi238_2 hl238_2
                            replace p238 := eq_true p238
                            replace q238 := eq_true q238
                            go_wp2
                            repeat (go_quiet (fail); try go_wp2)
                            go_roundg k3
                            case measure => have := HK1.out; have := HJ2.out; have := HK3.out; omega
                            case rel => exact ⟨(x3_3), (wrap64 (x4_1 + 1)), (by first | rfl | (simp; done) | (simp [*]; done)), (by first | rfl | (simp; done) | (simp [*]; done)), H', ⟨by have := HK1.out; have := HJ2.out; have := HK3.out; omega⟩, ⟨by (with_reducible repeat (first | refine blk_drewN ?_ _ | refine blk_drew ?_ | refine blk_alloc ?_ _)); exact BK234.out⟩, ⟨by repeat (first | (with_reducible first | exact HB.out | apply below_alloc | apply pw_below_drewN | apply below_drew1 | refine below_set ?_ GE234.out) | exact HB.out)⟩⟩
                        · rw [if_neg c13] at H
                          have c13b0 : decide (x5_3 < (((rd_T78 l0_0 x4_1).f2).length : Int)) = false := decide_eq_false c13
                          clear c13
                          have H' := Aside0.mk H
                          clear H
                          have hcz18_0 : wr.cell? ⟨gb234, 0, none⟩ = some (.slice (some ad235) l0_0.length c0_0) := (blk_cell BK234.out 0).trans rfl
                          have hfz18_0 := blk_frozen BK234.out 0
                          have p238 : 0 ≤ (x4_1 : Int) := of_decide_eq_true (by first | (with_reducible assumption) | assumption)
                          have q238 : x4_1 < (l0_0.length : Int) := of_decide_eq_true (by first | (with_reducible assumption) | assumption)
                          obtain ⟨ad238, A238_2, c238_2, e238, hx238_0, hx238_1, hx238_2, hx238_3, hl238_2, hi238_2⟩ := at_T78 HR0_0.out x4_1 p238 q238
                          obtain rfl : ad235 = ad238 := (by injection e238)
                          replace hx238_0 := (HB.out.cell (World.block_lt_of_cell? w _ hx238_0)).trans hx238_0
                          replace hx238_1 := (HB.out.cell (World.block_lt_of_cell? w _ hx238_1)).trans hx238_1
                          replace hx238_2 := (HB.out.cell (World.block_lt_of_cell? w _ hx238_2)).trans hx238_2
                          replace hx238_3 := (HB.out.cell (World.block_lt_of_cell? w _ hx238_3)).trans hx238_3
                          have HR238_2 := Aside0.mk hi238_2
                          have HC238_2 := Aside0.mk hl238_2
                          clear hi238_2 hl238_2
                          replace p238 := eq_true p238
                          replace q238 := eq_true q238
                          go_wp2
                          repeat (go_quiet (fail); try go_wp2)
                          go_roundg k3
                          case measure => have := HK1.out; have := HJ2.out; have := HK3.out; omega
                          case rel => exact ⟨(x3_3), (wrap64 (x4_1 + 1)), (by first | rfl | (simp; done) | (simp [*]; done)), (by first | rfl | (simp; done) | (simp [*]; done)), H', ⟨by have := HK1.out; have := HJ2.out; have := HK3.out; omega⟩, ⟨by (with_reducible repeat (first | refine blk_drewN ?_ _ | refine blk_drew ?_ | refine blk_alloc ?_ _)); exact BK234.out⟩, ⟨by repeat (first | (with_reducible first | exact HB.out | apply below_alloc | apply pw_below_drewN | apply below_drew1 | refine below_set ?_ GE234.out) | exact HB.out)⟩⟩
                      · rw [if_neg c12] at H
                        exact absurd H (by simp)
                    · rw [if_neg c11] at H
                      exact absurd H (by simp)
              · rw [if_neg c9] at H
                exact absurd H (by simp)
            · rw [if_neg c8] at H
              exact absurd H (by simp)
          · replace c7 := Bool.eq_false_iff.mpr c7
            subst c7
            have H1 : (some x3_1) = some r := by rw [if_neg (show ¬ (false = true) by decide)] at H; exact H
            clear H
            have H := H1
            clear H1
            obtain rfl := Option.some.inj H
            go_wp2
            repeat (go_quiet (fail); try go_wp2)
            go_ret
            exact ⟨by first | rfl | (simp [errW_none, errW_some] <;> rfl) | (simp [*, errW_none, errW_some] <;> rfl), by repeat (first | (with_reducible first | exact HB.out | apply below_alloc | apply pw_below_drewN | apply below_drew1 | refine below_set ?_ GE234.out) | exact HB.out)⟩

/-! ### colophonlaw19_Large: function 27 -/
mutual
def colophonlaw19_Large.l0 : Nat → List (S41) → Int → Int → Option (Bool)
  | 0, _, _, _ => none
  | k + 1, x0, x3, x4 => if x4 < (x0.length : Int) then (colophonlaw19_Large.j1 k x0 x3 x4 (decide (x3 ≤ 3000))) else (colophonlaw19_Large.j1 k x0 x3 x4 false)
def colophonlaw19_Large.j1 : Nat → List (S41) → Int → Int → Bool → Option (Bool)
  | 0, _, _, _, _ => none
  | k + 1, x0, x3, x4, x13 => if x13 = true then (if 0 ≤ x4 then (if x4 < (x0.length : Int) then (colophonlaw19_Large.l1 k x0 (wrap64 (x3 + (wrap64 (1 + (((rd_T41 x0 x4).f1).length : Int))))) x4 0) else (none)) else (none)) else (some (decide (x3 > 3000)))
def colophonlaw19_Large.l1 : Nat → List (S41) → Int → Int → Int → Option (Bool)
  | 0, _, _, _, _ => none
  | k + 1, x0, x3, x4, x5 => if 0 ≤ x4 then (if x4 < (x0.length : Int) then (if x5 < (((rd_T41 x0 x4).f0).length : Int) then (if x3 ≤ 3000 then (if 0 ≤ x5 then ((colophonlaw19_size.f k ((rd_T45 ((rd_T41 x0 x4).f0) x5).f0)).bind fun t245 => (colophonlaw19_Large.l1 k x0 (wrap64 (x3 + (wrap64 (1 + t245)))) x4 (wrap64 (x5 + 1)))) else (none)) else (colophonlaw19_Large.l0 k x0 x3 (wrap64 (x4 + 1)))) else (colophonlaw19_Large.l0 k x0 x3 (wrap64 (x4 + 1)))) else (none)) else (none)
end
def colophonlaw19_Large.f (k : Nat) (l0 : List (S41)) : Option (Bool) := colophonlaw19_Large.l0 k l0 0 0
theorem colophonlaw19_Large.mono_l : ∀ k, (∀ y0 y1 y2, LeO (colophonlaw19_Large.l0 k y0 y1 y2) (colophonlaw19_Large.l0 (k + 1) y0 y1 y2)) ∧ (∀ y0 y1 y2 y3, LeO (colophonlaw19_Large.j1 k y0 y1 y2 y3) (colophonlaw19_Large.j1 (k + 1) y0 y1 y2 y3)) ∧ (∀ y0 y1 y2 y3, LeO (colophonlaw19_Large.l1 k y0 y1 y2 y3) (colophonlaw19_Large.l1 (k + 1) y0 y1 y2 y3))
  | 0 => ⟨fun _ _ _ r h => by simp [colophonlaw19_Large.l0] at h, fun _ _ _ _ r h => by simp [colophonlaw19_Large.j1] at h, fun _ _ _ _ r h => by simp [colophonlaw19_Large.l1] at h⟩
  | k + 1 => by
    obtain ⟨ih0, ih1, ih2⟩ := colophonlaw19_Large.mono_l k
    refine ⟨?_, ?_, ?_⟩
    · intro y0 y1 y2
      unfold colophonlaw19_Large.l0
      repeat' first
      | (with_reducible exact ih0 _ _ _)
      | (with_reducible exact ih1 _ _ _ _)
      | (with_reducible exact ih2 _ _ _ _)
      | (with_reducible exact colophonlaw19_size.mono _ _)
      | (with_reducible exact LeO.refl _)
      | (with_reducible exact LeO.none _)
      | (with_reducible refine LeO.ite ?_ ?_)
      | (with_reducible refine LeO.bind ?_ (fun _ => ?_))
      | exact ih0 _ _ _
      | exact ih1 _ _ _ _
      | exact ih2 _ _ _ _
      | exact colophonlaw19_size.mono _ _
      | exact LeO.none _
      | refine LeO.ite ?_ ?_
      | refine LeO.bind ?_ (fun _ => ?_)
    · intro y0 y1 y2 y3
      unfold colophonlaw19_Large.j1
      repeat' first
      | (with_reducible exact ih0 _ _ _)
      | (with_reducible exact ih1 _ _ _ _)
      | (with_reducible exact ih2 _ _ _ _)
      | (with_reducible exact colophonlaw19_size.mono _ _)
      | (with_reducible exact LeO.refl _)
      | (with_reducible exact LeO.none _)
      | (with_reducible refine LeO.ite ?_ ?_)
      | (with_reducible refine LeO.bind ?_ (fun _ => ?_))
      | exact ih0 _ _ _
      | exact ih1 _ _ _ _
      | exact ih2 _ _ _ _
      | exact colophonlaw19_size.mono _ _
      | exact LeO.none _
      | refine LeO.ite ?_ ?_
      | refine LeO.bind ?_ (fun _ => ?_)
    · intro y0 y1 y2 y3
      unfold colophonlaw19_Large.l1
      repeat' first
      | (with_reducible exact ih0 _ _ _)
      | (with_reducible exact ih1 _ _ _ _)
      | (with_reducible exact ih2 _ _ _ _)
      | (with_reducible exact colophonlaw19_size.mono _ _)
      | (with_reducible exact LeO.refl _)
      | (with_reducible exact LeO.none _)
      | (with_reducible refine LeO.ite ?_ ?_)
      | (with_reducible refine LeO.bind ?_ (fun _ => ?_))
      | exact ih0 _ _ _
      | exact ih1 _ _ _ _
      | exact ih2 _ _ _ _
      | exact colophonlaw19_size.mono _ _
      | exact LeO.none _
      | refine LeO.ite ?_ ?_
      | refine LeO.bind ?_ (fun _ => ?_)
theorem colophonlaw19_Large.mono : ∀ a0 k, LeO (colophonlaw19_Large.f k a0) (colophonlaw19_Large.f (k + 1) a0) := by
  intro a0 k
  obtain ⟨ih0, ih1, ih2⟩ := colophonlaw19_Large.mono_l k
  unfold colophonlaw19_Large.f
  repeat' first
      | (with_reducible exact ih0 _ _ _)
      | (with_reducible exact ih1 _ _ _ _)
      | (with_reducible exact ih2 _ _ _ _)
      | (with_reducible exact colophonlaw19_size.mono _ _)
      | (with_reducible exact LeO.refl _)
      | (with_reducible exact LeO.none _)
      | (with_reducible refine LeO.ite ?_ ?_)
      | (with_reducible refine LeO.bind ?_ (fun _ => ?_))
      | exact ih0 _ _ _
      | exact ih1 _ _ _ _
      | exact ih2 _ _ _ _
      | exact colophonlaw19_size.mono _ _
      | exact LeO.none _
      | refine LeO.ite ?_ ?_
      | refine LeO.bind ?_ (fun _ => ?_)
set_option maxHeartbeats 8000000 in
set_option maxRecDepth 100000 in
theorem colophonlaw19_Large.calls (k : Nat) (A0 : Option Addr) (c0 : Nat) (l0 : List (S41)) (r : Bool) (w : World) (hr0 : Kd.C k41 w A0 l0.length l0) (hc0 : l0.length ≤ c0) (h : colophonlaw19_Large.f k l0 = some r) :
    Calls Try.prog 27 #[.slice A0 l0.length c0] w fun e w' => e = .returned (.bool r) ∧ Below w.heap.size w w' := by
  have hu45 := Try.underlying45
  have HR0 := Aside0.mk hr0
  have HC0 := Aside0.mk hc0
  clear hr0 hc0
  have HB := Aside0.mk (Below.refl w.heap.size w)
  have H : (colophonlaw19_Large.l0 k l0 0 0) = some r := h
  clear h
  have H' := Aside0.mk H
  clear H
  go_enter Try.func27, Try.ntmps27
  go_wp2
  go_loopg [3, 4] k (fun kq v3 v4 w' => ∃ (x3_1 : Int) (x4_1 : Int), v3 = .int .i64 x3_1 ∧ v4 = .int .i64 x4_1 ∧ Aside0 (colophonlaw19_Large.l0 kq l0 x3_1 x4_1 = some r) ∧ Aside0 (kq ≤ k) ∧ Aside0 (Below w.heap.size w w'))
  case atStart => exact ⟨(0), (0), (by first | rfl | (simp; done) | (simp [*]; done)), (by first | rfl | (simp; done) | (simp [*]; done)), H', ⟨Nat.le_refl _⟩, ⟨by repeat (first | (with_reducible first | exact HB.out | apply below_alloc | apply pw_below_drewN | apply below_drew1) | exact HB.out)⟩⟩
  case round =>
    clear H'
    obtain ⟨x3_1, x4_1, rfl, rfl, HA, HK1, HB⟩ := hrel
    cases gk with
    | zero => exact absurd HA.out (by simp [colophonlaw19_Large.l0])
    | succ k1 =>
      have H := HA.out
      clear HA
      simp only [colophonlaw19_Large.l0] at H
      have HC2 := Aside0.mk H
      clear H
      go_upto_region 3 with (fail)
      go_cut [13] (fun v13 wc => ∃ (kq : Nat) (x13_1 : Bool), v13 = .bool x13_1 ∧ Aside0 (colophonlaw19_Large.j1 kq l0 x3_1 x4_1 x13_1 = some r) ∧ Aside0 (kq ≤ k1) ∧ Aside0 (Below w.heap.size w wc))
      case first =>
        have H := HC2.out
        clear HC2
        by_cases c3 : x4_1 < (l0.length : Int)
        · rw [if_pos c3] at H
          have c3b0 : decide (x4_1 < (l0.length : Int)) = true := decide_eq_true c3
          clear c3
          (first | rw [c3b0] | (simp only [i64_w, i32_w]; rw [c3b0]) | skip)
          have H' := Aside0.mk H
          clear H
          go_wp2
          go_meet
          case rel => exact ⟨_, (decide (x3_1 ≤ 3000)), (by first | rfl | (simp; done) | (simp [*]; done)), H', ⟨by have := HK1.out; first | omega | exact Nat.le_refl _⟩, ⟨by repeat (first | (with_reducible first | exact HB.out | apply below_alloc | apply pw_below_drewN | apply below_drew1) | exact HB.out)⟩⟩
        · rw [if_neg c3] at H
          have c3b0 : decide (x4_1 < (l0.length : Int)) = false := decide_eq_false c3
          clear c3
          (first | rw [c3b0] | (simp only [i64_w, i32_w]; rw [c3b0]) | skip)
          have H' := Aside0.mk H
          clear H
          go_wp2
          go_meet
          case rel => exact ⟨_, (false), (by first | rfl | (simp; done) | (simp [*]; done)), H', ⟨by have := HK1.out; first | omega | exact Nat.le_refl _⟩, ⟨by repeat (first | (with_reducible first | exact HB.out | apply below_alloc | apply pw_below_drewN | apply below_drew1) | exact HB.out)⟩⟩
      case rest =>
        clear HC2
        try clear c2
        try clear p2
        try clear c3
        try clear c3b0
        obtain ⟨kq, x13_1, rfl, HA, HJ1, HB⟩ := hcut
        cases kq with
        | zero => exact absurd HA.out (by simp [colophonlaw19_Large.j1])
        | succ kj1 =>
          have H := HA.out
          clear HA
          simp only [colophonlaw19_Large.j1] at H
          by_cases c4 : x13_1 = true
          · subst c4
            have H1 : (if 0 ≤ x4_1 then (if x4_1 < (l0.length : Int) then (colophonlaw19_Large.l1 kj1 l0 (wrap64 (x3_1 + (wrap64 (1 + (((rd_T41 l0 x4_1).f1).length : Int))))) x4_1 0) else (none)) else (none)) = some r := by rw [if_pos rfl] at H; exact H
            clear H
            have H := H1
            clear H1
            by_cases c5 : 0 ≤ x4_1
            · rw [if_pos c5] at H
              have c5b0 : decide (0 ≤ x4_1) = true := decide_eq_true c5
              clear c5
              by_cases c6 : x4_1 < (l0.length : Int)
              · rw [if_pos c6] at H
                have c6b0 : decide (x4_1 < (l0.length : Int)) = true := decide_eq_true c6
                clear c6
                have H' := Aside0.mk H
                clear H
                have p241 : 0 ≤ (x4_1 : Int) := of_decide_eq_true (by first | (with_reducible assumption) | assumption)
                have q241 : x4_1 < (l0.length : Int) := of_decide_eq_true (by first | (with_reducible assumption) | assumption)
                obtain ⟨ad241, A241_0, c241_0, A241_1, c241_1, e241, hx241_0, hx241_1, hl241_0, hi241_0, hl241_1, hi241_1⟩ := at_T41 HR0.out x4_1 p241 q241
                cases e241
                replace hx241_0 := (HB.out.cell (World.block_lt_of_cell? w _ hx241_0)).trans hx241_0
                replace hx241_1 := (HB.out.cell (World.block_lt_of_cell? w _ hx241_1)).trans hx241_1
                have HR241_0 := Aside0.mk hi241_0
                have HC241_0 := Aside0.mk hl241_0
                clear hi241_0 hl241_0
                have HR241_1 := Aside0.mk hi241_1
                have HC241_1 := Aside0.mk hl241_1
                clear hi241_1 hl241_1
                replace p241 := eq_true p241
                replace q241 := eq_true q241
                go_wp2
                go_loopg [3, 5] kj1 (fun kq v3 v5 w' => ∃ (x3_3 : Int) (x5_3 : Int), v3 = .int .i64 x3_3 ∧ v5 = .int .i64 x5_3 ∧ Aside0 (colophonlaw19_Large.l1 kq l0 x3_3 x4_1 x5_3 = some r) ∧ Aside0 (kq ≤ kj1) ∧ Aside0 (Below w.heap.size w w'))
                case atStart => exact ⟨(wrap64 (x3_1 + (wrap64 (1 + (((rd_T41 l0 x4_1).f1).length : Int))))), (0), (by first | rfl | (simp; done) | (simp [*]; done)), (by first | rfl | (simp; done) | (simp [*]; done)), H', ⟨Nat.le_refl _⟩, ⟨by repeat (first | (with_reducible first | exact HB.out | apply below_alloc | apply pw_below_drewN | apply below_drew1) | exact HB.out)⟩⟩
                case round =>
                  clear H'
                  try clear c2
                  try clear p2
                  try clear q2
                  try clear hx2
                  try clear c3
                  try clear c3b0
                  try clear c4
                  try clear c5
                  try clear c5b0
                  try clear c6
                  try clear c6b0
                  try clear p6
                  try clear hx241_0
                  try clear hx241_1
                  try clear p2
                  try clear p241
                  try clear q241
                  obtain ⟨x3_3, x5_3, rfl, rfl, HA, HK3, HB⟩ := hrel
                  cases gk with
                  | zero => exact absurd HA.out (by simp [colophonlaw19_Large.l1])
                  | succ k3 =>
                    have H := HA.out
                    clear HA
                    simp only [colophonlaw19_Large.l1] at H
                    by_cases c7 : 0 ≤ x4_1
                    · rw [if_pos c7] at H
                      have c7b0 : decide (0 ≤ x4_1) = true := decide_eq_true c7
                      clear c7
                      by_cases c8 : x4_1 < (l0.length : Int)
                      · rw [if_pos c8] at H
                        have c8b0 : decide (x4_1 < (l0.length : Int)) = true := decide_eq_true c8
                        clear c8
                        by_cases c9 : x5_3 < (((rd_T41 l0 x4_1).f0).length : Int)
                        · rw [if_pos c9] at H
                          have c9b0 : decide (x5_3 < (((rd_T41 l0 x4_1).f0).length : Int)) = true := decide_eq_true c9
                          clear c9
                          by_cases c10 : x3_3 ≤ 3000
                          · rw [if_pos c10] at H
                            have c10b0 : decide (x3_3 ≤ 3000) = true := decide_eq_true c10
                            clear c10
                            by_cases c11 : 0 ≤ x5_3
                            · rw [if_pos c11] at H
                              have c11b0 : decide (0 ≤ x5_3) = true := decide_eq_true c11
                              clear c11
                              replace H := Option.bind_eq_some_iff.mp H
                              obtain ⟨t245, A120, H⟩ := H
                              replace H : (colophonlaw19_Large.l1 k3 l0 (wrap64 (x3_3 + (wrap64 (1 + t245)))) x4_1 (wrap64 (x5_3 + 1))) = some r := H
                              have A12 := Aside0.mk A120
                              clear A120
                              have H' := Aside0.mk H
                              clear H
                              have p242 : 0 ≤ (x4_1 : Int) := of_decide_eq_true (by first | (with_reducible assumption) | assumption)
                              have q242 : x4_1 < (l0.length : Int) := of_decide_eq_true (by first | (with_reducible assumption) | assumption)
                              obtain ⟨ad242, A242_0, c242_0, A242_1, c242_1, e242, hx242_0, hx242_1, hl242_0, hi242_0, hl242_1, hi242_1⟩ := at_T41 HR0.out x4_1 p242 q242
                              obtain rfl : ad241 = ad242 := (by injection e242)
                              replace hx242_0 := (HB.out.cell (World.block_lt_of_cell? w _ hx242_0)).trans hx242_0
                              replace hx242_1 := (HB.out.cell (World.block_lt_of_cell? w _ hx242_1)).trans hx242_1
                              have HR242_0 := Aside0.mk hi242_0
                              have HC242_0 := Aside0.mk hl242_0
                              clear hi242_0 hl242_0
                              have HR242_1 := Aside0.mk hi242_1
                              have HC242_1 := Aside0.mk hl242_1
                              clear hi242_1 hl242_1
                              replace p242 := eq_true p242
                              replace q242 := eq_true q242
                              have p243 : 0 ≤ (x4_1 : Int) := of_decide_eq_true (by first | (with_reducible assumption) | assumption)
                              have q243 : x4_1 < (l0.length : Int) := of_decide_eq_true (by first | (with_reducible assumption) | assumption)
                              obtain ⟨ad243, A243_0, c243_0, A243_1, c243_1, e243, hx243_0, hx243_1, hl243_0, hi243_0, hl243_1, hi243_1⟩ := at_T41 HR0.out x4_1 p243 q243
                              obtain rfl : ad241 = ad243 := (by injection e243)
                              replace hx243_0 := (HB.out.cell (World.block_lt_of_cell? w _ hx243_0)).trans hx243_0
                              replace hx243_1 := (HB.out.cell (World.block_lt_of_cell? w _ hx243_1)).trans hx243_1
                              have HR243_0 := Aside0.mk hi243_0
                              have HC243_0 := Aside0.mk hl243_0
                              clear hi243_0 hl243_0
                              have HR243_1 := Aside0.mk hi243_1
                              have HC243_1 := Aside0.mk hl243_1
                              clear hi243_1 hl243_1
                              replace p243 := eq_true p243
                              replace q243 := eq_true q243
                              have ea_ := Option.some.inj (hx242_0.symm.trans hx243_0)
                              injection ea_ with ea_ en_ ec_
                              subst ea_
                              subst ec_
                              clear en_
                              have ea_ := Option.some.inj (hx242_1.symm.trans hx243_1)
                              injection ea_ with ea_ en_ ec_
                              subst ea_
                              subst ec_
                              clear en_
                              have p244 : 0 ≤ (x5_3 : Int) := of_decide_eq_true (by first | (with_reducible assumption) | assumption)
                              have q244 : x5_3 < (((rd_T41 l0 x4_1).f0).length : Int) := of_decide_eq_true (by first | (with_reducible assumption) | assumption)
                              obtain ⟨ad244, A244_0, c244_0, e244, hx244_0, hl244_0, hi244_0⟩ := at_T45 HR243_0.out x5_3 p244 q244
                              cases e244
                              replace hx244_0 := (HB.out.cell (World.block_lt_of_cell? w _ hx244_0)).trans hx244_0
                              have HR244_0 := Aside0.mk hi244_0
                              have HC244_0 := Aside0.mk hl244_0
                              clear hi244_0 hl244_0
                              replace p244 := eq_true p244
                              replace q244 := eq_true q244
                              go_wp2_with (first | ((with_reducible refine gate_callee (f := 46) rfl ?_); refine goesL_ (some 48) rfl rfl Try.func46 (by kernel_rfl) rfl #[.agg #[.slice A244_0 ((rd_T45 ((rd_T41 l0 x4_1).f0) x5_3).f0).length c244_0]] rfl (by (try simp only [List.map_toArray, List.map_cons, List.map_nil]); first | done | rfl | (simp only [List.length_drop, List.length_take]; rfl)) ?_; (with_reducible refine (colophonlaw19_size.calls k3 _ _ ((rd_T45 ((rd_T41 l0 x4_1).f0) x5_3).f0) t245 _ ?side1 ?side2 A12.out).mono ?_); (case side1 => repeat (first | exact (Kd.C_below HR244_0.out HB.out) | (with_reducible refine Kd.C_alloc ?_ _) | (with_reducible refine Kd.C_drewN ?_ _) | (with_reducible refine Kd.C_drew ?_))); (case side2 => exact HC244_0.out); rintro e w13 ⟨rfl, hb⟩; refine ⟨_, rfl, ?_⟩; have n0_ := Aside0.mk (below_step (by repeat (first | (with_reducible first | exact HB.out | apply below_alloc | apply pw_below_drewN | apply below_drew1) | exact HB.out)) hb); clear HB; have HB := n0_; clear n0_; (try clear hb); (try clear hb2); (try clear hk); (try clear hi)))
                              go_roundg k3
                              case measure => have := HK1.out; have := HJ1.out; have := HK3.out; omega
                              case rel => exact ⟨(wrap64 (x3_3 + (wrap64 (1 + t245)))), (wrap64 (x5_3 + 1)), (by first | rfl | (simp; done) | (simp [*]; done)), (by first | rfl | (simp; done) | (simp [*]; done)), H', ⟨by have := HK1.out; have := HJ1.out; have := HK3.out; omega⟩, ⟨by repeat (first | (with_reducible first | exact HB.out | apply below_alloc | apply pw_below_drewN | apply below_drew1) | exact HB.out)⟩⟩
                            · rw [if_neg c11] at H
                              exact absurd H (by simp)
                          · rw [if_neg c10] at H
                            have c10b0 : decide (x3_3 ≤ 3000) = false := decide_eq_false c10
                            clear c10
                            have H' := Aside0.mk H
                            clear H
                            have p242 : 0 ≤ (x4_1 : Int) := of_decide_eq_true (by first | (with_reducible assumption) | assumption)
                            have q242 : x4_1 < (l0.length : Int) := of_decide_eq_true (by first | (with_reducible assumption) | assumption)
                            obtain ⟨ad242, A242_0, c242_0, A242_1, c242_1, e242, hx242_0, hx242_1, hl242_0, hi242_0, hl242_1, hi242_1⟩ := at_T41 HR0.out x4_1 p242 q242
                            obtain rfl : ad241 = ad242 := (by injection e242)
                            replace hx242_0 := (HB.out.cell (World.block_lt_of_cell? w _ hx242_0)).trans hx242_0
                            replace hx242_1 := (HB.out.cell (World.block_lt_of_cell? w _ hx242_1)).trans hx242_1
                            have HR242_0 := Aside0.mk hi242_0
                            have HC242_0 := Aside0.mk hl242_0
                            clear hi242_0 hl242_0
                            have HR242_1 := Aside0.mk hi242_1
                            have HC242_1 := Aside0.mk hl242_1
                            clear hi242_1 hl242_1
                            replace p242 := eq_true p242
                            replace q242 := eq_true q242
                            go_wp2
                            go_roundg k3
                            case measure => have := HK1.out; have := HJ1.out; have := HK3.out; omega
                            case rel => exact ⟨(x3_3), (wrap64 (x4_1 + 1)), (by first | rfl | (simp; done) | (simp [*]; done)), (by first | rfl | (simp; done) | (simp [*]; done)), H', ⟨by have := HK1.out; have := HJ1.out; have := HK3.out; omega⟩, ⟨by repeat (first | (with_reducible first | exact HB.out | apply below_alloc | apply pw_below_drewN | apply below_drew1) | exact HB.out)⟩⟩
                        · rw [if_neg c9] at H
                          have c9b0 : decide (x5_3 < (((rd_T41 l0 x4_1).f0).length : Int)) = false := decide_eq_false c9
                          clear c9
                          have H' := Aside0.mk H
                          clear H
                          have p242 : 0 ≤ (x4_1 : Int) := of_decide_eq_true (by first | (with_reducible assumption) | assumption)
                          have q242 : x4_1 < (l0.length : Int) := of_decide_eq_true (by first | (with_reducible assumption) | assumption)
                          obtain ⟨ad242, A242_0, c242_0, A242_1, c242_1, e242, hx242_0, hx242_1, hl242_0, hi242_0, hl242_1, hi242_1⟩ := at_T41 HR0.out x4_1 p242 q242
                          obtain rfl : ad241 = ad242 := (by injection e242)
                          replace hx242_0 := (HB.out.cell (World.block_lt_of_cell? w _ hx242_0)).trans hx242_0
                          replace hx242_1 := (HB.out.cell (World.block_lt_of_cell? w _ hx242_1)).trans hx242_1
                          have HR242_0 := Aside0.mk hi242_0
                          have HC242_0 := Aside0.mk hl242_0
                          clear hi242_0 hl242_0
                          have HR242_1 := Aside0.mk hi242_1
                          have HC242_1 := Aside0.mk hl242_1
                          clear hi242_1 hl242_1
                          replace p242 := eq_true p242
                          replace q242 := eq_true q242
                          go_wp2
                          go_roundg k3
                          case measure => have := HK1.out; have := HJ1.out; have := HK3.out; omega
                          case rel => exact ⟨(x3_3), (wrap64 (x4_1 + 1)), (by first | rfl | (simp; done) | (simp [*]; done)), (by first | rfl | (simp; done) | (simp [*]; done)), H', ⟨by have := HK1.out; have := HJ1.out; have := HK3.out; omega⟩, ⟨by repeat (first | (with_reducible first | exact HB.out | apply below_alloc | apply pw_below_drewN | apply below_drew1) | exact HB.out)⟩⟩
                      · rw [if_neg c8] at H
                        exact absurd H (by simp)
                    · rw [if_neg c7] at H
                      exact absurd H (by simp)
              · rw [if_neg c6] at H
                exact absurd H (by simp)
            · rw [if_neg c5] at H
              exact absurd H (by simp)
          · replace c4 := Bool.eq_false_iff.mpr c4
            subst c4
            have H1 : (some (decide (x3_1 > 3000))) = some r := by rw [if_neg (show ¬ (false = true) by decide)] at H; exact H
            clear H
            have H := H1
            clear H1
            obtain rfl := Option.some.inj H
            go_wp2
            go_ret
            exact ⟨by first | rfl | (simp [errW_none, errW_some] <;> rfl) | (simp [*, errW_none, errW_some] <;> rfl), by repeat (first | (with_reducible first | exact HB.out | apply below_alloc | apply pw_below_drewN | apply below_drew1) | exact HB.out)⟩

end Go.Proofs.Ytpembifnjlekdaa.PStyleAll
