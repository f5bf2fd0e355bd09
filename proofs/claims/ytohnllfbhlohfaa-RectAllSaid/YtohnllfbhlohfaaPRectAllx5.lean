-- Written by a copy of the print that this session has turned (wip/tools/patchprint.py): arrays as records.
import Derived.Test.YtohnllfbhlohfaaPRectAllx0
import Derived.Test.YtohnllfbhlohfaaPRectAllx4
namespace Go.Proofs.Ytohnllfbhlohfaa.PRectAll
open Go.RowKit Go.Proofs.YtohnllfbhlohfaaW.PrintWords Go.Proofs.YtohnllfbhlohfaaW.PrintLast Go.Proofs.YtohnllfbhlohfaaW.PrintMore
attribute [local go_sem] max2_int min2_int max_two min_two max_three min_three max_four min_four   -- for this text's walks alone
set_option linter.unusedVariables false
set_option linter.unusedSimpArgs false

/-! ### colophonref03_All: function 27 -/
def colophonref03_All.l0 : Nat → List (S24) → Bool → Int → Int → Int → Int → Int → Option (Int × Int × Int × Int × Bool)
  | 0, _, _, _, _, _, _, _ => none
  | k + 1, x0, x5, x6, x176000, x176001, x176002, x176003 => if x6 < (x0.length : Int) then (if x5 = true then (if 0 ≤ x6 then ((colophonref03_Join.f x176000 x176001 x176002 x176003 ((rd_T24 x0 x6).f0) ((rd_T24 x0 x6).f1) ((rd_T24 x0 x6).f2) ((rd_T24 x0 x6).f3)).bind fun bt177 => (colophonref03_All.l0 k x0 bt177.2.2.2.2 (wrap64 (x6 + 1)) bt177.1 bt177.2.1 bt177.2.2.1 bt177.2.2.2.1)) else (none)) else (some (x176000, x176001, x176002, x176003, x5))) else (some (x176000, x176001, x176002, x176003, x5))
def colophonref03_All.f (k : Nat) (l0 : List (S24)) : Option (Int × Int × Int × Int × Bool) := if (l0.length : Int) = 0 then (some (0, 0, 0, 0, false)) else (if 0 < (l0.length : Int) then ((colophonref03_told.f ((rd_T24 l0 0).f0) ((rd_T24 l0 0).f1) ((rd_T24 l0 0).f2) ((rd_T24 l0 0).f3)).bind fun bt170 => (colophonref03_All.l0 k l0 bt170.2.2.2.2 1 bt170.1 bt170.2.1 bt170.2.2.1 bt170.2.2.2.1)) else (none))
theorem colophonref03_All.mono_l : ∀ k, (∀ y0 y1 y2 y3 y4 y5 y6, LeO (colophonref03_All.l0 k y0 y1 y2 y3 y4 y5 y6) (colophonref03_All.l0 (k + 1) y0 y1 y2 y3 y4 y5 y6))
  | 0 => fun _ _ _ _ _ _ _ r h => by simp [colophonref03_All.l0] at h
  | k + 1 => by
    have ih0 := colophonref03_All.mono_l k
    · intro y0 y1 y2 y3 y4 y5 y6
      unfold colophonref03_All.l0
      repeat' first
      | (with_reducible exact ih0 _ _ _ _ _ _ _)
      | (with_reducible exact LeO.refl _)
      | (with_reducible exact LeO.none _)
      | (with_reducible refine LeO.ite ?_ ?_)
      | (with_reducible refine LeO.bind ?_ (fun _ => ?_))
      | exact ih0 _ _ _ _ _ _ _
      | exact LeO.none _
      | refine LeO.ite ?_ ?_
      | refine LeO.bind ?_ (fun _ => ?_)
theorem colophonref03_All.mono : ∀ a0 k, LeO (colophonref03_All.f k a0) (colophonref03_All.f (k + 1) a0) := by
  intro a0 k
  have ih0 := colophonref03_All.mono_l k
  unfold colophonref03_All.f
  repeat' first
      | (with_reducible exact ih0 _ _ _ _ _ _ _)
      | (with_reducible exact LeO.refl _)
      | (with_reducible exact LeO.none _)
      | (with_reducible refine LeO.ite ?_ ?_)
      | (with_reducible refine LeO.bind ?_ (fun _ => ?_))
      | exact ih0 _ _ _ _ _ _ _
      | exact LeO.none _
      | refine LeO.ite ?_ ?_
      | refine LeO.bind ?_ (fun _ => ?_)
def colophonref03_All.T7 : Bool × List (List Nat × List Nat) := (true, [([], []), ([], []), ([], []), ([1, 2], [1, 2]), ([3], [3]), ([0, 4], [0, 4]), ([5], [5]), ([6], [6]), ([6], [6]), ([7, 5, 0, 1, 2, 3, 4, 5, 6, 7], [7]), ([8, 9, 0, 1, 2, 3, 4, 5, 6, 7, 8, 9], [8])])
def colophonref03_All.B7 : List Nat := [0, 0, 0, 6, 14, 31, 63, 127, 127, 255, 1023]
theorem colophonref03_All.tab7 : rtab .any (opsOf Try.f27 7) = colophonref03_All.T7 := by kernel_rfl
theorem colophonref03_All.bits7 : waitsOk colophonref03_All.T7.2 colophonref03_All.B7 = true := by kernel_rfl
set_option maxHeartbeats 8000000 in
set_option maxRecDepth 100000 in
theorem colophonref03_All.calls (k : Nat) (A0 : Option Addr) (c0 : Nat) (l0 : List (S24)) (r1 : Int) (r2 : Int) (r3 : Int) (r4 : Int) (r5 : Bool) (w : World) (hr0 : Kd.C k24 w A0 l0.length l0) (hc0 : l0.length ≤ c0) (h : colophonref03_All.f k l0 = some (r1, r2, r3, r4, r5)) :
    Calls Try.prog 27 #[.slice A0 l0.length c0] w fun e w' => e = .returned (.tuple #[.agg #[.int .i64 r1, .int .i64 r2, .int .i64 r3, .int .i64 r4], .bool r5]) ∧ Below w.heap.size w w' := by
  have hu24 := Try.underlying24
  have HR0 := Aside0.mk hr0
  have HC0 := Aside0.mk hc0
  clear hr0 hc0
  have HB := Aside0.mk (Below.refl w.heap.size w)
  have H : (if (l0.length : Int) = 0 then (some (0, 0, 0, 0, false)) else (if 0 < (l0.length : Int) then ((colophonref03_told.f ((rd_T24 l0 0).f0) ((rd_T24 l0 0).f1) ((rd_T24 l0 0).f2) ((rd_T24 l0 0).f3)).bind fun bt170 => (colophonref03_All.l0 k l0 bt170.2.2.2.2 1 bt170.1 bt170.2.1 bt170.2.2.1 bt170.2.2.2.1)) else (none))) = some (r1, r2, r3, r4, r5) := h
  clear h
  by_cases c2 : (l0.length : Int) = 0
  · rw [if_pos c2] at H
    have c2b0 : ((l0.length : Int) == 0) = true := beq_iff_eq.mpr c2
    have c2b1 : ((l0.length : Int) != 0) = false := bne_eq_false_iff_eq.mpr c2
    clear c2
    simp only [Option.some.injEq, Prod.mk.injEq] at H
    obtain ⟨rfl, rfl, rfl, rfl, rfl⟩ := H
    go_enter Try.func27, Try.ntmps27
    go_wp2_with (first | ((with_reducible refine gate_dst (N := 2) rfl ?_); refine box_event ?hg (N := 2) ?hd (cs := #[.int .i64 0, .int .i64 0, .int .i64 0, .int .i64 0]) (t := 24) ?hr ?_; (case hd => rfl); (case hg => rfl); (case hr => first | (go_simp; done) | (go_simp; rfl)); intro gb168 hg w3 hbox hb; have n0_ := Aside0.mk (below_step (by repeat (first | (with_reducible first | exact HB.out | apply below_alloc | apply pw_below_drewN | apply below_drew1) | exact HB.out)) hb); have n1_ := Aside0.mk (hbox); have n2_ := Aside0.mk ((by rw [hg]; exact (below_size (by repeat (first | (with_reducible first | exact HB.out | apply below_alloc | apply pw_below_drewN | apply below_drew1) | exact HB.out))) : w.heap.size ≤ gb168)); have n3_ := Aside0.mk ((by rw [hg]; exact (below_size (by repeat (first | (with_reducible first | exact HB.out | apply below_alloc | apply pw_below_drewN | apply below_drew1) | exact HB.out))) : w.heap.size ≤ gb168)); clear HB; have HB := n0_; have BK168 := n1_; have GW168 := n2_; have GE168 := n3_; clear n0_ n1_ n2_ n3_; clear hb hbox hg; have hcz4_0 : w3.cell? ⟨gb168, 0, none⟩ = some (.int .i64 0) := (blk_cell BK168.out 0).trans rfl; have hcz4_1 : w3.cell? ⟨gb168, 1, none⟩ = some (.int .i64 0) := (blk_cell BK168.out 1).trans rfl; have hcz4_2 : w3.cell? ⟨gb168, 2, none⟩ = some (.int .i64 0) := (blk_cell BK168.out 2).trans rfl; have hcz4_3 : w3.cell? ⟨gb168, 3, none⟩ = some (.int .i64 0) := (blk_cell BK168.out 3).trans rfl; have hfz4_0 := blk_frozen BK168.out 0; have hfz4_1 := blk_frozen BK168.out 1; have hfz4_2 := blk_frozen BK168.out 2; have hfz4_3 := blk_frozen BK168.out 3))
    refine bodyPost_ret (results_ct rfl _ _ gb168 24 #[.int .i64 0, .int .i64 0, .int .i64 0, .int .i64 0] (0, 0) _ rfl (by (with_reducible repeat (first | refine blk_drewN ?_ _ | refine blk_drew ?_ | refine blk_alloc ?_ _)); refine blk_put (cs := #[.int .i64 0, .int .i64 0, .int .i64 0, .int .i64 0]) ?_ 3 _ rfl; (with_reducible repeat (first | refine blk_drewN ?_ _ | refine blk_drew ?_ | refine blk_alloc ?_ _)); refine blk_put (cs := #[.int .i64 0, .int .i64 0, .int .i64 0, .int .i64 0]) ?_ 2 _ rfl; (with_reducible repeat (first | refine blk_drewN ?_ _ | refine blk_drew ?_ | refine blk_alloc ?_ _)); refine blk_put (cs := #[.int .i64 0, .int .i64 0, .int .i64 0, .int .i64 0]) ?_ 1 _ rfl; (with_reducible repeat (first | refine blk_drewN ?_ _ | refine blk_drew ?_ | refine blk_alloc ?_ _)); refine blk_put (cs := #[.int .i64 0, .int .i64 0, .int .i64 0, .int .i64 0]) ?_ 0 _ rfl; (with_reducible repeat (first | refine blk_drewN ?_ _ | refine blk_drew ?_ | refine blk_alloc ?_ _)); exact BK168.out) Try.underlying24 rfl (by kernel_rfl)) rfl ?_
    exact ⟨by first | rfl | (simp [errW_none, errW_some] <;> rfl) | (simp [*, errW_none, errW_some] <;> rfl), by repeat (first | (with_reducible first | exact HB.out | apply below_alloc | apply pw_below_drewN | apply below_drew1 | refine below_set ?_ GE168.out) | exact HB.out)⟩
  · rw [if_neg c2] at H
    have c2b0 : ((l0.length : Int) == 0) = false := beq_eq_false_iff_ne.mpr c2
    have c2b1 : ((l0.length : Int) != 0) = true := bne_iff_ne.mpr c2
    have c2b2 : ¬ (l0 = []) := fun h_ => c2 (by rw [h_]; rfl)
    by_cases c5 : 0 < (l0.length : Int)
    · rw [if_pos c5] at H
      have c5b0 : decide (0 < (l0.length : Int)) = true := decide_eq_true c5
      have c5b1 : decide (0 < l0.length) = true := decide_eq_true (by omega)
      clear c5
      replace H := Option.bind_eq_some_iff.mp H
      obtain ⟨⟨t170, t171, t172, t173, t174⟩, A60, H⟩ := H
      replace H : (colophonref03_All.l0 k l0 t174 1 t170 t171 t172 t173) = some (r1, r2, r3, r4, r5) := H
      have A6 := Aside0.mk A60
      clear A60
      have H' := Aside0.mk H
      clear H
      go_enter Try.func27, Try.ntmps27
      go_wp2_with (first | ((with_reducible refine gate_dst (N := 2) rfl ?_); refine box_event ?hg (N := 2) ?hd (cs := #[.int .i64 0, .int .i64 0, .int .i64 0, .int .i64 0]) (t := 24) ?hr ?_; (case hd => rfl); (case hg => rfl); (case hr => first | (go_simp; done) | (go_simp; rfl)); intro gb168 hg w7 hbox hb; have n0_ := Aside0.mk (below_step (by repeat (first | (with_reducible first | exact HB.out | apply below_alloc | apply pw_below_drewN | apply below_drew1) | exact HB.out)) hb); have n1_ := Aside0.mk (hbox); have n2_ := Aside0.mk ((by rw [hg]; exact (below_size (by repeat (first | (with_reducible first | exact HB.out | apply below_alloc | apply pw_below_drewN | apply below_drew1) | exact HB.out))) : w.heap.size ≤ gb168)); have n3_ := Aside0.mk ((by rw [hg]; exact (below_size (by repeat (first | (with_reducible first | exact HB.out | apply below_alloc | apply pw_below_drewN | apply below_drew1) | exact HB.out))) : w.heap.size ≤ gb168)); clear HB; have HB := n0_; have BK168 := n1_; have GW168 := n2_; have GE168 := n3_; clear n0_ n1_ n2_ n3_; clear hb hbox hg; have p169 : 0 ≤ (0 : Int) := (by omega); have q169 : 0 < (l0.length : Int) := of_decide_eq_true (by first | (with_reducible assumption) | assumption); obtain ⟨ad169, e169, hx169_0, hx169_1, hx169_2, hx169_3⟩ := at_T24 HR0.out 0 p169 q169; cases e169; have qi169 : (0 < l0.length) = True := eq_true (by omega); (try rw [show ((0 : Int)).toNat = 0 from rfl] at hx169_0); (try rw [show 0 * 4 = 0 from rfl] at hx169_0); (try rw [Addr.add_zero'] at hx169_0); (try rw [show ((0 : Int)).toNat = 0 from rfl] at hx169_1); (try rw [show 0 * 4 = 0 from rfl] at hx169_1); (try rw [Addr.add_zero'] at hx169_1); (try rw [show ((0 : Int)).toNat = 0 from rfl] at hx169_2); (try rw [show 0 * 4 = 0 from rfl] at hx169_2); (try rw [Addr.add_zero'] at hx169_2); (try rw [show ((0 : Int)).toNat = 0 from rfl] at hx169_3); (try rw [show 0 * 4 = 0 from rfl] at hx169_3); (try rw [Addr.add_zero'] at hx169_3); replace hx169_0 := (HB.out.cell (World.block_lt_of_cell? w _ hx169_0)).trans hx169_0; replace hx169_1 := (HB.out.cell (World.block_lt_of_cell? w _ hx169_1)).trans hx169_1; replace hx169_2 := (HB.out.cell (World.block_lt_of_cell? w _ hx169_2)).trans hx169_2; replace hx169_3 := (HB.out.cell (World.block_lt_of_cell? w _ hx169_3)).trans hx169_3; replace p169 := eq_true p169; replace q169 := eq_true q169) | ((with_reducible refine gate_callee (f := 29) rfl ?_); refine goesL_ (some 15) rfl rfl Try.func29 (by kernel_rfl) rfl #[.agg #[.int .i64 ((rd_T24 l0 0).f0), .int .i64 ((rd_T24 l0 0).f1), .int .i64 ((rd_T24 l0 0).f2), .int .i64 ((rd_T24 l0 0).f3)]] rfl (by (try simp only [List.map_toArray, List.map_cons, List.map_nil]); first | done | rfl | (simp only [List.length_drop, List.length_take]; rfl)) ?_; (with_reducible refine (colophonref03_told.calls ((rd_T24 l0 0).f0) ((rd_T24 l0 0).f1) ((rd_T24 l0 0).f2) ((rd_T24 l0 0).f3) t170 t171 t172 t173 t174 _ A6.out).mono ?_); rintro e w8 ⟨rfl, hb⟩; refine ⟨_, rfl, ?_⟩; have n0_ := Aside0.mk (blk_below (g := gb168) (o := .cells #[.int .i64 0, .int .i64 0, .int .i64 0, .int .i64 0] 24 (0, 0)) (by (with_reducible repeat (first | refine blk_drewN ?_ _ | refine blk_drew ?_ | refine blk_alloc ?_ _)); exact BK168.out) hb); have n1_ := Aside0.mk (below_step (by repeat (first | (with_reducible first | exact HB.out | apply below_alloc | apply pw_below_drewN | apply below_drew1 | refine below_set ?_ GE168.out) | exact HB.out)) hb); clear BK168; clear HB; have BK168 := n0_; have HB := n1_; clear n0_ n1_; (try clear hb); (try clear hb2); (try clear hk); (try clear hi)) | ((with_reducible refine gate_dst (N := 4) rfl ?_); refine box_event ?hg (N := 4) ?hd (cs := #[.int .i64 0, .int .i64 0, .int .i64 0, .int .i64 0]) (t := 24) ?hr ?_; (case hd => rfl); (case hg => rfl); (case hr => first | (go_simp; done) | (go_simp; rfl)); intro gb175 hg w9 hbox hb; have n0_ := Aside0.mk (blk_below (g := gb168) (o := .cells #[.int .i64 0, .int .i64 0, .int .i64 0, .int .i64 0] 24 (0, 0)) (by (with_reducible repeat (first | refine blk_drewN ?_ _ | refine blk_drew ?_ | refine blk_alloc ?_ _)); exact BK168.out) hb); have n1_ := Aside0.mk (below_step (by repeat (first | (with_reducible first | exact HB.out | apply below_alloc | apply pw_below_drewN | apply below_drew1 | refine below_set ?_ GE168.out) | exact HB.out)) hb); have n2_ := Aside0.mk (hbox); have n3_ := Aside0.mk ((by rw [hg]; exact (below_size (by repeat (first | (with_reducible first | exact HB.out | apply below_alloc | apply pw_below_drewN | apply below_drew1 | refine below_set ?_ GE168.out) | exact HB.out))) : w.heap.size ≤ gb175)); have n4_ := Aside0.mk ((by rw [hg]; exact (below_size (by repeat (first | (with_reducible first | exact HB.out | apply below_alloc | apply pw_below_drewN | apply below_drew1 | refine below_set ?_ GE168.out) | exact HB.out))) : w.heap.size ≤ gb175)); have n5_ := Aside0.mk ((by rw [hg]; exact Nat.ne_of_lt (blk_lt (g := gb168) (o := .cells #[.int .i64 0, .int .i64 0, .int .i64 0, .int .i64 0] 24 (0, 0)) (by (with_reducible repeat (first | refine blk_drewN ?_ _ | refine blk_drew ?_ | refine blk_alloc ?_ _)); exact BK168.out)) : gb168 ≠ gb175)); have n6_ := Aside0.mk ((by rw [hg]; exact Nat.ne_of_gt (blk_lt (g := gb168) (o := .cells #[.int .i64 0, .int .i64 0, .int .i64 0, .int .i64 0] 24 (0, 0)) (by (with_reducible repeat (first | refine blk_drewN ?_ _ | refine blk_drew ?_ | refine blk_alloc ?_ _)); exact BK168.out)) : gb175 ≠ gb168)); clear BK168; clear HB; have BK168 := n0_; have HB := n1_; have BK175 := n2_; have GW175 := n3_; have GE175 := n4_; have NB168_175 := n5_; have NB175_168 := n6_; clear n0_ n1_ n2_ n3_ n4_ n5_ n6_; clear hb hbox hg; have hnb10 := NB175_168.out; have hnc10 := NB168_175.out; have hcz11_0 : w9.cell? ⟨gb175, 0, none⟩ = some (.int .i64 0) := (blk_cell BK175.out 0).trans rfl; have hcz11_1 : w9.cell? ⟨gb175, 1, none⟩ = some (.int .i64 0) := (blk_cell BK175.out 1).trans rfl; have hcz11_2 : w9.cell? ⟨gb175, 2, none⟩ = some (.int .i64 0) := (blk_cell BK175.out 2).trans rfl; have hcz11_3 : w9.cell? ⟨gb175, 3, none⟩ = some (.int .i64 0) := (blk_cell BK175.out 3).trans rfl; have hfz11_0 := blk_frozen BK175.out 0; have hfz11_1 := blk_frozen BK175.out 1; have hfz11_2 := blk_frozen BK175.out 2; have hfz11_3 := blk_frozen BK175.out 3))
      go_loopg [5, 6] k (fun kq v5 v6 w' => ∃ (x5_1 : Bool) (x6_1 : Int) (x176000_1 : Int) (x176001_1 : Int) (x176002_1 : Int) (x176003_1 : Int), v5 = .bool x5_1 ∧ v6 = .int .i64 x6_1 ∧ Aside0 (colophonref03_All.l0 kq l0 x5_1 x6_1 x176000_1 x176001_1 x176002_1 x176003_1 = some (r1, r2, r3, r4, r5)) ∧ Aside0 (kq ≤ k) ∧ Aside0 (w'.heap[gb168]? = some (.cells #[.int .i64 0, .int .i64 0, .int .i64 0, .int .i64 0] 24 (0, 0))) ∧ Aside0 (w'.heap[gb175]? = some (.cells #[.int .i64 x176000_1, .int .i64 x176001_1, .int .i64 x176002_1, .int .i64 x176003_1] 24 (0, 0))) ∧ Aside0 (Below w.heap.size w w'))
      case atStart => exact ⟨(t174), (1), (t170), (t171), (t172), (t173), (by first | rfl | (simp; done) | (simp [*]; done)), (by first | rfl | (simp; done) | (simp [*]; done)), H', ⟨Nat.le_refl _⟩, ⟨by (with_reducible repeat (first | refine blk_drewN ?_ _ | refine blk_drew ?_ | refine blk_alloc ?_ _)); refine blk_far ?_ NB168_175.out _; (with_reducible repeat (first | refine blk_drewN ?_ _ | refine blk_drew ?_ | refine blk_alloc ?_ _)); refine blk_far ?_ NB168_175.out _; (with_reducible repeat (first | refine blk_drewN ?_ _ | refine blk_drew ?_ | refine blk_alloc ?_ _)); refine blk_far ?_ NB168_175.out _; (with_reducible repeat (first | refine blk_drewN ?_ _ | refine blk_drew ?_ | refine blk_alloc ?_ _)); refine blk_far ?_ NB168_175.out _; (with_reducible repeat (first | refine blk_drewN ?_ _ | refine blk_drew ?_ | refine blk_alloc ?_ _)); exact BK168.out⟩, ⟨by (with_reducible repeat (first | refine blk_drewN ?_ _ | refine blk_drew ?_ | refine blk_alloc ?_ _)); refine blk_put (cs := #[.int .i64 t170, .int .i64 t171, .int .i64 t172, .int .i64 0]) ?_ 3 _ rfl; (with_reducible repeat (first | refine blk_drewN ?_ _ | refine blk_drew ?_ | refine blk_alloc ?_ _)); refine blk_put (cs := #[.int .i64 t170, .int .i64 t171, .int .i64 0, .int .i64 0]) ?_ 2 _ rfl; (with_reducible repeat (first | refine blk_drewN ?_ _ | refine blk_drew ?_ | refine blk_alloc ?_ _)); refine blk_put (cs := #[.int .i64 t170, .int .i64 0, .int .i64 0, .int .i64 0]) ?_ 1 _ rfl; (with_reducible repeat (first | refine blk_drewN ?_ _ | refine blk_drew ?_ | refine blk_alloc ?_ _)); refine blk_put (cs := #[.int .i64 0, .int .i64 0, .int .i64 0, .int .i64 0]) ?_ 0 _ rfl; (with_reducible repeat (first | refine blk_drewN ?_ _ | refine blk_drew ?_ | refine blk_alloc ?_ _)); exact BK175.out⟩, ⟨by repeat (first | (with_reducible first | exact HB.out | apply below_alloc | apply pw_below_drewN | apply below_drew1 | refine below_set ?_ GE168.out | refine below_set ?_ GE175.out) | exact HB.out)⟩⟩
      case round =>
        clear H'
        try clear c1
        try clear p1
        try clear q1
        try clear hx1
        try clear qi1
        try clear c2
        try clear c2b0
        try clear c2b1
        try clear c2b2
        try clear p2
        try clear c5
        try clear c5b0
        try clear c5b1
        try clear c10
        try clear hcz11_0
        try clear hcz11_1
        try clear hcz11_2
        try clear hcz11_3
        try clear hcz4_0
        try clear hcz4_1
        try clear hcz4_2
        try clear hcz4_3
        try clear hfz11_0
        try clear hfz11_1
        try clear hfz11_2
        try clear hfz11_3
        try clear hfz4_0
        try clear hfz4_1
        try clear hfz4_2
        try clear hfz4_3
        try clear hx169_0
        try clear hx169_1
        try clear hx169_2
        try clear hx169_3
        try clear p169
        try clear q169
        obtain ⟨x5_1, x6_1, x176000_1, x176001_1, x176002_1, x176003_1, rfl, rfl, HA, HK1, BK168, BK175, HB⟩ := hrel
        cases gk with
        | zero => exact absurd HA.out (by simp [colophonref03_All.l0])
        | succ k1 =>
          have H := HA.out
          clear HA
          simp only [colophonref03_All.l0] at H
          by_cases c12 : x6_1 < (l0.length : Int)
          · rw [if_pos c12] at H
            have c12b0 : decide (x6_1 < (l0.length : Int)) = true := decide_eq_true c12
            clear c12
            by_cases c13 : x5_1 = true
            · subst c13
              have H1 : (if 0 ≤ x6_1 then ((colophonref03_Join.f x176000_1 x176001_1 x176002_1 x176003_1 ((rd_T24 l0 x6_1).f0) ((rd_T24 l0 x6_1).f1) ((rd_T24 l0 x6_1).f2) ((rd_T24 l0 x6_1).f3)).bind fun bt177 => (colophonref03_All.l0 k1 l0 bt177.2.2.2.2 (wrap64 (x6_1 + 1)) bt177.1 bt177.2.1 bt177.2.2.1 bt177.2.2.2.1)) else (none)) = some (r1, r2, r3, r4, r5) := by rw [if_pos rfl] at H; exact H
              clear H
              have H := H1
              clear H1
              by_cases c14 : 0 ≤ x6_1
              · rw [if_pos c14] at H
                have c14b0 : decide (0 ≤ x6_1) = true := decide_eq_true c14
                clear c14
                replace H := Option.bind_eq_some_iff.mp H
                obtain ⟨⟨t177, t178, t179, t180, t181⟩, A150, H⟩ := H
                replace H : (colophonref03_All.l0 k1 l0 t181 (wrap64 (x6_1 + 1)) t177 t178 t179 t180) = some (r1, r2, r3, r4, r5) := H
                have A15 := Aside0.mk A150
                clear A150
                have H' := Aside0.mk H
                clear H
                try go_wp2
                have n0_ := Aside0.mk (blk_drew BK168.out)
                have n1_ := Aside0.mk (blk_drew BK175.out)
                have n2_ := Aside0.mk (below_drew1 HB.out)
                clear BK168
                clear BK175
                clear HB
                have BK168 := n0_
                have BK175 := n1_
                have HB := n2_
                clear n0_ n1_ n2_
                have p176 : 0 ≤ (x6_1 : Int) := of_decide_eq_true (by first | (with_reducible assumption) | assumption)
                have q176 : x6_1 < (l0.length : Int) := of_decide_eq_true (by first | (with_reducible assumption) | assumption)
                obtain ⟨ad176, e176, hx176_0, hx176_1, hx176_2, hx176_3⟩ := at_T24 HR0.out x6_1 p176 q176
                have hw176_3 := hx176_3
                have hw176_2 := hx176_2
                have hw176_1 := hx176_1
                have hw176_0 := hx176_0
                obtain rfl : ad169 = ad176 := (by injection e176)
                replace hx176_0 := (HB.out.cell (World.block_lt_of_cell? w _ hx176_0)).trans hx176_0
                replace hx176_1 := (HB.out.cell (World.block_lt_of_cell? w _ hx176_1)).trans hx176_1
                replace hx176_2 := (HB.out.cell (World.block_lt_of_cell? w _ hx176_2)).trans hx176_2
                replace hx176_3 := (HB.out.cell (World.block_lt_of_cell? w _ hx176_3)).trans hx176_3
                replace p176 := eq_true p176
                replace q176 := eq_true q176
                refine start_ (n := 11) (S := fun w' => w'.cell? ⟨gb175, 0, none⟩ = some (.int .i64 x176000_1) ∧ w'.cell? ⟨gb175, 1, none⟩ = some (.int .i64 x176001_1) ∧ w'.cell? ⟨gb175, 2, none⟩ = some (.int .i64 x176002_1) ∧ w'.cell? ⟨gb175, 3, none⟩ = some (.int .i64 x176003_1) ∧ w'.cell? (ad169.add ((x6_1).toNat * 4)) = some (.int .i64 ((rd_T24 l0 x6_1).f0)) ∧ w'.cell? ⟨(ad169.add ((x6_1).toNat * 4)).block, (ad169.add ((x6_1).toNat * 4)).off + 1, none⟩ = some (.int .i64 ((rd_T24 l0 x6_1).f1)) ∧ w'.cell? ⟨(ad169.add ((x6_1).toNat * 4)).block, (ad169.add ((x6_1).toNat * 4)).off + 2, none⟩ = some (.int .i64 ((rd_T24 l0 x6_1).f2)) ∧ w'.cell? ⟨(ad169.add ((x6_1).toNat * 4)).block, (ad169.add ((x6_1).toNat * 4)).off + 3, none⟩ = some (.int .i64 ((rd_T24 l0 x6_1).f3))) (ds := [9]) #[false, false, false, false, false, false, false, false, false, false, false] (by kernel_rfl) rfl rfl ⟨(blk_cell BK175.out 0).trans rfl, (blk_cell BK175.out 1).trans rfl, (blk_cell BK175.out 2).trans rfl, (blk_cell BK175.out 3).trans rfl, ((HB.out.cell (World.block_lt_of_cell? w _ hw176_0)).trans hw176_0), ((HB.out.cell (World.block_lt_of_cell? w _ hw176_1)).trans hw176_1), ((HB.out.cell (World.block_lt_of_cell? w _ hw176_2)).trans hw176_2), ((HB.out.cell (World.block_lt_of_cell? w _ hw176_3)).trans hw176_3)⟩ (fun hHeld => ?_); refine with_tabW colophonref03_All.tab7 colophonref03_All.bits7 (fun HT_ HW_ => ?_)
                generalize wr.drew = w16 at BK168 BK175 HB hx176_0 hx176_1 hx176_2 hx176_3 hHeld ⊢
                refine pure_ (i := 1) (N := some 29) (v := ?_) (a' := ?_) #[false, true, false, false, false, false, false, false, false, false, false] rfl rfl (any_of HT_.out (by kernel_rfl)) (fun _ _ _ h => h) (Or.inl ⟨by rfl, ?_⟩) ?_ ?_
                rotate_left
                · intro w'
                  go_simp
                  with_reducible rfl
                rotate_left
                · simp only [Act.put, List.setIfInBounds_toArray, List.set_cons_zero, List.set_cons_succ, i64_w, i32_w]
                  rfl
                refine pure_ (i := 2) (N := some 30) (v := ?_) (a' := ?_) #[false, true, true, false, false, false, false, false, false, false, false] rfl rfl (any_of HT_.out (by kernel_rfl)) (fun _ _ _ h => h) (Or.inl ⟨by rfl, ?_⟩) ?_ ?_
                rotate_left
                · intro w'
                  go_simp
                  with_reducible rfl
                rotate_left
                · simp only [Act.put, List.setIfInBounds_toArray, List.set_cons_zero, List.set_cons_succ, i64_w, i32_w]
                  rfl
                refine pure_ (i := 3) (N := some 31) (v := ?_) (a' := ?_) #[false, true, true, true, false, false, false, false, false, false, false] rfl rfl (any_of HT_.out (by kernel_rfl)) (fun _ _ _ h => h) (Or.inl ⟨by rfl, ?_⟩) ?_ ?_
                rotate_left
                · intro w'
                  go_simp
                  with_reducible rfl
                rotate_left
                · simp only [Act.put, List.setIfInBounds_toArray, List.set_cons_zero, List.set_cons_succ, i64_w, i32_w]
                  rfl
                refine take_ (i := 0) (N := some 28) (v := ?_) (a' := ?_) #[true, true, true, true, false, false, false, false, false, false, false] rfl rfl (take_ofW HT_.out HW_.out (by kernel_rfl)) (fun _ _ _ h => h) (Or.inl ⟨by rfl, ?_⟩) hHeld ?_ ?_
                rotate_left
                · rintro w' ⟨s0, s1, s2, s3, s4, s5, s6, s7⟩
                  go_simp
                  with_reducible rfl
                rotate_left
                · simp only [Act.put, List.setIfInBounds_toArray, List.set_cons_zero, List.set_cons_succ, i64_w, i32_w]
                  rfl
                refine take_ (i := 4) (N := some 32) (v := ?_) (a' := ?_) #[true, true, true, true, true, false, false, false, false, false, false] rfl rfl (take_ofW HT_.out HW_.out (by kernel_rfl)) (fun _ _ _ h => h) (Or.inl ⟨by rfl, ?_⟩) hHeld ?_ ?_
                rotate_left
                · rintro w' ⟨s0, s1, s2, s3, s4, s5, s6, s7⟩
                  go_simp
                  with_reducible rfl
                rotate_left
                · simp only [Act.put, List.setIfInBounds_toArray, List.set_cons_zero, List.set_cons_succ, i64_w, i32_w]
                  rfl
                refine one_ (i := 5) (N := some 33) #[true, true, true, true, true, true, false, false, false, false, false] rfl rfl (one_of HT_.out (by kernel_rfl)) (by decide) (fun K hK => ?_)
                refine goes_ Try.func16 (by kernel_rfl) rfl #[.agg #[.int .i64 x176000_1, .int .i64 x176001_1, .int .i64 x176002_1, .int .i64 x176003_1], .agg #[.int .i64 ((rd_T24 l0 x6_1).f0), .int .i64 ((rd_T24 l0 x6_1).f1), .int .i64 ((rd_T24 l0 x6_1).f2), .int .i64 ((rd_T24 l0 x6_1).f3)]] (by rfl) rfl rfl (by (try simp only [List.map_toArray, List.map_cons, List.map_nil]); first | done | rfl | (simp only [List.length_drop, List.length_take]; rfl)) ?_
                with_reducible refine (colophonref03_Join.calls x176000_1 x176001_1 x176002_1 x176003_1 ((rd_T24 l0 x6_1).f0) ((rd_T24 l0 x6_1).f1) ((rd_T24 l0 x6_1).f2) ((rd_T24 l0 x6_1).f3) t177 t178 t179 t180 t181 _ A15.out).mono ?_
                rintro e w17 ⟨rfl, hb⟩
                refine ⟨_, rfl, ?_⟩
                have n0_ := Aside0.mk (blk_below (g := gb168) (o := .cells #[.int .i64 0, .int .i64 0, .int .i64 0, .int .i64 0] 24 (0, 0)) (by (with_reducible repeat (first | refine blk_drewN ?_ _ | refine blk_drew ?_ | refine blk_alloc ?_ _)); exact BK168.out) hb)
                have n1_ := Aside0.mk (blk_below (g := gb175) (o := .cells #[.int .i64 x176000_1, .int .i64 x176001_1, .int .i64 x176002_1, .int .i64 x176003_1] 24 (0, 0)) (by (with_reducible repeat (first | refine blk_drewN ?_ _ | refine blk_drew ?_ | refine blk_alloc ?_ _)); exact BK175.out) hb)
                have n2_ := Aside0.mk (below_step (by repeat (first | (with_reducible first | exact HB.out | apply below_alloc | apply pw_below_drewN | apply below_drew1 | refine below_set ?_ GE168.out | refine below_set ?_ GE175.out) | exact HB.out)) hb)
                clear BK168
                clear BK175
                clear HB
                have BK168 := n0_
                have BK175 := n1_
                have HB := n2_
                clear n0_ n1_ n2_
                (try clear hb)
                (try clear hb2)
                (try clear hk)
                (try clear hi)
                refine hK.out _ _ ⟨(blk_cell BK175.out 0).trans rfl, (blk_cell BK175.out 1).trans rfl, (blk_cell BK175.out 2).trans rfl, (blk_cell BK175.out 3).trans rfl, ((HB.out.cell (World.block_lt_of_cell? w _ hw176_0)).trans hw176_0), ((HB.out.cell (World.block_lt_of_cell? w _ hw176_1)).trans hw176_1), ((HB.out.cell (World.block_lt_of_cell? w _ hw176_2)).trans hw176_2), ((HB.out.cell (World.block_lt_of_cell? w _ hw176_3)).trans hw176_3)⟩ (fun hHeld => ?_)
                clear hK K
                refine norm_ (a' := ?_) ?_ ?_
                rotate_left
                · show Act.put _ (some 33) _ = _
                  simp only [Act.put, List.setIfInBounds_toArray, List.set_cons_zero, List.set_cons_succ, i64_w, i32_w]
                  rfl
                refine pure_ (i := 6) (N := some 27) (v := ?_) (a' := ?_) #[true, true, true, true, true, true, true, false, false, false, false] rfl rfl (any_of HT_.out (by kernel_rfl)) (fun _ _ _ h => h) (Or.inl ⟨by rfl, ?_⟩) ?_ ?_
                rotate_left
                · intro w'
                  go_simp
                  with_reducible rfl
                rotate_left
                · simp only [Act.put, List.setIfInBounds_toArray, List.set_cons_zero, List.set_cons_succ, i64_w, i32_w]
                  rfl
                refine pure_ (i := 7) (N := some 34) (v := ?_) (a' := ?_) #[true, true, true, true, true, true, true, true, false, false, false] rfl rfl (any_of HT_.out (by kernel_rfl)) (fun _ _ _ h => h) (Or.inl ⟨by rfl, ?_⟩) ?_ ?_
                rotate_left
                · intro w'
                  go_simp
                  with_reducible rfl
                rotate_left
                · simp only [Act.put, List.setIfInBounds_toArray, List.set_cons_zero, List.set_cons_succ, i64_w, i32_w]
                  rfl
                refine pure_ (i := 8) (N := some 35) (v := ?_) (a' := ?_) #[true, true, true, true, true, true, true, true, true, false, false] rfl rfl (any_of HT_.out (by kernel_rfl)) (fun _ _ _ h => h) (Or.inl ⟨by rfl, ?_⟩) ?_ ?_
                rotate_left
                · intro w'
                  go_simp
                  with_reducible rfl
                rotate_left
                · simp only [Act.put, List.setIfInBounds_toArray, List.set_cons_zero, List.set_cons_succ, i64_w, i32_w]
                  rfl
                refine last_ (i := 9) (N := none) #[true, true, true, true, true, true, true, true, true, true, false] rfl rfl (one_of HT_.out (by kernel_rfl)) (by decide) (fun K hK => ?_)
                have hs18 : w17.cell? ⟨gb175, 0, none⟩ = some (.int .i64 x176000_1) := (blk_cell BK175.out 0).trans rfl
                have hfs18 := blk_frozen BK175.out 0
                have hns18_0 := NB168_175.out
                have hms18_0 := NB175_168.out
                have hs19 : w17.cell? ⟨gb175, 1, none⟩ = some (.int .i64 x176001_1) := (blk_cell BK175.out 1).trans rfl
                have hfs19 := blk_frozen BK175.out 1
                have hns19_0 := NB168_175.out
                have hms19_0 := NB175_168.out
                have hs20 : w17.cell? ⟨gb175, 2, none⟩ = some (.int .i64 x176002_1) := (blk_cell BK175.out 2).trans rfl
                have hfs20 := blk_frozen BK175.out 2
                have hns20_0 := NB168_175.out
                have hms20_0 := NB175_168.out
                have hs21 : w17.cell? ⟨gb175, 3, none⟩ = some (.int .i64 x176003_1) := (blk_cell BK175.out 3).trans rfl
                have hfs21 := blk_frozen BK175.out 3
                have hns21_0 := NB168_175.out
                have hms21_0 := NB175_168.out
                refine skip_ (w1 := ?_) (by rfl) rfl ?_ ?_
                rotate_left
                · go_simp
                  rfl
                refine hK.out _ _ ?_
                clear hK K
                refine pure_ (i := 10) (N := some 5) (v := ?_) (a' := ?_) #[true, true, true, true, true, true, true, true, true, true, true] rfl rfl (any_of HT_.out (by kernel_rfl)) (fun _ _ _ h => h) (Or.inl ⟨by rfl, ?_⟩) ?_ ?_
                rotate_left
                · intro w'
                  go_simp
                  with_reducible rfl
                rotate_left
                · simp only [Act.put, List.setIfInBounds_toArray, List.set_cons_zero, List.set_cons_succ, i64_w, i32_w]
                  rfl
                refine done_ (done_of HT_.out (by kernel_rfl)) ?_
                try go_wp2
                go_roundg k1
                case measure => have := HK1.out; omega
                case rel => exact ⟨(t181), (wrap64 (x6_1 + 1)), (t177), (t178), (t179), (t180), (by first | rfl | (simp; done) | (simp [*]; done)), (by first | rfl | (simp; done) | (simp [*]; done)), H', ⟨by have := HK1.out; omega⟩, ⟨by (with_reducible repeat (first | refine blk_drewN ?_ _ | refine blk_drew ?_ | refine blk_alloc ?_ _)); refine blk_far ?_ NB168_175.out _; (with_reducible repeat (first | refine blk_drewN ?_ _ | refine blk_drew ?_ | refine blk_alloc ?_ _)); refine blk_far ?_ NB168_175.out _; (with_reducible repeat (first | refine blk_drewN ?_ _ | refine blk_drew ?_ | refine blk_alloc ?_ _)); refine blk_far ?_ NB168_175.out _; (with_reducible repeat (first | refine blk_drewN ?_ _ | refine blk_drew ?_ | refine blk_alloc ?_ _)); refine blk_far ?_ NB168_175.out _; (with_reducible repeat (first | refine blk_drewN ?_ _ | refine blk_drew ?_ | refine blk_alloc ?_ _)); exact BK168.out⟩, ⟨by (with_reducible repeat (first | refine blk_drewN ?_ _ | refine blk_drew ?_ | refine blk_alloc ?_ _)); refine blk_put (cs := #[.int .i64 t177, .int .i64 t178, .int .i64 t179, .int .i64 x176003_1]) ?_ 3 _ rfl; (with_reducible repeat (first | refine blk_drewN ?_ _ | refine blk_drew ?_ | refine blk_alloc ?_ _)); refine blk_put (cs := #[.int .i64 t177, .int .i64 t178, .int .i64 x176002_1, .int .i64 x176003_1]) ?_ 2 _ rfl; (with_reducible repeat (first | refine blk_drewN ?_ _ | refine blk_drew ?_ | refine blk_alloc ?_ _)); refine blk_put (cs := #[.int .i64 t177, .int .i64 x176001_1, .int .i64 x176002_1, .int .i64 x176003_1]) ?_ 1 _ rfl; (with_reducible repeat (first | refine blk_drewN ?_ _ | refine blk_drew ?_ | refine blk_alloc ?_ _)); refine blk_put (cs := #[.int .i64 x176000_1, .int .i64 x176001_1, .int .i64 x176002_1, .int .i64 x176003_1]) ?_ 0 _ rfl; (with_reducible repeat (first | refine blk_drewN ?_ _ | refine blk_drew ?_ | refine blk_alloc ?_ _)); exact BK175.out⟩, ⟨by repeat (first | (with_reducible first | exact HB.out | apply below_alloc | apply pw_below_drewN | apply below_drew1 | refine below_set ?_ GE168.out | refine below_set ?_ GE175.out) | exact HB.out)⟩⟩
              · rw [if_neg c14] at H
                exact absurd H (by simp)
            · replace c13 := Bool.eq_false_iff.mpr c13
              subst c13
              have H1 : (some (x176000_1, x176001_1, x176002_1, x176003_1, false)) = some (r1, r2, r3, r4, r5) := by rw [if_neg (show ¬ (false = true) by decide)] at H; exact H
              clear H
              have H := H1
              clear H1
              simp only [Option.some.injEq, Prod.mk.injEq] at H
              obtain ⟨rfl, rfl, rfl, rfl, rfl⟩ := H
              have hnb22 := NB175_168.out
              have hnc22 := NB168_175.out
              have hcz23_0 : wr.cell? ⟨gb175, 0, none⟩ = some (.int .i64 x176000_1) := (blk_cell BK175.out 0).trans rfl
              have hcz23_1 : wr.cell? ⟨gb175, 1, none⟩ = some (.int .i64 x176001_1) := (blk_cell BK175.out 1).trans rfl
              have hcz23_2 : wr.cell? ⟨gb175, 2, none⟩ = some (.int .i64 x176002_1) := (blk_cell BK175.out 2).trans rfl
              have hcz23_3 : wr.cell? ⟨gb175, 3, none⟩ = some (.int .i64 x176003_1) := (blk_cell BK175.out 3).trans rfl
              have hfz23_0 := blk_frozen BK175.out 0
              have hfz23_1 := blk_frozen BK175.out 1
              have hfz23_2 := blk_frozen BK175.out 2
              have hfz23_3 := blk_frozen BK175.out 3
              have hcz24_0 : wr.cell? ⟨gb168, 0, none⟩ = some (.int .i64 0) := (blk_cell BK168.out 0).trans rfl
              have hcz24_1 : wr.cell? ⟨gb168, 1, none⟩ = some (.int .i64 0) := (blk_cell BK168.out 1).trans rfl
              have hcz24_2 : wr.cell? ⟨gb168, 2, none⟩ = some (.int .i64 0) := (blk_cell BK168.out 2).trans rfl
              have hcz24_3 : wr.cell? ⟨gb168, 3, none⟩ = some (.int .i64 0) := (blk_cell BK168.out 3).trans rfl
              have hfz24_0 := blk_frozen BK168.out 0
              have hfz24_1 := blk_frozen BK168.out 1
              have hfz24_2 := blk_frozen BK168.out 2
              have hfz24_3 := blk_frozen BK168.out 3
              go_wp2
              refine bodyPost_ret (results_ct rfl _ _ gb168 24 #[.int .i64 x176000_1, .int .i64 x176001_1, .int .i64 x176002_1, .int .i64 x176003_1] (0, 0) _ rfl (by (with_reducible repeat (first | refine blk_drewN ?_ _ | refine blk_drew ?_ | refine blk_alloc ?_ _)); refine blk_put (cs := #[.int .i64 x176000_1, .int .i64 x176001_1, .int .i64 x176002_1, .int .i64 0]) ?_ 3 _ rfl; (with_reducible repeat (first | refine blk_drewN ?_ _ | refine blk_drew ?_ | refine blk_alloc ?_ _)); refine blk_put (cs := #[.int .i64 x176000_1, .int .i64 x176001_1, .int .i64 0, .int .i64 0]) ?_ 2 _ rfl; (with_reducible repeat (first | refine blk_drewN ?_ _ | refine blk_drew ?_ | refine blk_alloc ?_ _)); refine blk_put (cs := #[.int .i64 x176000_1, .int .i64 0, .int .i64 0, .int .i64 0]) ?_ 1 _ rfl; (with_reducible repeat (first | refine blk_drewN ?_ _ | refine blk_drew ?_ | refine blk_alloc ?_ _)); refine blk_put (cs := #[.int .i64 0, .int .i64 0, .int .i64 0, .int .i64 0]) ?_ 0 _ rfl; (with_reducible repeat (first | refine blk_drewN ?_ _ | refine blk_drew ?_ | refine blk_alloc ?_ _)); exact BK168.out) Try.underlying24 rfl (by kernel_rfl)) rfl ?_
              exact ⟨by first | rfl | (simp [errW_none, errW_some] <;> rfl) | (simp [*, errW_none, errW_some] <;> rfl), by repeat (first | (with_reducible first | exact HB.out | apply below_alloc | apply pw_below_drewN | apply below_drew1 | refine below_set ?_ GE168.out | refine below_set ?_ GE175.out) | exact HB.out)⟩
          · rw [if_neg c12] at H
            have c12b0 : decide (x6_1 < (l0.length : Int)) = false := decide_eq_false c12
            clear c12
            simp only [Option.some.injEq, Prod.mk.injEq] at H
            obtain ⟨rfl, rfl, rfl, rfl, rfl⟩ := H
            have hnb25 := NB175_168.out
            have hnc25 := NB168_175.out
            have hcz26_0 : wr.cell? ⟨gb175, 0, none⟩ = some (.int .i64 x176000_1) := (blk_cell BK175.out 0).trans rfl
            have hcz26_1 : wr.cell? ⟨gb175, 1, none⟩ = some (.int .i64 x176001_1) := (blk_cell BK175.out 1).trans rfl
            have hcz26_2 : wr.cell? ⟨gb175, 2, none⟩ = some (.int .i64 x176002_1) := (blk_cell BK175.out 2).trans rfl
            have hcz26_3 : wr.cell? ⟨gb175, 3, none⟩ = some (.int .i64 x176003_1) := (blk_cell BK175.out 3).trans rfl
            have hfz26_0 := blk_frozen BK175.out 0
            have hfz26_1 := blk_frozen BK175.out 1
            have hfz26_2 := blk_frozen BK175.out 2
            have hfz26_3 := blk_frozen BK175.out 3
            have hcz27_0 : wr.cell? ⟨gb168, 0, none⟩ = some (.int .i64 0) := (blk_cell BK168.out 0).trans rfl
            have hcz27_1 : wr.cell? ⟨gb168, 1, none⟩ = some (.int .i64 0) := (blk_cell BK168.out 1).trans rfl
            have hcz27_2 : wr.cell? ⟨gb168, 2, none⟩ = some (.int .i64 0) := (blk_cell BK168.out 2).trans rfl
            have hcz27_3 : wr.cell? ⟨gb168, 3, none⟩ = some (.int .i64 0) := (blk_cell BK168.out 3).trans rfl
            have hfz27_0 := blk_frozen BK168.out 0
            have hfz27_1 := blk_frozen BK168.out 1
            have hfz27_2 := blk_frozen BK168.out 2
            have hfz27_3 := blk_frozen BK168.out 3
            go_wp2
            refine bodyPost_ret (results_ct rfl _ _ gb168 24 #[.int .i64 x176000_1, .int .i64 x176001_1, .int .i64 x176002_1, .int .i64 x176003_1] (0, 0) _ rfl (by (with_reducible repeat (first | refine blk_drewN ?_ _ | refine blk_drew ?_ | refine blk_alloc ?_ _)); refine blk_put (cs := #[.int .i64 x176000_1, .int .i64 x176001_1, .int .i64 x176002_1, .int .i64 0]) ?_ 3 _ rfl; (with_reducible repeat (first | refine blk_drewN ?_ _ | refine blk_drew ?_ | refine blk_alloc ?_ _)); refine blk_put (cs := #[.int .i64 x176000_1, .int .i64 x176001_1, .int .i64 0, .int .i64 0]) ?_ 2 _ rfl; (with_reducible repeat (first | refine blk_drewN ?_ _ | refine blk_drew ?_ | refine blk_alloc ?_ _)); refine blk_put (cs := #[.int .i64 x176000_1, .int .i64 0, .int .i64 0, .int .i64 0]) ?_ 1 _ rfl; (with_reducible repeat (first | refine blk_drewN ?_ _ | refine blk_drew ?_ | refine blk_alloc ?_ _)); refine blk_put (cs := #[.int .i64 0, .int .i64 0, .int .i64 0, .int .i64 0]) ?_ 0 _ rfl; (with_reducible repeat (first | refine blk_drewN ?_ _ | refine blk_drew ?_ | refine blk_alloc ?_ _)); exact BK168.out) Try.underlying24 rfl (by kernel_rfl)) rfl ?_
            exact ⟨by first | rfl | (simp [errW_none, errW_some] <;> rfl) | (simp [*, errW_none, errW_some] <;> rfl), by repeat (first | (with_reducible first | exact HB.out | apply below_alloc | apply pw_below_drewN | apply below_drew1 | refine below_set ?_ GE168.out | refine below_set ?_ GE175.out) | exact HB.out)⟩
    · rw [if_neg c5] at H
      exact absurd H (by simp)

end Go.Proofs.Ytohnllfbhlohfaa.PRectAll
