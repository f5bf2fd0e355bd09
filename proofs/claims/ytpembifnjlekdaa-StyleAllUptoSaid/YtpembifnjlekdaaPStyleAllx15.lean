-- Written by a copy of the print that this session has turned (wip/tools/patchprint.py): arrays as records.
import Derived.Test.YtpembifnjlekdaaPStyleAllx0
import Derived.Test.YtpembifnjlekdaaPStyleAllx5
import Derived.Test.YtpembifnjlekdaaPStyleAllx6
import Derived.Test.YtpembifnjlekdaaPStyleAllx7
import Derived.Test.YtpembifnjlekdaaPStyleAllx8
import Derived.Test.YtpembifnjlekdaaPStyleAllx13
import Derived.Test.YtpembifnjlekdaaPStyleAllx14
namespace Go.Proofs.Ytpembifnjlekdaa.PStyleAll
open Go.RowKit Go.Proofs.YtpembifnjlekdaaW.PrintWords Go.Proofs.YtpembifnjlekdaaW.PrintLast Go.Proofs.YtpembifnjlekdaaW.PrintMore
attribute [local go_sem] max2_int min2_int max_two min_two max_three min_three max_four min_four   -- for this text's walks alone
set_option linter.unusedVariables false
set_option linter.unusedSimpArgs false

/-! ### colophonlaw20_StyleAll: function 8 -/
mutual
def colophonlaw20_StyleAll.j0 : Nat → List (S41) → Bool → ByteArray → ByteArray → List (S82) → List (S52) → Int → Option (Bool)
  | 0, _, _, _, _, _, _, _ => none
  | k + 1, x0, x19, x272000, x272001, x272002, x272003, x272004 => if x19 = true then ((colophonlaw20_wakes.f k).bind fun t274 => (some t274)) else ((colophonref18_Copy.f k x272000 x272001 x272002 x272003 x272004).bind fun bt275 => ((colophonref19_Copy.f k x0).bind fun t285 => ((style_All.f k t285 bt275.1 bt275.2.1 bt275.2.2.1 bt275.2.2.2.1 bt275.2.2.2.2).bind fun t288 => ((colophonref20_All.f k x0 x272000 x272001 x272002 x272003 x272004).bind fun t291 => (if (t288.length : Int) = (t291.length : Int) then (colophonlaw20_StyleAll.l0 k t288 t291 0 x272000 x272001 x272002 x272003 x272004 bt275.1 bt275.2.1 bt275.2.2.1 bt275.2.2.2.1 bt275.2.2.2.2) else (none))))))
def colophonlaw20_StyleAll.l0 : Nat → List (S33) → List (S33) → Int → ByteArray → ByteArray → List (S82) → List (S52) → Int → ByteArray → ByteArray → List (S82) → List (S52) → Int → Option (Bool)
  | 0, _, _, _, _, _, _, _, _, _, _, _, _, _ => none
  | k + 1, x6, x7, x8, x272000, x272001, x272002, x272003, x272004, x285000, x285001, x285002, x285003, x285004 => if x8 < (x6.length : Int) then (if 0 ≤ x8 then (if x8 < (x7.length : Int) then (if ((rd_T33 x6 x8).f0) = ((rd_T33 x7 x8).f0) then (if ((rd_T33 x6 x8).f1) = ((rd_T33 x7 x8).f1) then (if ((rd_T33 x6 x8).f2) = ((rd_T33 x7 x8).f2) then (if ((rd_T33 x6 x8).f3) = ((rd_T33 x7 x8).f3) then (if ((rd_T33 x6 x8).f4) = ((rd_T33 x7 x8).f4) then (if ((rd_T33 x6 x8).f5) = ((rd_T33 x7 x8).f5) then (if ((rd_T33 x6 x8).f6) = ((rd_T33 x7 x8).f6) then (if ((rd_T33 x6 x8).f7) = ((rd_T33 x7 x8).f7) then (if ((rd_T33 x6 x8).f8) = ((rd_T33 x7 x8).f8) then (colophonlaw20_StyleAll.l0 k x6 x7 (wrap64 (x8 + 1)) x272000 x272001 x272002 x272003 x272004 x285000 x285001 x285002 x285003 x285004) else (none)) else (none)) else (none)) else (none)) else (none)) else (none)) else (none)) else (none)) else (none)) else (none)) else (none)) else ((colophonref18_Same.f k x285000 x285001 x285002 x285003 x285004 x272000 x272001 x272002 x272003 x272004).bind fun t296 => (if t296 = true then ((colophonlaw20_wakes.f k).bind fun t297 => (some t297)) else (none)))
end
def colophonlaw20_StyleAll.f (k : Nat) (l0 : List (S41)) (a1_0 : ByteArray) (a1_1 : ByteArray) (l1_2 : List (S82)) (l1_3 : List (S52)) (a1_4 : Int) : Option (Bool) := (colophonlaw19_Large.f k l0).bind fun t272 => (if t272 = true then (colophonlaw20_StyleAll.j0 k l0 true a1_0 a1_1 l1_2 l1_3 a1_4) else (if (l0.length : Int) > 30 then (colophonlaw20_StyleAll.j0 k l0 true a1_0 a1_1 l1_2 l1_3 a1_4) else ((colophonlaw18_Large.f k a1_0 a1_1 l1_2 l1_3 a1_4).bind fun t273 => (colophonlaw20_StyleAll.j0 k l0 t273 a1_0 a1_1 l1_2 l1_3 a1_4))))
theorem colophonlaw20_StyleAll.mono_l : ∀ k, (∀ y0 y1 y2 y3 y4 y5 y6, LeO (colophonlaw20_StyleAll.j0 k y0 y1 y2 y3 y4 y5 y6) (colophonlaw20_StyleAll.j0 (k + 1) y0 y1 y2 y3 y4 y5 y6)) ∧ (∀ y0 y1 y2 y3 y4 y5 y6 y7 y8 y9 y10 y11 y12, LeO (colophonlaw20_StyleAll.l0 k y0 y1 y2 y3 y4 y5 y6 y7 y8 y9 y10 y11 y12) (colophonlaw20_StyleAll.l0 (k + 1) y0 y1 y2 y3 y4 y5 y6 y7 y8 y9 y10 y11 y12))
  | 0 => ⟨fun _ _ _ _ _ _ _ r h => by simp [colophonlaw20_StyleAll.j0] at h, fun _ _ _ _ _ _ _ _ _ _ _ _ _ r h => by simp [colophonlaw20_StyleAll.l0] at h⟩
  | k + 1 => by
    obtain ⟨ih0, ih1⟩ := colophonlaw20_StyleAll.mono_l k
    refine ⟨?_, ?_⟩
    · intro y0 y1 y2 y3 y4 y5 y6
      unfold colophonlaw20_StyleAll.j0
      repeat' first
      | (with_reducible exact ih0 _ _ _ _ _ _ _)
      | (with_reducible exact ih1 _ _ _ _ _ _ _ _ _ _ _ _ _)
      | (with_reducible exact colophonlaw18_Large.mono _ _ _ _ _ _)
      | (with_reducible exact colophonlaw19_Large.mono _ _)
      | (with_reducible exact colophonlaw20_wakes.mono _)
      | (with_reducible exact colophonref18_Copy.mono _ _ _ _ _ _)
      | (with_reducible exact colophonref18_Same.mono _ _ _ _ _ _ _ _ _ _ _)
      | (with_reducible exact colophonref19_Copy.mono _ _)
      | (with_reducible exact colophonref20_All.mono _ _ _ _ _ _ _)
      | (with_reducible exact style_All.mono _ _ _ _ _ _ _)
      | (with_reducible exact LeO.refl _)
      | (with_reducible exact LeO.none _)
      | (with_reducible refine LeO.ite ?_ ?_)
      | (with_reducible refine LeO.bind ?_ (fun _ => ?_))
      | exact ih0 _ _ _ _ _ _ _
      | exact ih1 _ _ _ _ _ _ _ _ _ _ _ _ _
      | exact colophonlaw18_Large.mono _ _ _ _ _ _
      | exact colophonlaw19_Large.mono _ _
      | exact colophonlaw20_wakes.mono _
      | exact colophonref18_Copy.mono _ _ _ _ _ _
      | exact colophonref18_Same.mono _ _ _ _ _ _ _ _ _ _ _
      | exact colophonref19_Copy.mono _ _
      | exact colophonref20_All.mono _ _ _ _ _ _ _
      | exact style_All.mono _ _ _ _ _ _ _
      | exact LeO.none _
      | refine LeO.ite ?_ ?_
      | refine LeO.bind ?_ (fun _ => ?_)
    · intro y0 y1 y2 y3 y4 y5 y6 y7 y8 y9 y10 y11 y12
      unfold colophonlaw20_StyleAll.l0
      repeat' first
      | (with_reducible exact ih0 _ _ _ _ _ _ _)
      | (with_reducible exact ih1 _ _ _ _ _ _ _ _ _ _ _ _ _)
      | (with_reducible exact colophonlaw18_Large.mono _ _ _ _ _ _)
      | (with_reducible exact colophonlaw19_Large.mono _ _)
      | (with_reducible exact colophonlaw20_wakes.mono _)
      | (with_reducible exact colophonref18_Copy.mono _ _ _ _ _ _)
      | (with_reducible exact colophonref18_Same.mono _ _ _ _ _ _ _ _ _ _ _)
      | (with_reducible exact colophonref19_Copy.mono _ _)
      | (with_reducible exact colophonref20_All.mono _ _ _ _ _ _ _)
      | (with_reducible exact style_All.mono _ _ _ _ _ _ _)
      | (with_reducible exact LeO.refl _)
      | (with_reducible exact LeO.none _)
      | (with_reducible refine LeO.ite ?_ ?_)
      | (with_reducible refine LeO.bind ?_ (fun _ => ?_))
      | exact ih0 _ _ _ _ _ _ _
      | exact ih1 _ _ _ _ _ _ _ _ _ _ _ _ _
      | exact colophonlaw18_Large.mono _ _ _ _ _ _
      | exact colophonlaw19_Large.mono _ _
      | exact colophonlaw20_wakes.mono _
      | exact colophonref18_Copy.mono _ _ _ _ _ _
      | exact colophonref18_Same.mono _ _ _ _ _ _ _ _ _ _ _
      | exact colophonref19_Copy.mono _ _
      | exact colophonref20_All.mono _ _ _ _ _ _ _
      | exact style_All.mono _ _ _ _ _ _ _
      | exact LeO.none _
      | refine LeO.ite ?_ ?_
      | refine LeO.bind ?_ (fun _ => ?_)
theorem colophonlaw20_StyleAll.mono : ∀ a0 a1 a2 a3 a4 a5 k, LeO (colophonlaw20_StyleAll.f k a0 a1 a2 a3 a4 a5) (colophonlaw20_StyleAll.f (k + 1) a0 a1 a2 a3 a4 a5) := by
  intro a0 a1 a2 a3 a4 a5 k
  obtain ⟨ih0, ih1⟩ := colophonlaw20_StyleAll.mono_l k
  unfold colophonlaw20_StyleAll.f
  repeat' first
      | (with_reducible exact ih0 _ _ _ _ _ _ _)
      | (with_reducible exact ih1 _ _ _ _ _ _ _ _ _ _ _ _ _)
      | (with_reducible exact colophonlaw18_Large.mono _ _ _ _ _ _)
      | (with_reducible exact colophonlaw19_Large.mono _ _)
      | (with_reducible exact colophonlaw20_wakes.mono _)
      | (with_reducible exact colophonref18_Copy.mono _ _ _ _ _ _)
      | (with_reducible exact colophonref18_Same.mono _ _ _ _ _ _ _ _ _ _ _)
      | (with_reducible exact colophonref19_Copy.mono _ _)
      | (with_reducible exact colophonref20_All.mono _ _ _ _ _ _ _)
      | (with_reducible exact style_All.mono _ _ _ _ _ _ _)
      | (with_reducible exact LeO.refl _)
      | (with_reducible exact LeO.none _)
      | (with_reducible refine LeO.ite ?_ ?_)
      | (with_reducible refine LeO.bind ?_ (fun _ => ?_))
      | exact ih0 _ _ _ _ _ _ _
      | exact ih1 _ _ _ _ _ _ _ _ _ _ _ _ _
      | exact colophonlaw18_Large.mono _ _ _ _ _ _
      | exact colophonlaw19_Large.mono _ _
      | exact colophonlaw20_wakes.mono _
      | exact colophonref18_Copy.mono _ _ _ _ _ _
      | exact colophonref18_Same.mono _ _ _ _ _ _ _ _ _ _ _
      | exact colophonref19_Copy.mono _ _
      | exact colophonref20_All.mono _ _ _ _ _ _ _
      | exact style_All.mono _ _ _ _ _ _ _
      | exact LeO.none _
      | refine LeO.ite ?_ ?_
      | refine LeO.bind ?_ (fun _ => ?_)
def colophonlaw20_StyleAll.T11 : Bool × List (List Nat × List Nat) := (true, [([], []), ([], []), ([0, 1], [0, 1]), ([2], [2]), ([], []), ([], []), ([4, 5], [4, 5]), ([6], [6]), ([3, 7], [3, 7])])
def colophonlaw20_StyleAll.B11 : List Nat := [0, 0, 3, 7, 0, 0, 48, 112, 255]
theorem colophonlaw20_StyleAll.tab11 : rtab .any (opsOf Try.f8 11) = colophonlaw20_StyleAll.T11 := by kernel_rfl
theorem colophonlaw20_StyleAll.bits11 : waitsOk colophonlaw20_StyleAll.T11.2 colophonlaw20_StyleAll.B11 = true := by kernel_rfl
set_option maxHeartbeats 8000000 in
set_option maxRecDepth 100000 in
theorem colophonlaw20_StyleAll.calls (k : Nat) (A0 : Option Addr) (c0 : Nat) (l0 : List (S41)) (a1_0 : ByteArray) (a1_1 : ByteArray) (A1_2 : Option Addr) (c1_2 : Nat) (l1_2 : List (S82)) (A1_3 : Option Addr) (c1_3 : Nat) (l1_3 : List (S52)) (a1_4 : Int) (r : Bool) (w : World) (hr0 : Kd.C k41 w A0 l0.length l0) (hc0 : l0.length ≤ c0) (hr1_2 : Kd.C k82 w A1_2 l1_2.length l1_2) (hc1_2 : l1_2.length ≤ c1_2) (hr1_3 : Kd.C k52 w A1_3 l1_3.length l1_3) (hc1_3 : l1_3.length ≤ c1_3) (h : colophonlaw20_StyleAll.f k l0 a1_0 a1_1 l1_2 l1_3 a1_4 = some r) :
  Calls Try.prog 8 #[.slice A0 l0.length c0, .agg #[.string a1_0, .string a1_1, .slice A1_2 l1_2.length c1_2, .slice A1_3 l1_3.length c1_3, .int .i64 a1_4]] w fun e w' => e = .returned (.bool r) ∧ Below w.heap.size w w' := by
 have hu52 := Try.underlying52
 have hu33 := Try.underlying33
 have HR0 := Aside0.mk hr0
 have HC0 := Aside0.mk hc0
 clear hr0 hc0
 have HR1_2 := Aside0.mk hr1_2
 have HC1_2 := Aside0.mk hc1_2
 clear hr1_2 hc1_2
 have HR1_3 := Aside0.mk hr1_3
 have HC1_3 := Aside0.mk hc1_3
 clear hr1_3 hc1_3
 have HB := Aside0.mk (Below.refl w.heap.size w)
 have H : ((colophonlaw19_Large.f k l0).bind fun t272 => (if t272 = true then (colophonlaw20_StyleAll.j0 k l0 true a1_0 a1_1 l1_2 l1_3 a1_4) else (if (l0.length : Int) > 30 then (colophonlaw20_StyleAll.j0 k l0 true a1_0 a1_1 l1_2 l1_3 a1_4) else ((colophonlaw18_Large.f k a1_0 a1_1 l1_2 l1_3 a1_4).bind fun t273 => (colophonlaw20_StyleAll.j0 k l0 t273 a1_0 a1_1 l1_2 l1_3 a1_4))))) = some r := h
 clear h
 have HC3 := Aside0.mk H
 clear H
 go_enter Try.func8, Try.ntmps8
 go_upto_region 1 with (first | ((with_reducible refine gate_dst (N := 3) rfl ?_); (try (refine gate_guard (by rfl) ?_; dsimp only)); refine box_event ?hg (N := 3) ?hd (cs := #[.string a1_0, .string a1_1, .slice A1_2 l1_2.length c1_2, .slice A1_3 l1_3.length c1_3, .int .i64 a1_4]) (t := 52) ?hr ?_; (case hd => rfl); (case hg => rfl); (case hr => first | (go_simp; done) | (go_simp; rfl)); intro gb271 hg w4 hbox hb; have n0_ := Aside0.mk (below_step (by repeat (first | (with_reducible first | exact HB.out | apply below_alloc | apply pw_below_drewN | apply below_drew1) | exact HB.out)) hb); have n1_ := Aside0.mk (hbox); have n2_ := Aside0.mk ((by rw [hg]; exact (below_size (by repeat (first | (with_reducible first | exact HB.out | apply below_alloc | apply pw_below_drewN | apply below_drew1) | exact HB.out))) : w.heap.size ≤ gb271)); have n3_ := Aside0.mk ((by rw [hg]; exact (below_size (by repeat (first | (with_reducible first | exact HB.out | apply below_alloc | apply pw_below_drewN | apply below_drew1) | exact HB.out))) : w.heap.size ≤ gb271)); clear HB; have HB := n0_; have BK271 := n1_; have GW271 := n2_; have GE271 := n3_; clear n0_ n1_ n2_ n3_; clear hb hbox hg))
 (try simp only [Act.put, List.setIfInBounds_toArray, List.set_cons_zero, List.set_cons_succ])
 go_cut [19] (fun v19 wc => ∃ (kq : Nat) (x19_2 : Bool), v19 = .bool x19_2 ∧ Aside0 (colophonlaw20_StyleAll.j0 kq l0 x19_2 a1_0 a1_1 l1_2 l1_3 a1_4 = some r) ∧ Aside0 (kq ≤ k) ∧ Aside0 (wc.heap[gb271]? = some (.cells #[.string a1_0, .string a1_1, (.slice A1_2 l1_2.length c1_2), (.slice A1_3 l1_3.length c1_3), .int .i64 a1_4] 52 (0, 0))) ∧ Aside0 (Below w.heap.size w wc))
 case first =>
  have H := HC3.out
  clear HC3
  replace H := Option.bind_eq_some_iff.mp H
  obtain ⟨t272, A50, H⟩ := H
  replace H : (if t272 = true then (colophonlaw20_StyleAll.j0 k l0 true a1_0 a1_1 l1_2 l1_3 a1_4) else (if (l0.length : Int) > 30 then (colophonlaw20_StyleAll.j0 k l0 true a1_0 a1_1 l1_2 l1_3 a1_4) else ((colophonlaw18_Large.f k a1_0 a1_1 l1_2 l1_3 a1_4).bind fun t273 => (colophonlaw20_StyleAll.j0 k l0 t273 a1_0 a1_1 l1_2 l1_3 a1_4)))) = some r := H
  have A5 := Aside0.mk A50
  clear A50
  by_cases c6 : t272 = true
  ·subst c6
   have H1 : (colophonlaw20_StyleAll.j0 k l0 true a1_0 a1_1 l1_2 l1_3 a1_4) = some r := by rw [if_pos rfl] at H; exact H
   clear H
   have H := H1
   clear H1
   have H' := Aside0.mk H
   clear H
   go_wp2_with (first | ((with_reducible refine gate_callee (f := 27) rfl ?_); refine goesL_ (some 10) rfl rfl Try.func27 (by kernel_rfl) rfl #[.slice A0 l0.length c0] rfl (by (try simp only [List.map_toArray, List.map_cons, List.map_nil]); first | done | rfl | (simp only [List.length_drop, List.length_take]; rfl)) ?_; (with_reducible refine (colophonlaw19_Large.calls k _ _ l0 true _ ?side1 ?side2 A5.out).mono ?_); (case side1 => repeat (first | exact (Kd.C_below HR0.out HB.out) | (with_reducible refine Kd.C_alloc ?_ _) | (with_reducible refine Kd.C_drewN ?_ _) | (with_reducible refine Kd.C_drew ?_))); (case side2 => exact HC0.out); rintro e w7 ⟨rfl, hb⟩; refine ⟨_, rfl, ?_⟩; have n0_ := Aside0.mk (blk_below (g := gb271) (o := .cells #[.string a1_0, .string a1_1, .slice A1_2 l1_2.length c1_2, .slice A1_3 l1_3.length c1_3, .int .i64 a1_4] 52 (0, 0)) (by (with_reducible repeat (first | refine blk_drewN ?_ _ | refine blk_drew ?_ | refine blk_alloc ?_ _)); exact BK271.out) hb); have n1_ := Aside0.mk (below_step (by repeat (first | (with_reducible first | exact HB.out | apply below_alloc | apply pw_below_drewN | apply below_drew1 | refine below_set ?_ GE271.out) | exact HB.out)) hb); clear BK271; clear HB; have BK271 := n0_; have HB := n1_; clear n0_ n1_; (try clear hb); (try clear hb2); (try clear hk); (try clear hi)))
   go_meet
   case rel => exact ⟨_, (true), (by first | rfl | (simp; done) | (simp [*]; done)), H', ⟨by first | omega | exact Nat.le_refl _⟩, ⟨by (with_reducible repeat (first | refine blk_drewN ?_ _ | refine blk_drew ?_ | refine blk_alloc ?_ _)); exact BK271.out⟩, ⟨by repeat (first | (with_reducible first | exact HB.out | apply below_alloc | apply pw_below_drewN | apply below_drew1 | refine below_set ?_ GE271.out) | exact HB.out)⟩⟩
  ·replace c6 := Bool.eq_false_iff.mpr c6
   subst c6
   have H1 : (if (l0.length : Int) > 30 then (colophonlaw20_StyleAll.j0 k l0 true a1_0 a1_1 l1_2 l1_3 a1_4) else ((colophonlaw18_Large.f k a1_0 a1_1 l1_2 l1_3 a1_4).bind fun t273 => (colophonlaw20_StyleAll.j0 k l0 t273 a1_0 a1_1 l1_2 l1_3 a1_4))) = some r := by rw [if_neg (show ¬ (false = true) by decide)] at H; exact H
   clear H
   have H := H1
   clear H1
   by_cases c8 : (l0.length : Int) > 30
   ·rw [if_pos c8] at H
    have c8b0 : decide (30 < (l0.length : Int)) = true := decide_eq_true c8
    have c8b1 : decide (30 < l0.length) = true := decide_eq_true (by omega)
    clear c8
    (first | rw [c8b0] | (simp only [i64_w, i32_w]; rw [c8b0]) | skip)
    have H' := Aside0.mk H
    clear H
    go_wp2_with (first | ((with_reducible refine gate_callee (f := 27) rfl ?_); refine goesL_ (some 10) rfl rfl Try.func27 (by kernel_rfl) rfl #[.slice A0 l0.length c0] rfl (by (try simp only [List.map_toArray, List.map_cons, List.map_nil]); first | done | rfl | (simp only [List.length_drop, List.length_take]; rfl)) ?_; (with_reducible refine (colophonlaw19_Large.calls k _ _ l0 false _ ?side1 ?side2 A5.out).mono ?_); (case side1 => repeat (first | exact (Kd.C_below HR0.out HB.out) | (with_reducible refine Kd.C_alloc ?_ _) | (with_reducible refine Kd.C_drewN ?_ _) | (with_reducible refine Kd.C_drew ?_))); (case side2 => exact HC0.out); rintro e w9 ⟨rfl, hb⟩; refine ⟨_, rfl, ?_⟩; have n0_ := Aside0.mk (blk_below (g := gb271) (o := .cells #[.string a1_0, .string a1_1, .slice A1_2 l1_2.length c1_2, .slice A1_3 l1_3.length c1_3, .int .i64 a1_4] 52 (0, 0)) (by (with_reducible repeat (first | refine blk_drewN ?_ _ | refine blk_drew ?_ | refine blk_alloc ?_ _)); exact BK271.out) hb); have n1_ := Aside0.mk (below_step (by repeat (first | (with_reducible first | exact HB.out | apply below_alloc | apply pw_below_drewN | apply below_drew1 | refine below_set ?_ GE271.out) | exact HB.out)) hb); clear BK271; clear HB; have BK271 := n0_; have HB := n1_; clear n0_ n1_; (try clear hb); (try clear hb2); (try clear hk); (try clear hi)))
    go_meet
    case rel => exact ⟨_, (true), (by first | rfl | (simp; done) | (simp [*]; done)), H', ⟨by first | omega | exact Nat.le_refl _⟩, ⟨by (with_reducible repeat (first | refine blk_drewN ?_ _ | refine blk_drew ?_ | refine blk_alloc ?_ _)); exact BK271.out⟩, ⟨by repeat (first | (with_reducible first | exact HB.out | apply below_alloc | apply pw_below_drewN | apply below_drew1 | refine below_set ?_ GE271.out) | exact HB.out)⟩⟩
   ·rw [if_neg c8] at H
    have c8b0 : decide (30 < (l0.length : Int)) = false := decide_eq_false c8
    have c8b1 : decide (30 < l0.length) = false := decide_eq_false (by omega)
    clear c8
    (first | rw [c8b0] | (simp only [i64_w, i32_w]; rw [c8b0]) | skip)
    replace H := Option.bind_eq_some_iff.mp H
    obtain ⟨t273, A100, H⟩ := H
    replace H : (colophonlaw20_StyleAll.j0 k l0 t273 a1_0 a1_1 l1_2 l1_3 a1_4) = some r := H
    have A10 := Aside0.mk A100
    clear A100
    have H' := Aside0.mk H
    clear H
    go_wp2_with (first | ((with_reducible refine gate_callee (f := 27) rfl ?_); refine goesL_ (some 10) rfl rfl Try.func27 (by kernel_rfl) rfl #[.slice A0 l0.length c0] rfl (by (try simp only [List.map_toArray, List.map_cons, List.map_nil]); first | done | rfl | (simp only [List.length_drop, List.length_take]; rfl)) ?_; (with_reducible refine (colophonlaw19_Large.calls k _ _ l0 false _ ?side1 ?side2 A5.out).mono ?_); (case side1 => repeat (first | exact (Kd.C_below HR0.out HB.out) | (with_reducible refine Kd.C_alloc ?_ _) | (with_reducible refine Kd.C_drewN ?_ _) | (with_reducible refine Kd.C_drew ?_))); (case side2 => exact HC0.out); rintro e w11 ⟨rfl, hb⟩; refine ⟨_, rfl, ?_⟩; have n0_ := Aside0.mk (blk_below (g := gb271) (o := .cells #[.string a1_0, .string a1_1, .slice A1_2 l1_2.length c1_2, .slice A1_3 l1_3.length c1_3, .int .i64 a1_4] 52 (0, 0)) (by (with_reducible repeat (first | refine blk_drewN ?_ _ | refine blk_drew ?_ | refine blk_alloc ?_ _)); exact BK271.out) hb); have n1_ := Aside0.mk (below_step (by repeat (first | (with_reducible first | exact HB.out | apply below_alloc | apply pw_below_drewN | apply below_drew1 | refine below_set ?_ GE271.out) | exact HB.out)) hb); clear BK271; clear HB; have BK271 := n0_; have HB := n1_; clear n0_ n1_; (try clear hb); (try clear hb2); (try clear hk); (try clear hi); have hcz12_0 : w11.cell? ⟨gb271, 0, none⟩ = some (.string a1_0) := (blk_cell BK271.out 0).trans rfl; have hcz12_1 : w11.cell? ⟨gb271, 1, none⟩ = some (.string a1_1) := (blk_cell BK271.out 1).trans rfl; have hcz12_2 : w11.cell? ⟨gb271, 2, none⟩ = some (.slice A1_2 l1_2.length c1_2) := (blk_cell BK271.out 2).trans rfl; have hcz12_3 : w11.cell? ⟨gb271, 3, none⟩ = some (.slice A1_3 l1_3.length c1_3) := (blk_cell BK271.out 3).trans rfl; have hcz12_4 : w11.cell? ⟨gb271, 4, none⟩ = some (.int .i64 a1_4) := (blk_cell BK271.out 4).trans rfl; have hfz12_0 := blk_frozen BK271.out 0; have hfz12_1 := blk_frozen BK271.out 1; have hfz12_2 := blk_frozen BK271.out 2; have hfz12_3 := blk_frozen BK271.out 3; have hfz12_4 := blk_frozen BK271.out 4) | (go_at_call 22; (with_reducible refine (colophonlaw18_Large.calls k a1_0 a1_1 _ _ l1_2 _ _ l1_3 a1_4 t273 _ ?side1 ?side2 ?side3 ?side4 A10.out).mono ?_); (case side1 => repeat (first | exact (Kd.C_below HR1_2.out HB.out) | (with_reducible refine Kd.C_alloc ?_ _) | (with_reducible refine Kd.C_drewN ?_ _) | (with_reducible refine Kd.C_drew ?_))); (case side2 => exact HC1_2.out); (case side3 => repeat (first | exact (Kd.C_below HR1_3.out HB.out) | (with_reducible refine Kd.C_alloc ?_ _) | (with_reducible refine Kd.C_drewN ?_ _) | (with_reducible refine Kd.C_drew ?_))); (case side4 => exact HC1_3.out); rintro e w13 ⟨rfl, hb⟩; have n0_ := Aside0.mk (blk_below (g := gb271) (o := .cells #[.string a1_0, .string a1_1, .slice A1_2 l1_2.length c1_2, .slice A1_3 l1_3.length c1_3, .int .i64 a1_4] 52 (0, 0)) (by (with_reducible repeat (first | refine blk_drewN ?_ _ | refine blk_drew ?_ | refine blk_alloc ?_ _)); exact BK271.out) hb); have n1_ := Aside0.mk (below_step (by repeat (first | (with_reducible first | exact HB.out | apply below_alloc | apply pw_below_drewN | apply below_drew1 | refine below_set ?_ GE271.out) | exact HB.out)) hb); clear BK271; clear HB; have BK271 := n0_; have HB := n1_; clear n0_ n1_; (try clear hb); (try clear hb2); (try clear hk); (try clear hi)))
    go_meet
    case rel => exact ⟨_, (t273), (by first | rfl | (simp; done) | (simp [*]; done)), H', ⟨by first | omega | exact Nat.le_refl _⟩, ⟨by (with_reducible repeat (first | refine blk_drewN ?_ _ | refine blk_drew ?_ | refine blk_alloc ?_ _)); exact BK271.out⟩, ⟨by repeat (first | (with_reducible first | exact HB.out | apply below_alloc | apply pw_below_drewN | apply below_drew1 | refine below_set ?_ GE271.out) | exact HB.out)⟩⟩
 case rest =>
  clear HC3
  obtain ⟨kq, x19_2, rfl, HA, HJ2, BK271, HB⟩ := hcut
  cases kq with
  | zero => exact absurd HA.out (by simp [colophonlaw20_StyleAll.j0])
  | succ kj2 =>
   have H := HA.out
   clear HA
   simp only [colophonlaw20_StyleAll.j0] at H
   by_cases c14 : x19_2 = true
   ·subst c14
    have H1 : ((colophonlaw20_wakes.f kj2).bind fun t274 => (some t274)) = some r := by rw [if_pos rfl] at H; exact H
    clear H
    have H := H1
    clear H1
    replace H := Option.bind_eq_some_iff.mp H
    obtain ⟨t274, A150, H⟩ := H
    replace H : (some t274) = some r := H
    have A15 := Aside0.mk A150
    clear A150
    obtain rfl := Option.some.inj H
    go_wp2_with (first | ((with_reducible refine gate_callee (f := 10) rfl ?_); refine goesL_ (some 20) rfl rfl Try.func10 (by kernel_rfl) rfl #[] rfl (by (try simp only [List.map_toArray, List.map_cons, List.map_nil]); first | done | rfl | (simp only [List.length_drop, List.length_take]; rfl)) ?_; (with_reducible refine (colophonlaw20_wakes.calls kj2  t274 _ A15.out).mono ?_); rintro e w16 ⟨rfl, hb⟩; refine ⟨_, rfl, ?_⟩; have n0_ := Aside0.mk (blk_below (g := gb271) (o := .cells #[.string a1_0, .string a1_1, .slice A1_2 l1_2.length c1_2, .slice A1_3 l1_3.length c1_3, .int .i64 a1_4] 52 (0, 0)) (by (with_reducible repeat (first | refine blk_drewN ?_ _ | refine blk_drew ?_ | refine blk_alloc ?_ _)); exact BK271.out) hb); have n1_ := Aside0.mk (below_step (by repeat (first | (with_reducible first | exact HB.out | apply below_alloc | apply pw_below_drewN | apply below_drew1 | refine below_set ?_ GE271.out) | exact HB.out)) hb); clear BK271; clear HB; have BK271 := n0_; have HB := n1_; clear n0_ n1_; (try clear hb); (try clear hb2); (try clear hk); (try clear hi)))
    go_ret
    exact ⟨by first | rfl | (simp [errW_none, errW_some] <;> rfl) | (simp [*, errW_none, errW_some] <;> rfl), by repeat (first | (with_reducible first | exact HB.out | apply below_alloc | apply pw_below_drewN | apply below_drew1 | refine below_set ?_ GE271.out) | exact HB.out)⟩
   ·replace c14 := Bool.eq_false_iff.mpr c14
    subst c14
    have H1 : ((colophonref18_Copy.f kj2 a1_0 a1_1 l1_2 l1_3 a1_4).bind fun bt275 => ((colophonref19_Copy.f kj2 l0).bind fun t285 => ((style_All.f kj2 t285 bt275.1 bt275.2.1 bt275.2.2.1 bt275.2.2.2.1 bt275.2.2.2.2).bind fun t288 => ((colophonref20_All.f kj2 l0 a1_0 a1_1 l1_2 l1_3 a1_4).bind fun t291 => (if (t288.length : Int) = (t291.length : Int) then (colophonlaw20_StyleAll.l0 kj2 t288 t291 0 a1_0 a1_1 l1_2 l1_3 a1_4 bt275.1 bt275.2.1 bt275.2.2.1 bt275.2.2.2.1 bt275.2.2.2.2) else (none)))))) = some r := by rw [if_neg (show ¬ (false = true) by decide)] at H; exact H
    clear H
    have H := H1
    clear H1
    replace H := Option.bind_eq_some_iff.mp H
    obtain ⟨⟨t275, t276, t277, t280, t283⟩, A170, H⟩ := H
    replace H : ((colophonref19_Copy.f kj2 l0).bind fun t285 => ((style_All.f kj2 t285 t275 t276 t277 t280 t283).bind fun t288 => ((colophonref20_All.f kj2 l0 a1_0 a1_1 l1_2 l1_3 a1_4).bind fun t291 => (if (t288.length : Int) = (t291.length : Int) then (colophonlaw20_StyleAll.l0 kj2 t288 t291 0 a1_0 a1_1 l1_2 l1_3 a1_4 t275 t276 t277 t280 t283) else (none))))) = some r := H
    have A17 := Aside0.mk A170
    clear A170
    replace H := Option.bind_eq_some_iff.mp H
    obtain ⟨t285, A180, H⟩ := H
    replace H : ((style_All.f kj2 t285 t275 t276 t277 t280 t283).bind fun t288 => ((colophonref20_All.f kj2 l0 a1_0 a1_1 l1_2 l1_3 a1_4).bind fun t291 => (if (t288.length : Int) = (t291.length : Int) then (colophonlaw20_StyleAll.l0 kj2 t288 t291 0 a1_0 a1_1 l1_2 l1_3 a1_4 t275 t276 t277 t280 t283) else (none)))) = some r := H
    have A18 := Aside0.mk A180
    clear A180
    replace H := Option.bind_eq_some_iff.mp H
    obtain ⟨t288, A190, H⟩ := H
    replace H : ((colophonref20_All.f kj2 l0 a1_0 a1_1 l1_2 l1_3 a1_4).bind fun t291 => (if (t288.length : Int) = (t291.length : Int) then (colophonlaw20_StyleAll.l0 kj2 t288 t291 0 a1_0 a1_1 l1_2 l1_3 a1_4 t275 t276 t277 t280 t283) else (none))) = some r := H
    have A19 := Aside0.mk A190
    clear A190
    replace H := Option.bind_eq_some_iff.mp H
    obtain ⟨t291, A200, H⟩ := H
    replace H : (if (t288.length : Int) = (t291.length : Int) then (colophonlaw20_StyleAll.l0 kj2 t288 t291 0 a1_0 a1_1 l1_2 l1_3 a1_4 t275 t276 t277 t280 t283) else (none)) = some r := H
    have A20 := Aside0.mk A200
    clear A200
    by_cases c21 : (t288.length : Int) = (t291.length : Int)
    ·rw [if_pos c21] at H
     have c21b0 : ((t288.length : Int) == (t291.length : Int)) = true := beq_iff_eq.mpr c21
     have c21b1 : ((t288.length : Int) != (t291.length : Int)) = false := bne_eq_false_iff_eq.mpr c21
     have c21b2 : (t288.length == t291.length) = true := by first | simpa using c21 | (simp at c21 ⊢; omega)
     clear c21
     have H' := Aside0.mk H
     clear H
     have hcz22_0 : wc.cell? ⟨gb271, 0, none⟩ = some (.string a1_0) := (blk_cell BK271.out 0).trans rfl
     have hcz22_1 : wc.cell? ⟨gb271, 1, none⟩ = some (.string a1_1) := (blk_cell BK271.out 1).trans rfl
     have hcz22_2 : wc.cell? ⟨gb271, 2, none⟩ = some (.slice A1_2 l1_2.length c1_2) := (blk_cell BK271.out 2).trans rfl
     have hcz22_3 : wc.cell? ⟨gb271, 3, none⟩ = some (.slice A1_3 l1_3.length c1_3) := (blk_cell BK271.out 3).trans rfl
     have hcz22_4 : wc.cell? ⟨gb271, 4, none⟩ = some (.int .i64 a1_4) := (blk_cell BK271.out 4).trans rfl
     have hfz22_0 := blk_frozen BK271.out 0
     have hfz22_1 := blk_frozen BK271.out 1
     have hfz22_2 := blk_frozen BK271.out 2
     have hfz22_3 := blk_frozen BK271.out 3
     have hfz22_4 := blk_frozen BK271.out 4
     try go_wp2_with (first | ((with_reducible refine gate_callee (f := 24) rfl ?_); refine goesL_ (some 22) rfl rfl Try.func24 (by kernel_rfl) rfl #[.agg #[.string a1_0, .string a1_1, .slice A1_2 l1_2.length c1_2, .slice A1_3 l1_3.length c1_3, .int .i64 a1_4]] rfl (by (try simp only [List.map_toArray, List.map_cons, List.map_nil]); first | done | rfl | (simp only [List.length_drop, List.length_take]; rfl)) ?_; (with_reducible refine (colophonref18_Copy.calls kj2 a1_0 a1_1 _ _ l1_2 _ _ l1_3 a1_4 t275 t276 t277 t280 t283 _ ?side1 ?side2 ?side3 ?side4 A17.out).mono ?_); (case side1 => repeat (first | exact (Kd.C_below HR1_2.out HB.out) | (with_reducible refine Kd.C_alloc ?_ _) | (with_reducible refine Kd.C_drewN ?_ _) | (with_reducible refine Kd.C_drew ?_))); (case side2 => exact HC1_2.out); (case side3 => repeat (first | exact (Kd.C_below HR1_3.out HB.out) | (with_reducible refine Kd.C_alloc ?_ _) | (with_reducible refine Kd.C_drewN ?_ _) | (with_reducible refine Kd.C_drew ?_))); (case side4 => exact HC1_3.out); rintro e w23 ⟨v278, v281, rfl, ho0, ho1, hb⟩; refine ⟨_, rfl, ?_⟩; have n0_ := Aside0.mk (Kd.R_lower ho0 (below_size (by repeat (first | (with_reducible first | exact HB.out | apply below_alloc | apply pw_below_drewN | apply below_drew1 | refine below_set ?_ GE271.out) | exact HB.out)))); have n1_ := Aside0.mk (Kd.R_lower (Kd.R_newB ho1 (g := gb271) (o := .cells #[.string a1_0, .string a1_1, .slice A1_2 l1_2.length c1_2, .slice A1_3 l1_3.length c1_3, .int .i64 a1_4] 52 (0, 0)) (by (with_reducible repeat (first | refine blk_drewN ?_ _ | refine blk_drew ?_ | refine blk_alloc ?_ _)); exact BK271.out)) (below_size (by repeat (first | (with_reducible first | exact HB.out | apply below_alloc | apply pw_below_drewN | apply below_drew1 | refine below_set ?_ GE271.out) | exact HB.out)))); have n2_ := Aside0.mk (blk_below (g := gb271) (o := .cells #[.string a1_0, .string a1_1, .slice A1_2 l1_2.length c1_2, .slice A1_3 l1_3.length c1_3, .int .i64 a1_4] 52 (0, 0)) (by (with_reducible repeat (first | refine blk_drewN ?_ _ | refine blk_drew ?_ | refine blk_alloc ?_ _)); exact BK271.out) hb); have n3_ := Aside0.mk (below_step (by repeat (first | (with_reducible first | exact HB.out | apply below_alloc | apply pw_below_drewN | apply below_drew1 | refine below_set ?_ GE271.out) | exact HB.out)) hb); clear BK271; clear HB; have HO279 := n0_; have HO282 := n1_; have BK271 := n2_; have HB := n3_; clear n0_ n1_ n2_ n3_; (try clear hb); (try clear hb2); (try clear hk); (try clear hi); (try clear ho0); (try clear ho1)) | ((with_reducible refine gate_dst (N := 5) rfl ?_); (try (refine gate_guard (by rfl) ?_; dsimp only)); refine box_event ?hg (N := 5) ?hd (cs := #[.string (⟨#[]⟩ : ByteArray), .string (⟨#[]⟩ : ByteArray), .slice none 0 0, .slice none 0 0, .int .i64 0]) (t := 52) ?hr ?_; (case hd => rfl); (case hg => rfl); (case hr => first | (go_simp; done) | (go_simp; rfl)); intro gb284 hg w24 hbox hb; have n0_ := Aside0.mk (Kd.R_below (by (with_reducible repeat (first | apply Kd.R_alloc | apply Kd.R_drewN | apply Kd.R_drew)); exact HO279.out) hb); have n1_ := Aside0.mk (Kd.R_below (Kd.R_elderB (by (with_reducible repeat (first | apply Kd.R_alloc | apply Kd.R_drewN | apply Kd.R_drew)); exact HO282.out) gb284 (Nat.le_of_eq hg.symm)) hb); have n2_ := Aside0.mk (blk_below (g := gb271) (o := .cells #[.string a1_0, .string a1_1, .slice A1_2 l1_2.length c1_2, .slice A1_3 l1_3.length c1_3, .int .i64 a1_4] 52 (0, 0)) (by (with_reducible repeat (first | refine blk_drewN ?_ _ | refine blk_drew ?_ | refine blk_alloc ?_ _)); exact BK271.out) hb); have n3_ := Aside0.mk (below_step (by repeat (first | (with_reducible first | exact HB.out | apply below_alloc | apply pw_below_drewN | apply below_drew1 | refine below_set ?_ GE271.out) | exact HB.out)) hb); have n4_ := Aside0.mk (hbox); have n5_ := Aside0.mk ((by rw [hg]; exact (below_size (by repeat (first | (with_reducible first | exact HB.out | apply below_alloc | apply pw_below_drewN | apply below_drew1 | refine below_set ?_ GE271.out) | exact HB.out))) : w.heap.size ≤ gb284)); have n6_ := Aside0.mk ((by rw [hg]; exact (below_size (by repeat (first | (with_reducible first | exact HB.out | apply below_alloc | apply pw_below_drewN | apply below_drew1 | refine below_set ?_ GE271.out) | exact HB.out))) : w.heap.size ≤ gb284)); have n7_ := Aside0.mk ((by rw [hg]; exact Nat.ne_of_lt (blk_lt (g := gb271) (o := .cells #[.string a1_0, .string a1_1, .slice A1_2 l1_2.length c1_2, .slice A1_3 l1_3.length c1_3, .int .i64 a1_4] 52 (0, 0)) (by (with_reducible repeat (first | refine blk_drewN ?_ _ | refine blk_drew ?_ | refine blk_alloc ?_ _)); exact BK271.out)) : gb271 ≠ gb284)); have n8_ := Aside0.mk ((by rw [hg]; exact Nat.ne_of_gt (blk_lt (g := gb271) (o := .cells #[.string a1_0, .string a1_1, .slice A1_2 l1_2.length c1_2, .slice A1_3 l1_3.length c1_3, .int .i64 a1_4] 52 (0, 0)) (by (with_reducible repeat (first | refine blk_drewN ?_ _ | refine blk_drew ?_ | refine blk_alloc ?_ _)); exact BK271.out)) : gb284 ≠ gb271)); clear HO279; clear HO282; clear BK271; clear HB; have HO279 := n0_; have HO282 := n1_; have BK271 := n2_; have HB := n3_; have BK284 := n4_; have GW284 := n5_; have GE284 := n6_; have NB271_284 := n7_; have NB284_271 := n8_; clear n0_ n1_ n2_ n3_ n4_ n5_ n6_ n7_ n8_; clear hb hbox hg; have hnb25 := NB284_271.out; have hnc25 := NB271_284.out; have hcz26_0 : w24.cell? ⟨gb284, 0, none⟩ = some (.string (⟨#[]⟩ : ByteArray)) := (blk_cell BK284.out 0).trans rfl; have hcz26_1 : w24.cell? ⟨gb284, 1, none⟩ = some (.string (⟨#[]⟩ : ByteArray)) := (blk_cell BK284.out 1).trans rfl; have hcz26_2 : w24.cell? ⟨gb284, 2, none⟩ = some (.slice none 0 0) := (blk_cell BK284.out 2).trans rfl; have hcz26_3 : w24.cell? ⟨gb284, 3, none⟩ = some (.slice none 0 0) := (blk_cell BK284.out 3).trans rfl; have hcz26_4 : w24.cell? ⟨gb284, 4, none⟩ = some (.int .i64 0) := (blk_cell BK284.out 4).trans rfl; have hfz26_0 := blk_frozen BK284.out 0; have hfz26_1 := blk_frozen BK284.out 1; have hfz26_2 := blk_frozen BK284.out 2; have hfz26_3 := blk_frozen BK284.out 3; have hfz26_4 := blk_frozen BK284.out 4; obtain ⟨Ao27, co27, eo27⟩ := Kd.R_slice HO279.out; subst eo27; obtain ⟨Ao28, co28, eo28⟩ := Kd.R_slice HO282.out; subst eo28))
     have n0_ : Aside0 (Kd.R k82 82 (((((w24.setCell ⟨gb284, 0, none⟩ (.string t275)).setCell ⟨gb284, 1, none⟩ (.string t276)).setCell ⟨gb284, 2, none⟩ (.slice Ao27 t277.length co27)).setCell ⟨gb284, 3, none⟩ (.slice Ao28 t280.length co28)).setCell ⟨gb284, 4, none⟩ (.int .i64 t283)) w.heap.size (fun _ => True) (.slice Ao27 t277.length co27) t277) := ⟨by (with_reducible repeat (first | apply Kd.R_alloc | apply Kd.R_drewN | apply Kd.R_drew)); exact Kd.R_mono (Kd.R_far (p := ⟨gb284, 4, none⟩) (Kd.R_far (p := ⟨gb284, 3, none⟩) (Kd.R_far (p := ⟨gb284, 2, none⟩) (Kd.R_far (p := ⟨gb284, 1, none⟩) (Kd.R_far (p := ⟨gb284, 0, none⟩) (Kd.R_types HO279.out BK284.out (by decide)) (fun _ hk => hk.2) (.string t275)) (fun _ hk => hk.2) (.string t276)) (fun _ hk => hk.2) (.slice Ao27 t277.length co27)) (fun _ hk => hk.2) (.slice Ao28 t280.length co28)) (fun _ hk => hk.2) (.int .i64 t283)) (fun _ hk => trivial)⟩
     have n1_ : Aside0 (Kd.R k52 52 (((((w24.setCell ⟨gb284, 0, none⟩ (.string t275)).setCell ⟨gb284, 1, none⟩ (.string t276)).setCell ⟨gb284, 2, none⟩ (.slice Ao27 t277.length co27)).setCell ⟨gb284, 3, none⟩ (.slice Ao28 t280.length co28)).setCell ⟨gb284, 4, none⟩ (.int .i64 t283)) w.heap.size (fun k_ => some k_ ≠ (.slice Ao27 t277.length co27 : Value).ownBlock ∧ k_ ≠ gb271 ∧ k_ ≠ gb284) (.slice Ao28 t280.length co28) t280) := ⟨by (with_reducible repeat (first | apply Kd.R_alloc | apply Kd.R_drewN | apply Kd.R_drew)); exact Kd.R_mono (Kd.R_far (p := ⟨gb284, 4, none⟩) (Kd.R_far (p := ⟨gb284, 3, none⟩) (Kd.R_far (p := ⟨gb284, 2, none⟩) (Kd.R_far (p := ⟨gb284, 1, none⟩) (Kd.R_far (p := ⟨gb284, 0, none⟩) (Kd.R_mono HO282.out (fun k_ hk => (⟨hk, hk.2⟩ : _ ∧ k_ ≠ gb284))) (fun _ hk => hk.2) (.string t275)) (fun _ hk => hk.2) (.string t276)) (fun _ hk => hk.2) (.slice Ao27 t277.length co27)) (fun _ hk => hk.2) (.slice Ao28 t280.length co28)) (fun _ hk => hk.2) (.int .i64 t283)) (fun _ hk => ⟨hk.1.1.1, ⟨hk.1.1.2, hk.1.2⟩⟩)⟩
     have n2_ : Aside0 ((((((w24.setCell ⟨gb284, 0, none⟩ (.string t275)).setCell ⟨gb284, 1, none⟩ (.string t276)).setCell ⟨gb284, 2, none⟩ (.slice Ao27 t277.length co27)).setCell ⟨gb284, 3, none⟩ (.slice Ao28 t280.length co28)).setCell ⟨gb284, 4, none⟩ (.int .i64 t283)).heap[gb271]? = some (.cells #[.string a1_0, .string a1_1, .slice A1_2 l1_2.length c1_2, .slice A1_3 l1_3.length c1_3, .int .i64 a1_4] 52 (0, 0))) := ⟨by (with_reducible repeat (first | refine blk_drewN ?_ _ | refine blk_drew ?_ | refine blk_alloc ?_ _)); refine blk_far ?_ NB271_284.out _; (with_reducible repeat (first | refine blk_drewN ?_ _ | refine blk_drew ?_ | refine blk_alloc ?_ _)); refine blk_far ?_ NB271_284.out _; (with_reducible repeat (first | refine blk_drewN ?_ _ | refine blk_drew ?_ | refine blk_alloc ?_ _)); refine blk_far ?_ NB271_284.out _; (with_reducible repeat (first | refine blk_drewN ?_ _ | refine blk_drew ?_ | refine blk_alloc ?_ _)); refine blk_far ?_ NB271_284.out _; (with_reducible repeat (first | refine blk_drewN ?_ _ | refine blk_drew ?_ | refine blk_alloc ?_ _)); refine blk_far ?_ NB271_284.out _; (with_reducible repeat (first | refine blk_drewN ?_ _ | refine blk_drew ?_ | refine blk_alloc ?_ _)); exact BK271.out⟩
     have n3_ : Aside0 ((((((w24.setCell ⟨gb284, 0, none⟩ (.string t275)).setCell ⟨gb284, 1, none⟩ (.string t276)).setCell ⟨gb284, 2, none⟩ (.slice Ao27 t277.length co27)).setCell ⟨gb284, 3, none⟩ (.slice Ao28 t280.length co28)).setCell ⟨gb284, 4, none⟩ (.int .i64 t283)).heap[gb284]? = some (.cells #[.string t275, .string t276, .slice Ao27 t277.length co27, .slice Ao28 t280.length co28, .int .i64 t283] 52 (0, 0))) := ⟨by (with_reducible repeat (first | refine blk_drewN ?_ _ | refine blk_drew ?_ | refine blk_alloc ?_ _)); refine blk_put (cs := #[.string t275, .string t276, .slice Ao27 t277.length co27, .slice Ao28 t280.length co28, .int .i64 0]) ?_ 4 _ rfl; (with_reducible repeat (first | refine blk_drewN ?_ _ | refine blk_drew ?_ | refine blk_alloc ?_ _)); refine blk_put (cs := #[.string t275, .string t276, .slice Ao27 t277.length co27, .slice none 0 0, .int .i64 0]) ?_ 3 _ rfl; (with_reducible repeat (first | refine blk_drewN ?_ _ | refine blk_drew ?_ | refine blk_alloc ?_ _)); refine blk_put (cs := #[.string t275, .string t276, .slice none 0 0, .slice none 0 0, .int .i64 0]) ?_ 2 _ rfl; (with_reducible repeat (first | refine blk_drewN ?_ _ | refine blk_drew ?_ | refine blk_alloc ?_ _)); refine blk_put (cs := #[.string t275, .string (⟨#[]⟩ : ByteArray), .slice none 0 0, .slice none 0 0, .int .i64 0]) ?_ 1 _ rfl; (with_reducible repeat (first | refine blk_drewN ?_ _ | refine blk_drew ?_ | refine blk_alloc ?_ _)); refine blk_put (cs := #[.string (⟨#[]⟩ : ByteArray), .string (⟨#[]⟩ : ByteArray), .slice none 0 0, .slice none 0 0, .int .i64 0]) ?_ 0 _ rfl; (with_reducible repeat (first | refine blk_drewN ?_ _ | refine blk_drew ?_ | refine blk_alloc ?_ _)); exact BK284.out⟩
     have n4_ : Aside0 (Below w.heap.size w (((((w24.setCell ⟨gb284, 0, none⟩ (.string t275)).setCell ⟨gb284, 1, none⟩ (.string t276)).setCell ⟨gb284, 2, none⟩ (.slice Ao27 t277.length co27)).setCell ⟨gb284, 3, none⟩ (.slice Ao28 t280.length co28)).setCell ⟨gb284, 4, none⟩ (.int .i64 t283))) := ⟨by repeat (first | (with_reducible first | exact HB.out | apply below_alloc | apply pw_below_drewN | apply below_drew1 | refine below_set ?_ GE271.out | refine below_set ?_ GE284.out) | exact HB.out)⟩
     (try clear HO279)
     (try clear HO282)
     (try clear BK271)
     (try clear BK284)
     (try clear HB)
     generalize (((((w24.setCell ⟨gb284, 0, none⟩ (.string t275)).setCell ⟨gb284, 1, none⟩ (.string t276)).setCell ⟨gb284, 2, none⟩ (.slice Ao27 t277.length co27)).setCell ⟨gb284, 3, none⟩ (.slice Ao28 t280.length co28)).setCell ⟨gb284, 4, none⟩ (.int .i64 t283)) = w29 at n0_ n1_ n2_ n3_ n4_ ⊢
     have HO279 := n0_
     have HO282 := n1_
     have BK271 := n2_
     have BK284 := n3_
     have HB := n4_
     clear n0_ n1_ n2_ n3_ n4_
     have n0_ := Aside0.mk (Kd.R_drew HO279.out)
     have n1_ := Aside0.mk (Kd.R_drew HO282.out)
     have n2_ := Aside0.mk (blk_drew BK271.out)
     have n3_ := Aside0.mk (blk_drew BK284.out)
     have n4_ := Aside0.mk (below_drew1 HB.out)
     clear HO279
     clear HO282
     clear BK271
     clear BK284
     clear HB
     have HO279 := n0_
     have HO282 := n1_
     have BK271 := n2_
     have BK284 := n3_
     have HB := n4_
     clear n0_ n1_ n2_ n3_ n4_
     refine start_ (n := 5) (S := fun w' => w'.cell? ⟨gb284, 0, none⟩ = some (.string t275) ∧ w'.cell? ⟨gb284, 1, none⟩ = some (.string t276) ∧ w'.cell? ⟨gb284, 2, none⟩ = some (.slice Ao27 t277.length co27) ∧ w'.cell? ⟨gb284, 3, none⟩ = some (.slice Ao28 t280.length co28) ∧ w'.cell? ⟨gb284, 4, none⟩ = some (.int .i64 t283)) (ds := []) #[false, false, false, false, false] (by kernel_rfl) rfl rfl ⟨(blk_cell BK284.out 0).trans rfl, (blk_cell BK284.out 1).trans rfl, (blk_cell BK284.out 2).trans rfl, (blk_cell BK284.out 3).trans rfl, (blk_cell BK284.out 4).trans rfl⟩ (fun hHeld => ?_)
     generalize w29.drew = w30 at HO279 HO282 BK271 BK284 HB hHeld ⊢
     refine pure_ (i := 0) (N := some 23) (v := ?_) (a' := ?_) #[true, false, false, false, false] rfl rfl (by kernel_rfl) (fun _ _ _ h => h) (Or.inl ⟨by rfl, ?_⟩) ?_ ?_
     rotate_left
     ·intro w'
      go_simp
      with_reducible rfl
     rotate_left
     ·simp only [Act.put, List.setIfInBounds_toArray, List.set_cons_zero, List.set_cons_succ, i64_w, i32_w]
      rfl
     refine take_ (i := 2) (N := some 25) (v := ?_) (a' := ?_) #[true, false, true, false, false] rfl rfl (by kernel_rfl) (fun _ _ _ h => h) (Or.inl ⟨by rfl, ?_⟩) hHeld ?_ ?_
     rotate_left
     ·rintro w' ⟨s0, s1, s2, s3, s4⟩
      go_simp
      with_reducible rfl
     rotate_left
     ·simp only [Act.put, List.setIfInBounds_toArray, List.set_cons_zero, List.set_cons_succ, i64_w, i32_w]
      rfl
     refine one_ (i := 1) (N := some 24) #[true, true, true, false, false] rfl rfl (by kernel_rfl) (by decide) (fun K hK => ?_)
     refine goes_ Try.func11 (by kernel_rfl) rfl #[.slice A0 l0.length c0] (by rfl) rfl rfl (by (try simp only [List.map_toArray, List.map_cons, List.map_nil]); first | done | rfl | (simp only [List.length_drop, List.length_take]; rfl)) ?_
     with_reducible refine (colophonref19_Copy.calls kj2 _ _ l0 t285 _ ?side1 ?side2 A18.out).mono ?_
     (case side1 => repeat (first | exact (Kd.C_below HR0.out HB.out) | (with_reducible refine Kd.C_alloc ?_ _) | (with_reducible refine Kd.C_drewN ?_ _) | (with_reducible refine Kd.C_drew ?_)))
     (case side2 => exact HC0.out)
     rintro e w31 ⟨v286, rfl, ho0, hb⟩
     refine ⟨_, rfl, ?_⟩
     have n0_ := Aside0.mk (Kd.R_below (by (with_reducible repeat (first | apply Kd.R_alloc | apply Kd.R_drewN | apply Kd.R_drew)); exact HO279.out) hb)
     have n1_ := Aside0.mk (Kd.R_below (by (with_reducible repeat (first | apply Kd.R_alloc | apply Kd.R_drewN | apply Kd.R_drew)); exact HO282.out) hb)
     have n2_ := Aside0.mk (Kd.R_lower ho0 (below_size (by repeat (first | (with_reducible first | exact HB.out | apply below_alloc | apply pw_below_drewN | apply below_drew1 | refine below_set ?_ GE271.out | refine below_set ?_ GE284.out) | exact HB.out))))
     have n3_ := Aside0.mk (blk_below (g := gb271) (o := .cells #[.string a1_0, .string a1_1, .slice A1_2 l1_2.length c1_2, .slice A1_3 l1_3.length c1_3, .int .i64 a1_4] 52 (0, 0)) (by (with_reducible repeat (first | refine blk_drewN ?_ _ | refine blk_drew ?_ | refine blk_alloc ?_ _)); exact BK271.out) hb)
     have n4_ := Aside0.mk (blk_below (g := gb284) (o := .cells #[.string t275, .string t276, .slice Ao27 t277.length co27, .slice Ao28 t280.length co28, .int .i64 t283] 52 (0, 0)) (by (with_reducible repeat (first | refine blk_drewN ?_ _ | refine blk_drew ?_ | refine blk_alloc ?_ _)); exact BK284.out) hb)
     have n5_ := Aside0.mk (below_step (by repeat (first | (with_reducible first | exact HB.out | apply below_alloc | apply pw_below_drewN | apply below_drew1 | refine below_set ?_ GE271.out | refine below_set ?_ GE284.out) | exact HB.out)) hb)
     clear HO279
     clear HO282
     clear BK271
     clear BK284
     clear HB
     have HO279 := n0_
     have HO282 := n1_
     have HO287 := n2_
     have BK271 := n3_
     have BK284 := n4_
     have HB := n5_
     clear n0_ n1_ n2_ n3_ n4_ n5_
     (try clear hb)
     (try clear hb2)
     (try clear hk)
     (try clear hi)
     (try clear ho0)
     obtain ⟨Ao32, co32, eo32⟩ := Kd.R_slice HO287.out
     (first | subst eo32 | (injection eo32 with f1_ f2_ f3_; have f4_ := f1_.symm; have f5_ := f3_.symm; clear f1_ f2_ f3_; subst f4_; subst f5_))
     refine hK.out _ _ ⟨(blk_cell BK284.out 0).trans rfl, (blk_cell BK284.out 1).trans rfl, (blk_cell BK284.out 2).trans rfl, (blk_cell BK284.out 3).trans rfl, (blk_cell BK284.out 4).trans rfl⟩ (fun hHeld => ?_)
     clear hK K
     refine norm_ (a' := ?_) ?_ ?_
     rotate_left
     ·show Act.put _ (some 24) _ = _
      simp only [Act.put, List.setIfInBounds_toArray, List.set_cons_zero, List.set_cons_succ, i64_w, i32_w]
      rfl
     refine one_ (i := 3) (N := some 26) #[true, true, true, true, false] rfl rfl (by kernel_rfl) (by decide) (fun K hK => ?_)
     refine goes_ Try.func28 (by kernel_rfl) rfl #[.slice Ao32 t285.length co32, .agg #[.string t275, .string t276, .slice Ao27 t277.length co27, .slice Ao28 t280.length co28, .int .i64 t283]] (by rfl) rfl rfl (by (try simp only [List.map_toArray, List.map_cons, List.map_nil]); first | done | rfl | (simp only [List.length_drop, List.length_take]; rfl)) ?_
     with_reducible refine (style_All.calls kj2 _ _ t285 t275 t276 _ _ t277 _ _ t280 t283 t288 _ ?side1 ?side2 ?side3 ?side4 ?side5 ?side6 A19.out).mono ?_
     (case side1 => repeat (first | exact (Kd.R_reads' HO287.out).2.2 | (with_reducible refine Kd.C_alloc ?_ _) | (with_reducible refine Kd.C_drewN ?_ _) | (with_reducible refine Kd.C_drew ?_)))
     (case side2 => exact (Kd.R_reads' HO287.out).2.1)
     (case side3 => repeat (first | exact (Kd.R_reads' HO279.out).2.2 | (with_reducible refine Kd.C_alloc ?_ _) | (with_reducible refine Kd.C_drewN ?_ _) | (with_reducible refine Kd.C_drew ?_)))
     (case side4 => exact (Kd.R_reads' HO279.out).2.1)
     (case side5 => repeat (first | exact (Kd.R_reads' HO282.out).2.2 | (with_reducible refine Kd.C_alloc ?_ _) | (with_reducible refine Kd.C_drewN ?_ _) | (with_reducible refine Kd.C_drew ?_)))
     (case side6 => exact (Kd.R_reads' HO282.out).2.1)
     rintro e w33 ⟨v289, rfl, ho0, hb⟩
     refine ⟨_, rfl, ?_⟩
     have n0_ := Aside0.mk (Kd.R_below (by (with_reducible repeat (first | apply Kd.R_alloc | apply Kd.R_drewN | apply Kd.R_drew)); exact HO279.out) hb)
     have n1_ := Aside0.mk (Kd.R_below (by (with_reducible repeat (first | apply Kd.R_alloc | apply Kd.R_drewN | apply Kd.R_drew)); exact HO282.out) hb)
     have n2_ := Aside0.mk (Kd.R_below (by (with_reducible repeat (first | apply Kd.R_alloc | apply Kd.R_drewN | apply Kd.R_drew)); exact HO287.out) hb)
     have n3_ := Aside0.mk (Kd.R_lower ho0 (below_size (by repeat (first | (with_reducible first | exact HB.out | apply below_alloc | apply pw_below_drewN | apply below_drew1 | refine below_set ?_ GE271.out | refine below_set ?_ GE284.out) | exact HB.out))))
     have n4_ := Aside0.mk (blk_below (g := gb271) (o := .cells #[.string a1_0, .string a1_1, .slice A1_2 l1_2.length c1_2, .slice A1_3 l1_3.length c1_3, .int .i64 a1_4] 52 (0, 0)) (by (with_reducible repeat (first | refine blk_drewN ?_ _ | refine blk_drew ?_ | refine blk_alloc ?_ _)); exact BK271.out) hb)
     have n5_ := Aside0.mk (blk_below (g := gb284) (o := .cells #[.string t275, .string t276, .slice Ao27 t277.length co27, .slice Ao28 t280.length co28, .int .i64 t283] 52 (0, 0)) (by (with_reducible repeat (first | refine blk_drewN ?_ _ | refine blk_drew ?_ | refine blk_alloc ?_ _)); exact BK284.out) hb)
     have n6_ := Aside0.mk (below_step (by repeat (first | (with_reducible first | exact HB.out | apply below_alloc | apply pw_below_drewN | apply below_drew1 | refine below_set ?_ GE271.out | refine below_set ?_ GE284.out) | exact HB.out)) hb)
     clear HO279
     clear HO282
     clear HO287
     clear BK271
     clear BK284
     clear HB
     have HO279 := n0_
     have HO282 := n1_
     have HO287 := n2_
     have HO290 := n3_
     have BK271 := n4_
     have BK284 := n5_
     have HB := n6_
     clear n0_ n1_ n2_ n3_ n4_ n5_ n6_
     (try clear hb)
     (try clear hb2)
     (try clear hk)
     (try clear hi)
     (try clear ho0)
     refine hK.out _ _ ⟨(blk_cell BK284.out 0).trans rfl, (blk_cell BK284.out 1).trans rfl, (blk_cell BK284.out 2).trans rfl, (blk_cell BK284.out 3).trans rfl, (blk_cell BK284.out 4).trans rfl⟩ (fun hHeld => ?_)
     clear hK K
     refine norm_ (a' := ?_) ?_ ?_
     rotate_left
     ·show Act.put _ (some 26) _ = _
      simp only [Act.put, List.setIfInBounds_toArray, List.set_cons_zero, List.set_cons_succ, i64_w, i32_w]
      rfl
     refine pure_ (i := 4) (N := some 6) (v := ?_) (a' := ?_) #[true, true, true, true, true] rfl rfl (by kernel_rfl) (fun _ _ _ h => h) (Or.inl ⟨by rfl, ?_⟩) ?_ ?_
     rotate_left
     ·intro w'
      go_simp
      with_reducible rfl
     rotate_left
     ·simp only [Act.put, List.setIfInBounds_toArray, List.set_cons_zero, List.set_cons_succ, i64_w, i32_w]
      rfl
     refine done_ (by kernel_rfl) ?_
     have hcz34_0 : w33.cell? ⟨gb271, 0, none⟩ = some (.string a1_0) := (blk_cell BK271.out 0).trans rfl
     have hcz34_1 : w33.cell? ⟨gb271, 1, none⟩ = some (.string a1_1) := (blk_cell BK271.out 1).trans rfl
     have hcz34_2 : w33.cell? ⟨gb271, 2, none⟩ = some (.slice A1_2 l1_2.length c1_2) := (blk_cell BK271.out 2).trans rfl
     have hcz34_3 : w33.cell? ⟨gb271, 3, none⟩ = some (.slice A1_3 l1_3.length c1_3) := (blk_cell BK271.out 3).trans rfl
     have hcz34_4 : w33.cell? ⟨gb271, 4, none⟩ = some (.int .i64 a1_4) := (blk_cell BK271.out 4).trans rfl
     have hfz34_0 := blk_frozen BK271.out 0
     have hfz34_1 := blk_frozen BK271.out 1
     have hfz34_2 := blk_frozen BK271.out 2
     have hfz34_3 := blk_frozen BK271.out 3
     have hfz34_4 := blk_frozen BK271.out 4
     try go_wp2_with (first | ((with_reducible refine gate_callee (f := 29) rfl ?_); refine goesL_ (some 29) rfl rfl Try.func29 (by kernel_rfl) rfl #[.slice A0 l0.length c0, .agg #[.string a1_0, .string a1_1, .slice A1_2 l1_2.length c1_2, .slice A1_3 l1_3.length c1_3, .int .i64 a1_4]] rfl (by (try simp only [List.map_toArray, List.map_cons, List.map_nil]); first | done | rfl | (simp only [List.length_drop, List.length_take]; rfl)) ?_; (with_reducible refine (colophonref20_All.calls kj2 _ _ l0 a1_0 a1_1 _ _ l1_2 _ _ l1_3 a1_4 t291 _ ?side1 ?side2 ?side3 ?side4 ?side5 ?side6 A20.out).mono ?_); (case side1 => repeat (first | exact (Kd.C_below HR0.out HB.out) | (with_reducible refine Kd.C_alloc ?_ _) | (with_reducible refine Kd.C_drewN ?_ _) | (with_reducible refine Kd.C_drew ?_))); (case side2 => exact HC0.out); (case side3 => repeat (first | exact (Kd.C_below HR1_2.out HB.out) | (with_reducible refine Kd.C_alloc ?_ _) | (with_reducible refine Kd.C_drewN ?_ _) | (with_reducible refine Kd.C_drew ?_))); (case side4 => exact HC1_2.out); (case side5 => repeat (first | exact (Kd.C_below HR1_3.out HB.out) | (with_reducible refine Kd.C_alloc ?_ _) | (with_reducible refine Kd.C_drewN ?_ _) | (with_reducible refine Kd.C_drew ?_))); (case side6 => exact HC1_3.out); rintro e w35 ⟨v292, rfl, ho0, hb⟩; refine ⟨_, rfl, ?_⟩; have n0_ := Aside0.mk (Kd.R_below (by (with_reducible repeat (first | apply Kd.R_alloc | apply Kd.R_drewN | apply Kd.R_drew)); exact HO279.out) hb); have n1_ := Aside0.mk (Kd.R_below (by (with_reducible repeat (first | apply Kd.R_alloc | apply Kd.R_drewN | apply Kd.R_drew)); exact HO282.out) hb); have n2_ := Aside0.mk (Kd.R_below (by (with_reducible repeat (first | apply Kd.R_alloc | apply Kd.R_drewN | apply Kd.R_drew)); exact HO287.out) hb); have n3_ := Aside0.mk (Kd.R_elder' (by (with_reducible repeat (first | apply Kd.R_alloc | apply Kd.R_drewN | apply Kd.R_drew)); exact HO290.out) (Kd.R_base ho0) hb); have n4_ := Aside0.mk (Kd.R_lower (Kd.R_new' ho0 (Kd.R_lt (by (with_reducible repeat (first | apply Kd.R_alloc | apply Kd.R_drewN | apply Kd.R_drew)); exact HO290.out))) (below_size (by repeat (first | (with_reducible first | exact HB.out | apply below_alloc | apply pw_below_drewN | apply below_drew1 | refine below_set ?_ GE271.out | refine below_set ?_ GE284.out) | exact HB.out)))); have n5_ := Aside0.mk (blk_below (g := gb271) (o := .cells #[.string a1_0, .string a1_1, .slice A1_2 l1_2.length c1_2, .slice A1_3 l1_3.length c1_3, .int .i64 a1_4] 52 (0, 0)) (by (with_reducible repeat (first | refine blk_drewN ?_ _ | refine blk_drew ?_ | refine blk_alloc ?_ _)); exact BK271.out) hb); have n6_ := Aside0.mk (blk_below (g := gb284) (o := .cells #[.string t275, .string t276, .slice Ao27 t277.length co27, .slice Ao28 t280.length co28, .int .i64 t283] 52 (0, 0)) (by (with_reducible repeat (first | refine blk_drewN ?_ _ | refine blk_drew ?_ | refine blk_alloc ?_ _)); exact BK284.out) hb); have n7_ := Aside0.mk (below_step (by repeat (first | (with_reducible first | exact HB.out | apply below_alloc | apply pw_below_drewN | apply below_drew1 | refine below_set ?_ GE271.out | refine below_set ?_ GE284.out) | exact HB.out)) hb); clear HO279; clear HO282; clear HO287; clear HO290; clear BK271; clear BK284; clear HB; have HO279 := n0_; have HO282 := n1_; have HO287 := n2_; have HO290 := n3_; have HO293 := n4_; have BK271 := n5_; have BK284 := n6_; have HB := n7_; clear n0_ n1_ n2_ n3_ n4_ n5_ n6_ n7_; (try clear hb); (try clear hb2); (try clear hk); (try clear hi); (try clear ho0); obtain ⟨Ao36, co36, eo36⟩ := Kd.R_slice HO290.out; subst eo36; obtain ⟨Ao37, co37, eo37⟩ := Kd.R_slice HO293.out; subst eo37))
     go_loopg [8] kj2 (fun kq v8 w' => ∃ (x8_2 : Int), v8 = .int .i64 x8_2 ∧ Aside0 (colophonlaw20_StyleAll.l0 kq t288 t291 x8_2 a1_0 a1_1 l1_2 l1_3 a1_4 t275 t276 t277 t280 t283 = some r) ∧ Aside0 (kq ≤ kj2) ∧ Aside0 (Kd.R k33 33 w' w.heap.size (fun k_ => some k_ ≠ ((.slice Ao37 t291.length co37) : Value).ownBlock) (.slice Ao36 t288.length co36) t288) ∧ Aside0 (Kd.R k33 33 w' w.heap.size (fun k_ => some k_ ≠ ((.slice Ao36 t288.length co36) : Value).ownBlock) (.slice Ao37 t291.length co37) t291) ∧ Aside0 (Kd.R k82 82 w' w.heap.size (fun _ => True) (.slice Ao27 t277.length co27) t277) ∧ Aside0 (Kd.R k52 52 w' w.heap.size (fun k_ => some k_ ≠ ((.slice Ao27 t277.length co27) : Value).ownBlock ∧ k_ ≠ gb271 ∧ k_ ≠ gb284) (.slice Ao28 t280.length co28) t280) ∧ Aside0 (w'.heap[gb271]? = some (.cells #[.string a1_0, .string a1_1, (.slice A1_2 l1_2.length c1_2), (.slice A1_3 l1_3.length c1_3), .int .i64 a1_4] 52 (0, 0))) ∧ Aside0 (w'.heap[gb284]? = some (.cells #[.string t275, .string t276, (.slice Ao27 t277.length co27), (.slice Ao28 t280.length co28), .int .i64 t283] 52 (0, 0))) ∧ Aside0 (Below w.heap.size w w'))
     case atStart => exact ⟨(0), (by first | rfl | (simp; done) | (simp [*]; done)), H', ⟨Nat.le_refl _⟩, ⟨by (with_reducible repeat (first | apply Kd.R_alloc | apply Kd.R_drewN | apply Kd.R_drew)); exact Kd.R_mono HO290.out (fun _ hk => hk.2)⟩, ⟨by (with_reducible repeat (first | apply Kd.R_alloc | apply Kd.R_drewN | apply Kd.R_drew)); exact Kd.R_mono HO293.out (fun _ hk => hk.2)⟩, ⟨by (with_reducible repeat (first | apply Kd.R_alloc | apply Kd.R_drewN | apply Kd.R_drew)); exact HO279.out⟩, ⟨by (with_reducible repeat (first | apply Kd.R_alloc | apply Kd.R_drewN | apply Kd.R_drew)); exact HO282.out⟩, ⟨by (with_reducible repeat (first | refine blk_drewN ?_ _ | refine blk_drew ?_ | refine blk_alloc ?_ _)); exact BK271.out⟩, ⟨by (with_reducible repeat (first | refine blk_drewN ?_ _ | refine blk_drew ?_ | refine blk_alloc ?_ _)); exact BK284.out⟩, ⟨by repeat (first | (with_reducible first | exact HB.out | apply below_alloc | apply pw_below_drewN | apply below_drew1 | refine below_set ?_ GE271.out | refine below_set ?_ GE284.out) | exact HB.out)⟩⟩
     case round =>
      clear H'
      obtain ⟨x8_2, rfl, HA, HK2, HO_6, HO_7, HO_285002, HO_285003, BK271, BK284, HB⟩ := hrel
      cases gk with
      | zero => exact absurd HA.out (by simp [colophonlaw20_StyleAll.l0])
      | succ k2 =>
       have H := HA.out
       clear HA
       simp only [colophonlaw20_StyleAll.l0] at H
       by_cases c38 : x8_2 < (t288.length : Int)
       ·rw [if_pos c38] at H
        have c38b0 : decide (x8_2 < (t288.length : Int)) = true := decide_eq_true c38
        clear c38
        by_cases c39 : 0 ≤ x8_2
        ·rw [if_pos c39] at H
         have c39b0 : decide (0 ≤ x8_2) = true := decide_eq_true c39
         clear c39
         by_cases c40 : x8_2 < (t291.length : Int)
         ·rw [if_pos c40] at H
          have c40b0 : decide (x8_2 < (t291.length : Int)) = true := decide_eq_true c40
          clear c40
          by_cases c41 : ((rd_T33 t288 x8_2).f0) = ((rd_T33 t291 x8_2).f0)
          ·rw [if_pos c41] at H
           have c41b0 : (((rd_T33 t288 x8_2).f0) == ((rd_T33 t291 x8_2).f0)) = true := beq_iff_eq.mpr c41
           have c41b1 : (((rd_T33 t288 x8_2).f0) != ((rd_T33 t291 x8_2).f0)) = false := bne_eq_false_iff_eq.mpr c41
           clear c41
           by_cases c42 : ((rd_T33 t288 x8_2).f1) = ((rd_T33 t291 x8_2).f1)
           ·rw [if_pos c42] at H
            have c42b0 : (((rd_T33 t288 x8_2).f1) == ((rd_T33 t291 x8_2).f1)) = true := beq_iff_eq.mpr c42
            have c42b1 : (((rd_T33 t288 x8_2).f1) != ((rd_T33 t291 x8_2).f1)) = false := bne_eq_false_iff_eq.mpr c42
            clear c42
            by_cases c43 : ((rd_T33 t288 x8_2).f2) = ((rd_T33 t291 x8_2).f2)
            ·rw [if_pos c43] at H
             have c43b0 : (((rd_T33 t288 x8_2).f2) == ((rd_T33 t291 x8_2).f2)) = true := beq_iff_eq.mpr c43
             have c43b1 : (((rd_T33 t288 x8_2).f2) != ((rd_T33 t291 x8_2).f2)) = false := bne_eq_false_iff_eq.mpr c43
             clear c43
             by_cases c44 : ((rd_T33 t288 x8_2).f3) = ((rd_T33 t291 x8_2).f3)
             ·rw [if_pos c44] at H
              have c44b0 : (((rd_T33 t288 x8_2).f3) == ((rd_T33 t291 x8_2).f3)) = true := beq_iff_eq.mpr c44
              have c44b1 : (((rd_T33 t288 x8_2).f3) != ((rd_T33 t291 x8_2).f3)) = false := bne_eq_false_iff_eq.mpr c44
              clear c44
              by_cases c45 : ((rd_T33 t288 x8_2).f4) = ((rd_T33 t291 x8_2).f4)
              ·rw [if_pos c45] at H
               have c45b0 : (((rd_T33 t288 x8_2).f4) == ((rd_T33 t291 x8_2).f4)) = true := beq_iff_eq.mpr c45
               have c45b1 : (((rd_T33 t288 x8_2).f4) != ((rd_T33 t291 x8_2).f4)) = false := bne_eq_false_iff_eq.mpr c45
               clear c45
               by_cases c46 : ((rd_T33 t288 x8_2).f5) = ((rd_T33 t291 x8_2).f5)
               ·rw [if_pos c46] at H
                have c46b0 : (((rd_T33 t288 x8_2).f5) == ((rd_T33 t291 x8_2).f5)) = true := beq_iff_eq.mpr c46
                have c46b1 : (((rd_T33 t288 x8_2).f5) != ((rd_T33 t291 x8_2).f5)) = false := bne_eq_false_iff_eq.mpr c46
                clear c46
                by_cases c47 : ((rd_T33 t288 x8_2).f6) = ((rd_T33 t291 x8_2).f6)
                ·rw [if_pos c47] at H
                 have c47b0 : (((rd_T33 t288 x8_2).f6) == ((rd_T33 t291 x8_2).f6)) = true := beq_iff_eq.mpr c47
                 have c47b1 : (((rd_T33 t288 x8_2).f6) != ((rd_T33 t291 x8_2).f6)) = false := bne_eq_false_iff_eq.mpr c47
                 clear c47
                 by_cases c48 : ((rd_T33 t288 x8_2).f7) = ((rd_T33 t291 x8_2).f7)
                 ·rw [if_pos c48] at H
                  have c48b0 : (((rd_T33 t288 x8_2).f7) == ((rd_T33 t291 x8_2).f7)) = true := beq_iff_eq.mpr c48
                  have c48b1 : (((rd_T33 t288 x8_2).f7) != ((rd_T33 t291 x8_2).f7)) = false := bne_eq_false_iff_eq.mpr c48
                  clear c48
                  by_cases c49 : ((rd_T33 t288 x8_2).f8) = ((rd_T33 t291 x8_2).f8)
                  ·rw [if_pos c49] at H
                   have c49b0 : (((rd_T33 t288 x8_2).f8) == ((rd_T33 t291 x8_2).f8)) = true := beq_iff_eq.mpr c49
                   have c49b1 : (((rd_T33 t288 x8_2).f8) != ((rd_T33 t291 x8_2).f8)) = false := bne_eq_false_iff_eq.mpr c49
                   clear c49
                   have H' := Aside0.mk H
                   clear H
                   try go_wp2
                   have n0_ := Aside0.mk (Kd.R_drew HO_6.out)
                   have n1_ := Aside0.mk (Kd.R_drew HO_7.out)
                   have n2_ := Aside0.mk (Kd.R_drew HO_285002.out)
                   have n3_ := Aside0.mk (Kd.R_drew HO_285003.out)
                   have n4_ := Aside0.mk (blk_drew BK271.out)
                   have n5_ := Aside0.mk (blk_drew BK284.out)
                   have n6_ := Aside0.mk (below_drew1 HB.out)
                   clear HO_6
                   clear HO_7
                   clear HO_285002
                   clear HO_285003
                   clear BK271
                   clear BK284
                   clear HB
                   have HO_6 := n0_
                   have HO_7 := n1_
                   have HO_285002 := n2_
                   have HO_285003 := n3_
                   have BK271 := n4_
                   have BK284 := n5_
                   have HB := n6_
                   clear n0_ n1_ n2_ n3_ n4_ n5_ n6_
                   have p294 : 0 ≤ (x8_2 : Int) := of_decide_eq_true (by first | (with_reducible assumption) | assumption)
                   have q294 : x8_2 < (t288.length : Int) := of_decide_eq_true (by first | (with_reducible assumption) | assumption)
                   obtain ⟨ad294, e294, hx294_0, hx294_1, hx294_2, hx294_3, hx294_4, hx294_5, hx294_6, hx294_7, hx294_8⟩ := at_T33 (Kd.R_reads' HO_6.out).2.2 x8_2 p294 q294
                   cases e294
                   replace p294 := eq_true p294
                   replace q294 := eq_true q294
                   have p295 : 0 ≤ (x8_2 : Int) := of_decide_eq_true (by first | (with_reducible assumption) | assumption)
                   have q295 : x8_2 < (t291.length : Int) := of_decide_eq_true (by first | (with_reducible assumption) | assumption)
                   obtain ⟨ad295, e295, hx295_0, hx295_1, hx295_2, hx295_3, hx295_4, hx295_5, hx295_6, hx295_7, hx295_8⟩ := at_T33 (Kd.R_reads' HO_7.out).2.2 x8_2 p295 q295
                   cases e295
                   replace p295 := eq_true p295
                   replace q295 := eq_true q295
                   have heq : ∀ w : World, (Op.equalIn 10000 33 (.agg #[.int .i64 (rd_T33 t288 x8_2).f0, .int .i64 (rd_T33 t288 x8_2).f1, .int .i64 (rd_T33 t288 x8_2).f2, .int .i64 (rd_T33 t288 x8_2).f3, .int .i64 (rd_T33 t288 x8_2).f4, .int .i64 (rd_T33 t288 x8_2).f5, .int .i64 (rd_T33 t288 x8_2).f6, .int .i64 (rd_T33 t288 x8_2).f7, .int .i64 (rd_T33 t288 x8_2).f8]) (.agg #[.int .i64 (rd_T33 t291 x8_2).f0, .int .i64 (rd_T33 t291 x8_2).f1, .int .i64 (rd_T33 t291 x8_2).f2, .int .i64 (rd_T33 t291 x8_2).f3, .int .i64 (rd_T33 t291 x8_2).f4, .int .i64 (rd_T33 t291 x8_2).f5, .int .i64 (rd_T33 t291 x8_2).f6, .int .i64 (rd_T33 t291 x8_2).f7, .int .i64 (rd_T33 t291 x8_2).f8])).run Try.prog w = .ok true w := fun w => (St.eq_arr 9998 33 9 Try.underlying33 [(rd_T33 t288 x8_2).f0, (rd_T33 t288 x8_2).f1, (rd_T33 t288 x8_2).f2, (rd_T33 t288 x8_2).f3, (rd_T33 t288 x8_2).f4, (rd_T33 t288 x8_2).f5, (rd_T33 t288 x8_2).f6, (rd_T33 t288 x8_2).f7, (rd_T33 t288 x8_2).f8] [(rd_T33 t291 x8_2).f0, (rd_T33 t291 x8_2).f1, (rd_T33 t291 x8_2).f2, (rd_T33 t291 x8_2).f3, (rd_T33 t291 x8_2).f4, (rd_T33 t291 x8_2).f5, (rd_T33 t291 x8_2).f6, (rd_T33 t291 x8_2).f7, (rd_T33 t291 x8_2).f8] w rfl rfl).trans (by rw [decide_eq_true (by rw [beq_iff_eq.mp c41b0, beq_iff_eq.mp c42b0, beq_iff_eq.mp c43b0, beq_iff_eq.mp c44b0, beq_iff_eq.mp c45b0, beq_iff_eq.mp c46b0, beq_iff_eq.mp c47b0, beq_iff_eq.mp c48b0, beq_iff_eq.mp c49b0])])
                   refine start_ (n := 9) (S := fun w' => w'.cell? (ad294.add ((x8_2).toNat * 9)) = some (.int .i64 ((rd_T33 t288 x8_2).f0)) ∧ w'.cell? ⟨(ad294.add ((x8_2).toNat * 9)).block, (ad294.add ((x8_2).toNat * 9)).off + 1, none⟩ = some (.int .i64 ((rd_T33 t288 x8_2).f1)) ∧ w'.cell? ⟨(ad294.add ((x8_2).toNat * 9)).block, (ad294.add ((x8_2).toNat * 9)).off + 2, none⟩ = some (.int .i64 ((rd_T33 t288 x8_2).f2)) ∧ w'.cell? ⟨(ad294.add ((x8_2).toNat * 9)).block, (ad294.add ((x8_2).toNat * 9)).off + 3, none⟩ = some (.int .i64 ((rd_T33 t288 x8_2).f3)) ∧ w'.cell? ⟨(ad294.add ((x8_2).toNat * 9)).block, (ad294.add ((x8_2).toNat * 9)).off + 4, none⟩ = some (.int .i64 ((rd_T33 t288 x8_2).f4)) ∧ w'.cell? ⟨(ad294.add ((x8_2).toNat * 9)).block, (ad294.add ((x8_2).toNat * 9)).off + 5, none⟩ = some (.int .i64 ((rd_T33 t288 x8_2).f5)) ∧ w'.cell? ⟨(ad294.add ((x8_2).toNat * 9)).block, (ad294.add ((x8_2).toNat * 9)).off + 6, none⟩ = some (.int .i64 ((rd_T33 t288 x8_2).f6)) ∧ w'.cell? ⟨(ad294.add ((x8_2).toNat * 9)).block, (ad294.add ((x8_2).toNat * 9)).off + 7, none⟩ = some (.int .i64 ((rd_T33 t288 x8_2).f7)) ∧ w'.cell? ⟨(ad294.add ((x8_2).toNat * 9)).block, (ad294.add ((x8_2).toNat * 9)).off + 8, none⟩ = some (.int .i64 ((rd_T33 t288 x8_2).f8)) ∧ w'.cell? (ad295.add ((x8_2).toNat * 9)) = some (.int .i64 ((rd_T33 t291 x8_2).f0)) ∧ w'.cell? ⟨(ad295.add ((x8_2).toNat * 9)).block, (ad295.add ((x8_2).toNat * 9)).off + 1, none⟩ = some (.int .i64 ((rd_T33 t291 x8_2).f1)) ∧ w'.cell? ⟨(ad295.add ((x8_2).toNat * 9)).block, (ad295.add ((x8_2).toNat * 9)).off + 2, none⟩ = some (.int .i64 ((rd_T33 t291 x8_2).f2)) ∧ w'.cell? ⟨(ad295.add ((x8_2).toNat * 9)).block, (ad295.add ((x8_2).toNat * 9)).off + 3, none⟩ = some (.int .i64 ((rd_T33 t291 x8_2).f3)) ∧ w'.cell? ⟨(ad295.add ((x8_2).toNat * 9)).block, (ad295.add ((x8_2).toNat * 9)).off + 4, none⟩ = some (.int .i64 ((rd_T33 t291 x8_2).f4)) ∧ w'.cell? ⟨(ad295.add ((x8_2).toNat * 9)).block, (ad295.add ((x8_2).toNat * 9)).off + 5, none⟩ = some (.int .i64 ((rd_T33 t291 x8_2).f5)) ∧ w'.cell? ⟨(ad295.add ((x8_2).toNat * 9)).block, (ad295.add ((x8_2).toNat * 9)).off + 6, none⟩ = some (.int .i64 ((rd_T33 t291 x8_2).f6)) ∧ w'.cell? ⟨(ad295.add ((x8_2).toNat * 9)).block, (ad295.add ((x8_2).toNat * 9)).off + 7, none⟩ = some (.int .i64 ((rd_T33 t291 x8_2).f7)) ∧ w'.cell? ⟨(ad295.add ((x8_2).toNat * 9)).block, (ad295.add ((x8_2).toNat * 9)).off + 8, none⟩ = some (.int .i64 ((rd_T33 t291 x8_2).f8))) (ds := []) #[false, false, false, false, false, false, false, false, false] (by kernel_rfl) rfl rfl ⟨hx294_0, hx294_1, hx294_2, hx294_3, hx294_4, hx294_5, hx294_6, hx294_7, hx294_8, hx295_0, hx295_1, hx295_2, hx295_3, hx295_4, hx295_5, hx295_6, hx295_7, hx295_8⟩ (fun hHeld => ?_); refine with_tabW colophonlaw20_StyleAll.tab11 colophonlaw20_StyleAll.bits11 (fun HT_ HW_ => ?_)
                   generalize wr.drew = w50 at HO_6 HO_7 HO_285002 HO_285003 BK271 BK284 HB hx294_0 hx294_1 hx294_2 hx294_3 hx294_4 hx294_5 hx294_6 hx294_7 hx294_8 hx295_0 hx295_1 hx295_2 hx295_3 hx295_4 hx295_5 hx295_6 hx295_7 hx295_8 hHeld ⊢
                   refine pure_ (i := 0) (N := some 41) (v := ?_) (a' := ?_) #[true, false, false, false, false, false, false, false, false] rfl rfl (any_of HT_.out (by kernel_rfl)) (fun _ _ _ h => h) (Or.inl ⟨by rfl, ?_⟩) ?_ ?_
                   rotate_left
                   ·intro w'
                    go_simp
                    with_reducible rfl
                   rotate_left
                   ·simp only [Act.put, List.setIfInBounds_toArray, List.set_cons_zero, List.set_cons_succ, i64_w, i32_w]
                    rfl
                   refine pure_ (i := 1) (N := some 42) (v := ?_) (a' := ?_) #[true, true, false, false, false, false, false, false, false] rfl rfl (any_of HT_.out (by kernel_rfl)) (fun _ _ _ h => h) (Or.inl ⟨by rfl, ?_⟩) ?_ ?_
                   rotate_left
                   ·intro w'
                    go_simp
                    with_reducible rfl
                   rotate_left
                   ·simp only [Act.put, List.setIfInBounds_toArray, List.set_cons_zero, List.set_cons_succ, i64_w, i32_w]
                    rfl
                   refine pure_ (i := 2) (N := some 43) (v := ?_) (a' := ?_) #[true, true, true, false, false, false, false, false, false] rfl rfl (any_of HT_.out (by kernel_rfl)) (fun _ _ _ h => h) (Or.inl ⟨by rfl, ?_⟩) ?_ ?_
                   rotate_left
                   ·intro w'
                    go_simp
                    with_reducible rfl
                   rotate_left
                   ·simp only [Act.put, List.setIfInBounds_toArray, List.set_cons_zero, List.set_cons_succ, i64_w, i32_w]
                    rfl
                   refine pure_ (i := 4) (N := some 45) (v := ?_) (a' := ?_) #[true, true, true, false, true, false, false, false, false] rfl rfl (any_of HT_.out (by kernel_rfl)) (fun _ _ _ h => h) (Or.inl ⟨by rfl, ?_⟩) ?_ ?_
                   rotate_left
                   ·intro w'
                    go_simp
                    with_reducible rfl
                   rotate_left
                   ·simp only [Act.put, List.setIfInBounds_toArray, List.set_cons_zero, List.set_cons_succ, i64_w, i32_w]
                    rfl
                   refine pure_ (i := 5) (N := some 46) (v := ?_) (a' := ?_) #[true, true, true, false, true, true, false, false, false] rfl rfl (any_of HT_.out (by kernel_rfl)) (fun _ _ _ h => h) (Or.inl ⟨by rfl, ?_⟩) ?_ ?_
                   rotate_left
                   ·intro w'
                    go_simp
                    with_reducible rfl
                   rotate_left
                   ·simp only [Act.put, List.setIfInBounds_toArray, List.set_cons_zero, List.set_cons_succ, i64_w, i32_w]
                    rfl
                   refine pure_ (i := 6) (N := some 47) (v := ?_) (a' := ?_) #[true, true, true, false, true, true, true, false, false] rfl rfl (any_of HT_.out (by kernel_rfl)) (fun _ _ _ h => h) (Or.inl ⟨by rfl, ?_⟩) ?_ ?_
                   rotate_left
                   ·intro w'
                    go_simp
                    with_reducible rfl
                   rotate_left
                   ·simp only [Act.put, List.setIfInBounds_toArray, List.set_cons_zero, List.set_cons_succ, i64_w, i32_w]
                    rfl
                   refine take_ (i := 3) (N := some 44) (v := ?_) (a' := ?_) #[true, true, true, true, true, true, true, false, false] rfl rfl (take_ofW HT_.out HW_.out (by kernel_rfl)) (fun _ _ _ h => h) (Or.inl ⟨by rfl, ?_⟩) hHeld ?_ ?_
                   rotate_left
                   ·rintro w' ⟨s0, s1, s2, s3, s4, s5, s6, s7, s8, s9, s10, s11, s12, s13, s14, s15, s16, s17⟩
                    go_simp
                    with_reducible rfl
                   rotate_left
                   ·simp only [Act.put, List.setIfInBounds_toArray, List.set_cons_zero, List.set_cons_succ, i64_w, i32_w]
                    rfl
                   refine take_ (i := 7) (N := some 48) (v := ?_) (a' := ?_) #[true, true, true, true, true, true, true, true, false] rfl rfl (take_ofW HT_.out HW_.out (by kernel_rfl)) (fun _ _ _ h => h) (Or.inl ⟨by rfl, ?_⟩) hHeld ?_ ?_
                   rotate_left
                   ·rintro w' ⟨s0, s1, s2, s3, s4, s5, s6, s7, s8, s9, s10, s11, s12, s13, s14, s15, s16, s17⟩
                    go_simp
                    with_reducible rfl
                   rotate_left
                   ·simp only [Act.put, List.setIfInBounds_toArray, List.set_cons_zero, List.set_cons_succ, i64_w, i32_w]
                    rfl
                   refine pure_ (i := 8) (N := some 49) (v := ?_) (a' := ?_) #[true, true, true, true, true, true, true, true, true] rfl rfl (any_of HT_.out (by kernel_rfl)) (fun _ _ _ h => h) (Or.inl ⟨by rfl, ?_⟩) ?_ ?_
                   rotate_left
                   ·intro w'
                    go_simp
                    with_reducible rfl
                   rotate_left
                   ·simp only [Act.put, List.setIfInBounds_toArray, List.set_cons_zero, List.set_cons_succ, i64_w, i32_w]
                    rfl
                   refine done_ (done_of HT_.out (by kernel_rfl)) ?_
                   try go_wp2
                   go_roundg k2
                   case measure => have := HJ2.out; have := HK2.out; omega
                   case rel => exact ⟨(wrap64 (x8_2 + 1)), (by first | rfl | (simp; done) | (simp [*]; done)), H', ⟨by have := HJ2.out; have := HK2.out; omega⟩, ⟨by (with_reducible repeat (first | apply Kd.R_alloc | apply Kd.R_drewN | apply Kd.R_drew)); exact HO_6.out⟩, ⟨by (with_reducible repeat (first | apply Kd.R_alloc | apply Kd.R_drewN | apply Kd.R_drew)); exact HO_7.out⟩, ⟨by (with_reducible repeat (first | apply Kd.R_alloc | apply Kd.R_drewN | apply Kd.R_drew)); exact HO_285002.out⟩, ⟨by (with_reducible repeat (first | apply Kd.R_alloc | apply Kd.R_drewN | apply Kd.R_drew)); exact HO_285003.out⟩, ⟨by (with_reducible repeat (first | refine blk_drewN ?_ _ | refine blk_drew ?_ | refine blk_alloc ?_ _)); exact BK271.out⟩, ⟨by (with_reducible repeat (first | refine blk_drewN ?_ _ | refine blk_drew ?_ | refine blk_alloc ?_ _)); exact BK284.out⟩, ⟨by repeat (first | (with_reducible first | exact HB.out | apply below_alloc | apply pw_below_drewN | apply below_drew1 | refine below_set ?_ GE271.out | refine below_set ?_ GE284.out) | exact HB.out)⟩⟩
                  ·rw [if_neg c49] at H
                   exact absurd H (by simp)
                 ·rw [if_neg c48] at H
                  exact absurd H (by simp)
                ·rw [if_neg c47] at H
                 exact absurd H (by simp)
               ·rw [if_neg c46] at H
                exact absurd H (by simp)
              ·rw [if_neg c45] at H
               exact absurd H (by simp)
             ·rw [if_neg c44] at H
              exact absurd H (by simp)
            ·rw [if_neg c43] at H
             exact absurd H (by simp)
           ·rw [if_neg c42] at H
            exact absurd H (by simp)
          ·rw [if_neg c41] at H
           exact absurd H (by simp)
         ·rw [if_neg c40] at H
          exact absurd H (by simp)
        ·rw [if_neg c39] at H
         exact absurd H (by simp)
       ·rw [if_neg c38] at H
        have c38b0 : decide (x8_2 < (t288.length : Int)) = false := decide_eq_false c38
        clear c38
        replace H := Option.bind_eq_some_iff.mp H
        obtain ⟨t296, A600, H⟩ := H
        replace H : (if t296 = true then ((colophonlaw20_wakes.f k2).bind fun t297 => (some t297)) else (none)) = some r := H
        have A60 := Aside0.mk A600
        clear A600
        by_cases c61 : t296 = true
        ·subst c61
         have H1 : ((colophonlaw20_wakes.f k2).bind fun t297 => (some t297)) = some r := by rw [if_pos rfl] at H; exact H
         clear H
         have H := H1
         clear H1
         replace H := Option.bind_eq_some_iff.mp H
         obtain ⟨t297, A620, H⟩ := H
         replace H : (some t297) = some r := H
         have A62 := Aside0.mk A620
         clear A620
         obtain rfl := Option.some.inj H
         have hnb63 := NB284_271.out
         have hnc63 := NB271_284.out
         have hcz64_0 : wr.cell? ⟨gb284, 0, none⟩ = some (.string t275) := (blk_cell BK284.out 0).trans rfl
         have hcz64_1 : wr.cell? ⟨gb284, 1, none⟩ = some (.string t276) := (blk_cell BK284.out 1).trans rfl
         have hcz64_2 : wr.cell? ⟨gb284, 2, none⟩ = some (.slice Ao27 t277.length co27) := (blk_cell BK284.out 2).trans rfl
         have hcz64_3 : wr.cell? ⟨gb284, 3, none⟩ = some (.slice Ao28 t280.length co28) := (blk_cell BK284.out 3).trans rfl
         have hcz64_4 : wr.cell? ⟨gb284, 4, none⟩ = some (.int .i64 t283) := (blk_cell BK284.out 4).trans rfl
         have hfz64_0 := blk_frozen BK284.out 0
         have hfz64_1 := blk_frozen BK284.out 1
         have hfz64_2 := blk_frozen BK284.out 2
         have hfz64_3 := blk_frozen BK284.out 3
         have hfz64_4 := blk_frozen BK284.out 4
         have hcz65_0 : wr.cell? ⟨gb271, 0, none⟩ = some (.string a1_0) := (blk_cell BK271.out 0).trans rfl
         have hcz65_1 : wr.cell? ⟨gb271, 1, none⟩ = some (.string a1_1) := (blk_cell BK271.out 1).trans rfl
         have hcz65_2 : wr.cell? ⟨gb271, 2, none⟩ = some (.slice A1_2 l1_2.length c1_2) := (blk_cell BK271.out 2).trans rfl
         have hcz65_3 : wr.cell? ⟨gb271, 3, none⟩ = some (.slice A1_3 l1_3.length c1_3) := (blk_cell BK271.out 3).trans rfl
         have hcz65_4 : wr.cell? ⟨gb271, 4, none⟩ = some (.int .i64 a1_4) := (blk_cell BK271.out 4).trans rfl
         have hfz65_0 := blk_frozen BK271.out 0
         have hfz65_1 := blk_frozen BK271.out 1
         have hfz65_2 := blk_frozen BK271.out 2
         have hfz65_3 := blk_frozen BK271.out 3
         have hfz65_4 := blk_frozen BK271.out 4
         go_wp2_with (first | ((with_reducible refine gate_callee (f := 30) rfl ?_); refine goesL_ (some 52) rfl rfl Try.func30 (by kernel_rfl) rfl #[.agg #[.string t275, .string t276, .slice Ao27 t277.length co27, .slice Ao28 t280.length co28, .int .i64 t283], .agg #[.string a1_0, .string a1_1, .slice A1_2 l1_2.length c1_2, .slice A1_3 l1_3.length c1_3, .int .i64 a1_4]] rfl (by (try simp only [List.map_toArray, List.map_cons, List.map_nil]); first | done | rfl | (simp only [List.length_drop, List.length_take]; rfl)) ?_; (with_reducible refine (colophonref18_Same.calls k2 t275 t276 _ _ t277 _ _ t280 t283 a1_0 a1_1 _ _ l1_2 _ _ l1_3 a1_4 true _ ?side1 ?side2 ?side3 ?side4 ?side5 ?side6 ?side7 ?side8 A60.out).mono ?_); (case side1 => repeat (first | exact (Kd.R_reads' HO_285002.out).2.2 | (with_reducible refine Kd.C_alloc ?_ _) | (with_reducible refine Kd.C_drewN ?_ _) | (with_reducible refine Kd.C_drew ?_))); (case side2 => exact (Kd.R_reads' HO_285002.out).2.1); (case side3 => repeat (first | exact (Kd.R_reads' HO_285003.out).2.2 | (with_reducible refine Kd.C_alloc ?_ _) | (with_reducible refine Kd.C_drewN ?_ _) | (with_reducible refine Kd.C_drew ?_))); (case side4 => exact (Kd.R_reads' HO_285003.out).2.1); (case side5 => repeat (first | exact (Kd.C_below HR1_2.out HB.out) | (with_reducible refine Kd.C_alloc ?_ _) | (with_reducible refine Kd.C_drewN ?_ _) | (with_reducible refine Kd.C_drew ?_))); (case side6 => exact HC1_2.out); (case side7 => repeat (first | exact (Kd.C_below HR1_3.out HB.out) | (with_reducible refine Kd.C_alloc ?_ _) | (with_reducible refine Kd.C_drewN ?_ _) | (with_reducible refine Kd.C_drew ?_))); (case side8 => exact HC1_3.out); rintro e w66 ⟨rfl, hb⟩; refine ⟨_, rfl, ?_⟩; have n0_ := Aside0.mk (Kd.R_below (by (with_reducible repeat (first | apply Kd.R_alloc | apply Kd.R_drewN | apply Kd.R_drew)); exact HO_6.out) hb); have n1_ := Aside0.mk (Kd.R_below (by (with_reducible repeat (first | apply Kd.R_alloc | apply Kd.R_drewN | apply Kd.R_drew)); exact HO_7.out) hb); have n2_ := Aside0.mk (Kd.R_below (by (with_reducible repeat (first | apply Kd.R_alloc | apply Kd.R_drewN | apply Kd.R_drew)); exact HO_285002.out) hb); have n3_ := Aside0.mk (Kd.R_below (by (with_reducible repeat (first | apply Kd.R_alloc | apply Kd.R_drewN | apply Kd.R_drew)); exact HO_285003.out) hb); have n4_ := Aside0.mk (blk_below (g := gb271) (o := .cells #[.string a1_0, .string a1_1, .slice A1_2 l1_2.length c1_2, .slice A1_3 l1_3.length c1_3, .int .i64 a1_4] 52 (0, 0)) (by (with_reducible repeat (first | refine blk_drewN ?_ _ | refine blk_drew ?_ | refine blk_alloc ?_ _)); exact BK271.out) hb); have n5_ := Aside0.mk (blk_below (g := gb284) (o := .cells #[.string t275, .string t276, .slice Ao27 t277.length co27, .slice Ao28 t280.length co28, .int .i64 t283] 52 (0, 0)) (by (with_reducible repeat (first | refine blk_drewN ?_ _ | refine blk_drew ?_ | refine blk_alloc ?_ _)); exact BK284.out) hb); have n6_ := Aside0.mk (below_step (by repeat (first | (with_reducible first | exact HB.out | apply below_alloc | apply pw_below_drewN | apply below_drew1 | refine below_set ?_ GE271.out | refine below_set ?_ GE284.out) | exact HB.out)) hb); clear HO_6; clear HO_7; clear HO_285002; clear HO_285003; clear BK271; clear BK284; clear HB; have HO_6 := n0_; have HO_7 := n1_; have HO_285002 := n2_; have HO_285003 := n3_; have BK271 := n4_; have BK284 := n5_; have HB := n6_; clear n0_ n1_ n2_ n3_ n4_ n5_ n6_; (try clear hb); (try clear hb2); (try clear hk); (try clear hi)) | (go_at_call 10; (with_reducible refine (colophonlaw20_wakes.calls k2  t297 _ A62.out).mono ?_); rintro e w67 ⟨rfl, hb⟩; have n0_ := Aside0.mk (Kd.R_below (by (with_reducible repeat (first | apply Kd.R_alloc | apply Kd.R_drewN | apply Kd.R_drew)); exact HO_6.out) hb); have n1_ := Aside0.mk (Kd.R_below (by (with_reducible repeat (first | apply Kd.R_alloc | apply Kd.R_drewN | apply Kd.R_drew)); exact HO_7.out) hb); have n2_ := Aside0.mk (Kd.R_below (by (with_reducible repeat (first | apply Kd.R_alloc | apply Kd.R_drewN | apply Kd.R_drew)); exact HO_285002.out) hb); have n3_ := Aside0.mk (Kd.R_below (by (with_reducible repeat (first | apply Kd.R_alloc | apply Kd.R_drewN | apply Kd.R_drew)); exact HO_285003.out) hb); have n4_ := Aside0.mk (blk_below (g := gb271) (o := .cells #[.string a1_0, .string a1_1, .slice A1_2 l1_2.length c1_2, .slice A1_3 l1_3.length c1_3, .int .i64 a1_4] 52 (0, 0)) (by (with_reducible repeat (first | refine blk_drewN ?_ _ | refine blk_drew ?_ | refine blk_alloc ?_ _)); exact BK271.out) hb); have n5_ := Aside0.mk (blk_below (g := gb284) (o := .cells #[.string t275, .string t276, .slice Ao27 t277.length co27, .slice Ao28 t280.length co28, .int .i64 t283] 52 (0, 0)) (by (with_reducible repeat (first | refine blk_drewN ?_ _ | refine blk_drew ?_ | refine blk_alloc ?_ _)); exact BK284.out) hb); have n6_ := Aside0.mk (below_step (by repeat (first | (with_reducible first | exact HB.out | apply below_alloc | apply pw_below_drewN | apply below_drew1 | refine below_set ?_ GE271.out | refine below_set ?_ GE284.out) | exact HB.out)) hb); clear HO_6; clear HO_7; clear HO_285002; clear HO_285003; clear BK271; clear BK284; clear HB; have HO_6 := n0_; have HO_7 := n1_; have HO_285002 := n2_; have HO_285003 := n3_; have BK271 := n4_; have BK284 := n5_; have HB := n6_; clear n0_ n1_ n2_ n3_ n4_ n5_ n6_; (try clear hb); (try clear hb2); (try clear hk); (try clear hi)))
         go_ret
         exact ⟨by first | rfl | (simp [errW_none, errW_some] <;> rfl) | (simp [*, errW_none, errW_some] <;> rfl), by repeat (first | (with_reducible first | exact HB.out | apply below_alloc | apply pw_below_drewN | apply below_drew1 | refine below_set ?_ GE271.out | refine below_set ?_ GE284.out) | exact HB.out)⟩
        ·replace c61 := Bool.eq_false_iff.mpr c61
         subst c61
         exact absurd H (by simp)
    ·rw [if_neg c21] at H
     exact absurd H (by simp)end Go.Proofs.Ytpembifnjlekdaa.PStyleAll
