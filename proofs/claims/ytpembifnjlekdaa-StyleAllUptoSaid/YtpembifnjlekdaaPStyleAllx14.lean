-- Written by a copy of the print that this session has turned (wip/tools/patchprint.py): arrays as records.
import Derived.Test.YtpembifnjlekdaaPStyleAllx0
import Derived.Test.YtpembifnjlekdaaPStyleAllx1
namespace Go.Proofs.Ytpembifnjlekdaa.PStyleAll
open Go.RowKit Go.Proofs.YtpembifnjlekdaaW.PrintWords Go.Proofs.YtpembifnjlekdaaW.PrintLast Go.Proofs.YtpembifnjlekdaaW.PrintMore
attribute [local go_sem] max2_int min2_int max_two min_two max_three min_three max_four min_four   -- for this text's walks alone
set_option linter.unusedVariables false
set_option linter.unusedSimpArgs false

attribute [local go_sem high] eqA82
/-! ### colophonref18_Same: function 30 -/
mutual
def colophonref18_Same.j0 : Nat → Bool → ByteArray → ByteArray → List (S82) → List (S52) → Int → ByteArray → ByteArray → List (S82) → List (S52) → Int → Option (Bool)
  | 0, _, _, _, _, _, _, _, _, _, _, _ => none
  | k + 1, x36, x265000, x265001, x265002, x265003, x265004, x266000, x266001, x266002, x266003, x266004 => if x36 = true then (none) else (colophonref18_Same.l0 k 0 x265000 x265001 x265002 x265003 x265004 x266000 x266001 x266002 x266003 x266004)
def colophonref18_Same.l0 : Nat → Int → ByteArray → ByteArray → List (S82) → List (S52) → Int → ByteArray → ByteArray → List (S82) → List (S52) → Int → Option (Bool)
  | 0, _, _, _, _, _, _, _, _, _, _, _ => none
  | k + 1, x5, x265000, x265001, x265002, x265003, x265004, x266000, x266001, x266002, x266003, x266004 => if x5 < (x265002.length : Int) then (if 0 ≤ x5 then (if x5 < (x266002.length : Int) then (if (!((((rd_T82 x265002 x5).f0).toList) == (((rd_T82 x266002 x5).f0).toList)) || (!((((rd_T82 x265002 x5).f1).toList) == (((rd_T82 x266002 x5).f1).toList)))) = true then (none) else (colophonref18_Same.l0 k (wrap64 (x5 + 1)) x265000 x265001 x265002 x265003 x265004 x266000 x266001 x266002 x266003 x266004)) else (none)) else (none)) else (colophonref18_Same.l1 k 0 x265000 x265001 x265002 x265003 x265004 x266000 x266001 x266002 x266003 x266004)
def colophonref18_Same.l1 : Nat → Int → ByteArray → ByteArray → List (S82) → List (S52) → Int → ByteArray → ByteArray → List (S82) → List (S52) → Int → Option (Bool)
  | 0, _, _, _, _, _, _, _, _, _, _, _ => none
  | k + 1, x6, x265000, x265001, x265002, x265003, x265004, x266000, x266001, x266002, x266003, x266004 => if x6 < (x265003.length : Int) then (if 0 ≤ x6 then (if x6 < (x266003.length : Int) then ((colophonref18_Same.f k ((rd_T52 x265003 x6).f0) ((rd_T52 x265003 x6).f1) ((rd_T52 x265003 x6).f2) ((rd_T52 x265003 x6).f3) ((rd_T52 x265003 x6).f4) ((rd_T52 x266003 x6).f0) ((rd_T52 x266003 x6).f1) ((rd_T52 x266003 x6).f2) ((rd_T52 x266003 x6).f3) ((rd_T52 x266003 x6).f4)).bind fun t270 => (if t270 = true then (colophonref18_Same.l1 k (wrap64 (x6 + 1)) x265000 x265001 x265002 x265003 x265004 x266000 x266001 x266002 x266003 x266004) else (none))) else (none)) else (none)) else (some true)
def colophonref18_Same.f : Nat → ByteArray → ByteArray → List (S82) → List (S52) → Int → ByteArray → ByteArray → List (S82) → List (S52) → Int → Option (Bool)
  | 0, _, _, _, _, _, _, _, _, _, _ => none
  | k + 1, a0_0, a0_1, l0_2, l0_3, a0_4, a1_0, a1_1, l1_2, l1_3, a1_4 => if a0_0.toList = a1_0.toList then (if a0_1.toList = a1_1.toList then (if (l0_2.length : Int) = (l1_2.length : Int) then (colophonref18_Same.j0 k ((l0_3.length : Int) != (l1_3.length : Int)) a0_0 a0_1 l0_2 l0_3 a0_4 a1_0 a1_1 l1_2 l1_3 a1_4) else (colophonref18_Same.j0 k true a0_0 a0_1 l0_2 l0_3 a0_4 a1_0 a1_1 l1_2 l1_3 a1_4)) else (colophonref18_Same.j0 k true a0_0 a0_1 l0_2 l0_3 a0_4 a1_0 a1_1 l1_2 l1_3 a1_4)) else (colophonref18_Same.j0 k true a0_0 a0_1 l0_2 l0_3 a0_4 a1_0 a1_1 l1_2 l1_3 a1_4)
end
theorem colophonref18_Same.mono_l : ∀ k, (∀ y0 y1 y2 y3 y4 y5 y6 y7 y8 y9, LeO (colophonref18_Same.f k y0 y1 y2 y3 y4 y5 y6 y7 y8 y9) (colophonref18_Same.f (k + 1) y0 y1 y2 y3 y4 y5 y6 y7 y8 y9)) ∧ (∀ y0 y1 y2 y3 y4 y5 y6 y7 y8 y9 y10, LeO (colophonref18_Same.j0 k y0 y1 y2 y3 y4 y5 y6 y7 y8 y9 y10) (colophonref18_Same.j0 (k + 1) y0 y1 y2 y3 y4 y5 y6 y7 y8 y9 y10)) ∧ (∀ y0 y1 y2 y3 y4 y5 y6 y7 y8 y9 y10, LeO (colophonref18_Same.l0 k y0 y1 y2 y3 y4 y5 y6 y7 y8 y9 y10) (colophonref18_Same.l0 (k + 1) y0 y1 y2 y3 y4 y5 y6 y7 y8 y9 y10)) ∧ (∀ y0 y1 y2 y3 y4 y5 y6 y7 y8 y9 y10, LeO (colophonref18_Same.l1 k y0 y1 y2 y3 y4 y5 y6 y7 y8 y9 y10) (colophonref18_Same.l1 (k + 1) y0 y1 y2 y3 y4 y5 y6 y7 y8 y9 y10))
  | 0 => ⟨fun _ _ _ _ _ _ _ _ _ _ r h => by simp [colophonref18_Same.f] at h, fun _ _ _ _ _ _ _ _ _ _ _ r h => by simp [colophonref18_Same.j0] at h, fun _ _ _ _ _ _ _ _ _ _ _ r h => by simp [colophonref18_Same.l0] at h, fun _ _ _ _ _ _ _ _ _ _ _ r h => by simp [colophonref18_Same.l1] at h⟩
  | k + 1 => by
    obtain ⟨ih0, ih1, ih2, ih3⟩ := colophonref18_Same.mono_l k
    refine ⟨?_, ?_, ?_, ?_⟩
    · intro y0 y1 y2 y3 y4 y5 y6 y7 y8 y9
      unfold colophonref18_Same.f
      repeat' first
      | (with_reducible exact ih0 _ _ _ _ _ _ _ _ _ _)
      | (with_reducible exact ih1 _ _ _ _ _ _ _ _ _ _ _)
      | (with_reducible exact ih2 _ _ _ _ _ _ _ _ _ _ _)
      | (with_reducible exact ih3 _ _ _ _ _ _ _ _ _ _ _)
      | (with_reducible exact LeO.refl _)
      | (with_reducible exact LeO.none _)
      | (with_reducible refine LeO.ite ?_ ?_)
      | (with_reducible refine LeO.bind ?_ (fun _ => ?_))
      | exact ih0 _ _ _ _ _ _ _ _ _ _
      | exact ih1 _ _ _ _ _ _ _ _ _ _ _
      | exact ih2 _ _ _ _ _ _ _ _ _ _ _
      | exact ih3 _ _ _ _ _ _ _ _ _ _ _
      | exact LeO.none _
      | refine LeO.ite ?_ ?_
      | refine LeO.bind ?_ (fun _ => ?_)
    · intro y0 y1 y2 y3 y4 y5 y6 y7 y8 y9 y10
      unfold colophonref18_Same.j0
      repeat' first
      | (with_reducible exact ih0 _ _ _ _ _ _ _ _ _ _)
      | (with_reducible exact ih1 _ _ _ _ _ _ _ _ _ _ _)
      | (with_reducible exact ih2 _ _ _ _ _ _ _ _ _ _ _)
      | (with_reducible exact ih3 _ _ _ _ _ _ _ _ _ _ _)
      | (with_reducible exact LeO.refl _)
      | (with_reducible exact LeO.none _)
      | (with_reducible refine LeO.ite ?_ ?_)
      | (with_reducible refine LeO.bind ?_ (fun _ => ?_))
      | exact ih0 _ _ _ _ _ _ _ _ _ _
      | exact ih1 _ _ _ _ _ _ _ _ _ _ _
      | exact ih2 _ _ _ _ _ _ _ _ _ _ _
      | exact ih3 _ _ _ _ _ _ _ _ _ _ _
      | exact LeO.none _
      | refine LeO.ite ?_ ?_
      | refine LeO.bind ?_ (fun _ => ?_)
    · intro y0 y1 y2 y3 y4 y5 y6 y7 y8 y9 y10
      unfold colophonref18_Same.l0
      repeat' first
      | (with_reducible exact ih0 _ _ _ _ _ _ _ _ _ _)
      | (with_reducible exact ih1 _ _ _ _ _ _ _ _ _ _ _)
      | (with_reducible exact ih2 _ _ _ _ _ _ _ _ _ _ _)
      | (with_reducible exact ih3 _ _ _ _ _ _ _ _ _ _ _)
      | (with_reducible exact LeO.refl _)
      | (with_reducible exact LeO.none _)
      | (with_reducible refine LeO.ite ?_ ?_)
      | (with_reducible refine LeO.bind ?_ (fun _ => ?_))
      | exact ih0 _ _ _ _ _ _ _ _ _ _
      | exact ih1 _ _ _ _ _ _ _ _ _ _ _
      | exact ih2 _ _ _ _ _ _ _ _ _ _ _
      | exact ih3 _ _ _ _ _ _ _ _ _ _ _
      | exact LeO.none _
      | refine LeO.ite ?_ ?_
      | refine LeO.bind ?_ (fun _ => ?_)
    · intro y0 y1 y2 y3 y4 y5 y6 y7 y8 y9 y10
      unfold colophonref18_Same.l1
      repeat' first
      | (with_reducible exact ih0 _ _ _ _ _ _ _ _ _ _)
      | (with_reducible exact ih1 _ _ _ _ _ _ _ _ _ _ _)
      | (with_reducible exact ih2 _ _ _ _ _ _ _ _ _ _ _)
      | (with_reducible exact ih3 _ _ _ _ _ _ _ _ _ _ _)
      | (with_reducible exact LeO.refl _)
      | (with_reducible exact LeO.none _)
      | (with_reducible refine LeO.ite ?_ ?_)
      | (with_reducible refine LeO.bind ?_ (fun _ => ?_))
      | exact ih0 _ _ _ _ _ _ _ _ _ _
      | exact ih1 _ _ _ _ _ _ _ _ _ _ _
      | exact ih2 _ _ _ _ _ _ _ _ _ _ _
      | exact ih3 _ _ _ _ _ _ _ _ _ _ _
      | exact LeO.none _
      | refine LeO.ite ?_ ?_
      | refine LeO.bind ?_ (fun _ => ?_)
theorem colophonref18_Same.mono : ∀ a0 a1 a2 a3 a4 a5 a6 a7 a8 a9 k, LeO (colophonref18_Same.f k a0 a1 a2 a3 a4 a5 a6 a7 a8 a9) (colophonref18_Same.f (k + 1) a0 a1 a2 a3 a4 a5 a6 a7 a8 a9) := by
  intro a0 a1 a2 a3 a4 a5 a6 a7 a8 a9 k
  obtain ⟨ih0, ih1, ih2, ih3⟩ := colophonref18_Same.mono_l k
  exact ih0 a0 a1 a2 a3 a4 a5 a6 a7 a8 a9
def colophonref18_Same.T6 : Bool × List (List Nat × List Nat) := (true, [([], []), ([0], [0]), ([], []), ([1, 2], [1, 2]), ([3], [3]), ([], []), ([5], [5]), ([], []), ([6, 7], [6, 7]), ([8], [8]), ([4, 9], [4, 9])])
def colophonref18_Same.B6 : List Nat := [0, 1, 0, 7, 15, 0, 32, 0, 224, 480, 1023]
theorem colophonref18_Same.tab6 : rtab .any (opsOf Try.f30 6) = colophonref18_Same.T6 := by kernel_rfl
theorem colophonref18_Same.bits6 : waitsOk colophonref18_Same.T6.2 colophonref18_Same.B6 = true := by kernel_rfl
def colophonref18_Same.T11 : Bool × List (List Nat × List Nat) := (true, [([], []), ([0], [0]), ([], []), ([1, 2], [1, 2]), ([3], [3]), ([], []), ([5], [5]), ([], []), ([6, 7], [6, 7]), ([8], [8]), ([4, 9], [4, 9]), ([10], [10])])
def colophonref18_Same.B11 : List Nat := [0, 1, 0, 7, 15, 0, 32, 0, 224, 480, 1023, 2047]
theorem colophonref18_Same.tab11 : rtab .any (opsOf Try.f30 11) = colophonref18_Same.T11 := by kernel_rfl
theorem colophonref18_Same.bits11 : waitsOk colophonref18_Same.T11.2 colophonref18_Same.B11 = true := by kernel_rfl
set_option maxHeartbeats 8000000 in
set_option maxRecDepth 100000 in
theorem colophonref18_Same.calls (k : Nat) : ∀ (a0_0 : ByteArray) (a0_1 : ByteArray) (A0_2 : Option Addr) (c0_2 : Nat) (l0_2 : List (S82)) (A0_3 : Option Addr) (c0_3 : Nat) (l0_3 : List (S52)) (a0_4 : Int) (a1_0 : ByteArray) (a1_1 : ByteArray) (A1_2 : Option Addr) (c1_2 : Nat) (l1_2 : List (S82)) (A1_3 : Option Addr) (c1_3 : Nat) (l1_3 : List (S52)) (a1_4 : Int) (r : Bool) (w : World) (hr0_2 : Kd.C k82 w A0_2 l0_2.length l0_2) (hc0_2 : l0_2.length ≤ c0_2) (hr0_3 : Kd.C k52 w A0_3 l0_3.length l0_3) (hc0_3 : l0_3.length ≤ c0_3) (hr1_2 : Kd.C k82 w A1_2 l1_2.length l1_2) (hc1_2 : l1_2.length ≤ c1_2) (hr1_3 : Kd.C k52 w A1_3 l1_3.length l1_3) (hc1_3 : l1_3.length ≤ c1_3) (h : colophonref18_Same.f k a0_0 a0_1 l0_2 l0_3 a0_4 a1_0 a1_1 l1_2 l1_3 a1_4 = some r),
  Calls Try.prog 30 #[.agg #[.string a0_0, .string a0_1, .slice A0_2 l0_2.length c0_2, .slice A0_3 l0_3.length c0_3, .int .i64 a0_4], .agg #[.string a1_0, .string a1_1, .slice A1_2 l1_2.length c1_2, .slice A1_3 l1_3.length c1_3, .int .i64 a1_4]] w fun e w' => e = .returned (.bool r) ∧ Below w.heap.size w w' := by
 induction k using Nat.strongRecOn with
 | _ k ih =>
 intro a0_0 a0_1 A0_2 c0_2 l0_2 A0_3 c0_3 l0_3 a0_4 a1_0 a1_1 A1_2 c1_2 l1_2 A1_3 c1_3 l1_3 a1_4 r w hr0_2 hc0_2 hr0_3 hc0_3 hr1_2 hc1_2 hr1_3 hc1_3 h
 cases k with
 | zero => exact absurd h (by simp [colophonref18_Same.f])
 | succ k =>
 simp only [colophonref18_Same.f] at h
 have hu52 := Try.underlying52
 have hu82 := Try.underlying82
 have HR0_2 := Aside0.mk hr0_2
 have HC0_2 := Aside0.mk hc0_2
 clear hr0_2 hc0_2
 have HR0_3 := Aside0.mk hr0_3
 have HC0_3 := Aside0.mk hc0_3
 clear hr0_3 hc0_3
 have HR1_2 := Aside0.mk hr1_2
 have HC1_2 := Aside0.mk hc1_2
 clear hr1_2 hc1_2
 have HR1_3 := Aside0.mk hr1_3
 have HC1_3 := Aside0.mk hc1_3
 clear hr1_3 hc1_3
 have HB := Aside0.mk (Below.refl w.heap.size w)
 have H : (if a0_0.toList = a1_0.toList then (if a0_1.toList = a1_1.toList then (if (l0_2.length : Int) = (l1_2.length : Int) then (colophonref18_Same.j0 k ((l0_3.length : Int) != (l1_3.length : Int)) a0_0 a0_1 l0_2 l0_3 a0_4 a1_0 a1_1 l1_2 l1_3 a1_4) else (colophonref18_Same.j0 k true a0_0 a0_1 l0_2 l0_3 a0_4 a1_0 a1_1 l1_2 l1_3 a1_4)) else (colophonref18_Same.j0 k true a0_0 a0_1 l0_2 l0_3 a0_4 a1_0 a1_1 l1_2 l1_3 a1_4)) else (colophonref18_Same.j0 k true a0_0 a0_1 l0_2 l0_3 a0_4 a1_0 a1_1 l1_2 l1_3 a1_4)) = some r := h
 clear h
 have HC3 := Aside0.mk H
 clear H
 go_enter Try.func30, Try.ntmps30
 go_upto_region 1 with (first | ((with_reducible refine gate_dst (N := 2) rfl ?_); (try (refine gate_guard (by rfl) ?_; dsimp only)); refine box_event ?hg (N := 2) ?hd (cs := #[.string a0_0, .string a0_1, .slice A0_2 l0_2.length c0_2, .slice A0_3 l0_3.length c0_3, .int .i64 a0_4]) (t := 52) ?hr ?_; (case hd => rfl); (case hg => rfl); (case hr => first | (go_simp; done) | (go_simp; rfl)); intro gb264 hg w4 hbox hb; have n0_ := Aside0.mk (below_step (by repeat (first | (with_reducible first | exact HB.out | apply below_alloc | apply pw_below_drewN | apply below_drew1) | exact HB.out)) hb); have n1_ := Aside0.mk (hbox); have n2_ := Aside0.mk ((by rw [hg]; exact (below_size (by repeat (first | (with_reducible first | exact HB.out | apply below_alloc | apply pw_below_drewN | apply below_drew1) | exact HB.out))) : w.heap.size ≤ gb264)); have n3_ := Aside0.mk ((by rw [hg]; exact (below_size (by repeat (first | (with_reducible first | exact HB.out | apply below_alloc | apply pw_below_drewN | apply below_drew1) | exact HB.out))) : w.heap.size ≤ gb264)); clear HB; have HB := n0_; have BK264 := n1_; have GW264 := n2_; have GE264 := n3_; clear n0_ n1_ n2_ n3_; clear hb hbox hg) | ((with_reducible refine gate_dst (N := 3) rfl ?_); (try (refine gate_guard (by rfl) ?_; dsimp only)); refine box_event ?hg (N := 3) ?hd (cs := #[.string a1_0, .string a1_1, .slice A1_2 l1_2.length c1_2, .slice A1_3 l1_3.length c1_3, .int .i64 a1_4]) (t := 52) ?hr ?_; (case hd => rfl); (case hg => rfl); (case hr => first | (go_simp; done) | (go_simp; rfl)); intro gb265 hg w5 hbox hb; have n0_ := Aside0.mk (blk_below (g := gb264) (o := .cells #[.string a0_0, .string a0_1, .slice A0_2 l0_2.length c0_2, .slice A0_3 l0_3.length c0_3, .int .i64 a0_4] 52 (0, 0)) (by (with_reducible repeat (first | refine blk_drewN ?_ _ | refine blk_drew ?_ | refine blk_alloc ?_ _)); exact BK264.out) hb); have n1_ := Aside0.mk (below_step (by repeat (first | (with_reducible first | exact HB.out | apply below_alloc | apply pw_below_drewN | apply below_drew1 | refine below_set ?_ GE264.out) | exact HB.out)) hb); have n2_ := Aside0.mk (hbox); have n3_ := Aside0.mk ((by rw [hg]; exact (below_size (by repeat (first | (with_reducible first | exact HB.out | apply below_alloc | apply pw_below_drewN | apply below_drew1 | refine below_set ?_ GE264.out) | exact HB.out))) : w.heap.size ≤ gb265)); have n4_ := Aside0.mk ((by rw [hg]; exact (below_size (by repeat (first | (with_reducible first | exact HB.out | apply below_alloc | apply pw_below_drewN | apply below_drew1 | refine below_set ?_ GE264.out) | exact HB.out))) : w.heap.size ≤ gb265)); have n5_ := Aside0.mk ((by rw [hg]; exact Nat.ne_of_lt (blk_lt (g := gb264) (o := .cells #[.string a0_0, .string a0_1, .slice A0_2 l0_2.length c0_2, .slice A0_3 l0_3.length c0_3, .int .i64 a0_4] 52 (0, 0)) (by (with_reducible repeat (first | refine blk_drewN ?_ _ | refine blk_drew ?_ | refine blk_alloc ?_ _)); exact BK264.out)) : gb264 ≠ gb265)); have n6_ := Aside0.mk ((by rw [hg]; exact Nat.ne_of_gt (blk_lt (g := gb264) (o := .cells #[.string a0_0, .string a0_1, .slice A0_2 l0_2.length c0_2, .slice A0_3 l0_3.length c0_3, .int .i64 a0_4] 52 (0, 0)) (by (with_reducible repeat (first | refine blk_drewN ?_ _ | refine blk_drew ?_ | refine blk_alloc ?_ _)); exact BK264.out)) : gb265 ≠ gb264)); clear BK264; clear HB; have BK264 := n0_; have HB := n1_; have BK265 := n2_; have GW265 := n3_; have GE265 := n4_; have NB264_265 := n5_; have NB265_264 := n6_; clear n0_ n1_ n2_ n3_ n4_ n5_ n6_; clear hb hbox hg))
 (try simp only [Act.put, List.setIfInBounds_toArray, List.set_cons_zero, List.set_cons_succ])
 go_cut [36] (fun v36 wc => ∃ (kq : Nat) (x36_2 : Bool), v36 = .bool x36_2 ∧ Aside0 (colophonref18_Same.j0 kq x36_2 a0_0 a0_1 l0_2 l0_3 a0_4 a1_0 a1_1 l1_2 l1_3 a1_4 = some r) ∧ Aside0 (kq ≤ k) ∧ Aside0 (wc.heap[gb264]? = some (.cells #[.string a0_0, .string a0_1, (.slice A0_2 l0_2.length c0_2), (.slice A0_3 l0_3.length c0_3), .int .i64 a0_4] 52 (0, 0))) ∧ Aside0 (wc.heap[gb265]? = some (.cells #[.string a1_0, .string a1_1, (.slice A1_2 l1_2.length c1_2), (.slice A1_3 l1_3.length c1_3), .int .i64 a1_4] 52 (0, 0))) ∧ Aside0 (Below w.heap.size w wc))
 case first =>
  have H := HC3.out
  clear HC3
  by_cases c6 : a0_0.toList = a1_0.toList
  ·rw [if_pos c6] at H
   have c6b0 : (a0_0.toList == a1_0.toList) = true := beq_iff_eq.mpr c6
   have c6b1 : (a0_0.toList != a1_0.toList) = false := bne_eq_false_iff_eq.mpr c6
   clear c6
   (first | rw [c6b0] | (simp only [i64_w, i32_w]; rw [c6b0]) | skip)
   by_cases c7 : a0_1.toList = a1_1.toList
   ·rw [if_pos c7] at H
    have c7b0 : (a0_1.toList == a1_1.toList) = true := beq_iff_eq.mpr c7
    have c7b1 : (a0_1.toList != a1_1.toList) = false := bne_eq_false_iff_eq.mpr c7
    clear c7
    by_cases c8 : (l0_2.length : Int) = (l1_2.length : Int)
    ·rw [if_pos c8] at H
     have c8b0 : ((l0_2.length : Int) == (l1_2.length : Int)) = true := beq_iff_eq.mpr c8
     have c8b1 : ((l0_2.length : Int) != (l1_2.length : Int)) = false := bne_eq_false_iff_eq.mpr c8
     have c8b2 : (l0_2.length == l1_2.length) = true := by first | simpa using c8 | (simp at c8 ⊢; omega)
     clear c8
     have H' := Aside0.mk H
     clear H
     have hnb9 := NB264_265.out
     have hnc9 := NB265_264.out
     have hcz10_0 : w5.cell? ⟨gb264, 0, none⟩ = some (.string a0_0) := (blk_cell BK264.out 0).trans rfl
     have hcz10_1 : w5.cell? ⟨gb264, 1, none⟩ = some (.string a0_1) := (blk_cell BK264.out 1).trans rfl
     have hcz10_2 : w5.cell? ⟨gb264, 2, none⟩ = some (.slice A0_2 l0_2.length c0_2) := (blk_cell BK264.out 2).trans rfl
     have hcz10_3 : w5.cell? ⟨gb264, 3, none⟩ = some (.slice A0_3 l0_3.length c0_3) := (blk_cell BK264.out 3).trans rfl
     have hcz10_4 : w5.cell? ⟨gb264, 4, none⟩ = some (.int .i64 a0_4) := (blk_cell BK264.out 4).trans rfl
     have hfz10_0 := blk_frozen BK264.out 0
     have hfz10_1 := blk_frozen BK264.out 1
     have hfz10_2 := blk_frozen BK264.out 2
     have hfz10_3 := blk_frozen BK264.out 3
     have hfz10_4 := blk_frozen BK264.out 4
     have hcz11_0 : w5.cell? ⟨gb265, 0, none⟩ = some (.string a1_0) := (blk_cell BK265.out 0).trans rfl
     have hcz11_1 : w5.cell? ⟨gb265, 1, none⟩ = some (.string a1_1) := (blk_cell BK265.out 1).trans rfl
     have hcz11_2 : w5.cell? ⟨gb265, 2, none⟩ = some (.slice A1_2 l1_2.length c1_2) := (blk_cell BK265.out 2).trans rfl
     have hcz11_3 : w5.cell? ⟨gb265, 3, none⟩ = some (.slice A1_3 l1_3.length c1_3) := (blk_cell BK265.out 3).trans rfl
     have hcz11_4 : w5.cell? ⟨gb265, 4, none⟩ = some (.int .i64 a1_4) := (blk_cell BK265.out 4).trans rfl
     have hfz11_0 := blk_frozen BK265.out 0
     have hfz11_1 := blk_frozen BK265.out 1
     have hfz11_2 := blk_frozen BK265.out 2
     have hfz11_3 := blk_frozen BK265.out 3
     have hfz11_4 := blk_frozen BK265.out 4
     go_wp2
     go_meet
     case rel => exact ⟨_, (((l0_3.length : Int) != (l1_3.length : Int))), (by first | rfl | (simp; done) | (simp [*]; done)), H', ⟨by first | omega | exact Nat.le_refl _⟩, ⟨by (with_reducible repeat (first | refine blk_drewN ?_ _ | refine blk_drew ?_ | refine blk_alloc ?_ _)); exact BK264.out⟩, ⟨by (with_reducible repeat (first | refine blk_drewN ?_ _ | refine blk_drew ?_ | refine blk_alloc ?_ _)); exact BK265.out⟩, ⟨by repeat (first | (with_reducible first | exact HB.out | apply below_alloc | apply pw_below_drewN | apply below_drew1 | refine below_set ?_ GE264.out | refine below_set ?_ GE265.out) | exact HB.out)⟩⟩
    ·rw [if_neg c8] at H
     have c8b0 : ((l0_2.length : Int) == (l1_2.length : Int)) = false := beq_eq_false_iff_ne.mpr c8
     have c8b1 : ((l0_2.length : Int) != (l1_2.length : Int)) = true := bne_iff_ne.mpr c8
     have c8b2 : (l0_2.length == l1_2.length) = false := by first | simpa using c8 | (simp at c8 ⊢; omega)
     have H' := Aside0.mk H
     clear H
     have hnb12 := NB264_265.out
     have hnc12 := NB265_264.out
     have hcz13_0 : w5.cell? ⟨gb264, 0, none⟩ = some (.string a0_0) := (blk_cell BK264.out 0).trans rfl
     have hcz13_1 : w5.cell? ⟨gb264, 1, none⟩ = some (.string a0_1) := (blk_cell BK264.out 1).trans rfl
     have hcz13_2 : w5.cell? ⟨gb264, 2, none⟩ = some (.slice A0_2 l0_2.length c0_2) := (blk_cell BK264.out 2).trans rfl
     have hcz13_3 : w5.cell? ⟨gb264, 3, none⟩ = some (.slice A0_3 l0_3.length c0_3) := (blk_cell BK264.out 3).trans rfl
     have hcz13_4 : w5.cell? ⟨gb264, 4, none⟩ = some (.int .i64 a0_4) := (blk_cell BK264.out 4).trans rfl
     have hfz13_0 := blk_frozen BK264.out 0
     have hfz13_1 := blk_frozen BK264.out 1
     have hfz13_2 := blk_frozen BK264.out 2
     have hfz13_3 := blk_frozen BK264.out 3
     have hfz13_4 := blk_frozen BK264.out 4
     have hcz14_0 : w5.cell? ⟨gb265, 0, none⟩ = some (.string a1_0) := (blk_cell BK265.out 0).trans rfl
     have hcz14_1 : w5.cell? ⟨gb265, 1, none⟩ = some (.string a1_1) := (blk_cell BK265.out 1).trans rfl
     have hcz14_2 : w5.cell? ⟨gb265, 2, none⟩ = some (.slice A1_2 l1_2.length c1_2) := (blk_cell BK265.out 2).trans rfl
     have hcz14_3 : w5.cell? ⟨gb265, 3, none⟩ = some (.slice A1_3 l1_3.length c1_3) := (blk_cell BK265.out 3).trans rfl
     have hcz14_4 : w5.cell? ⟨gb265, 4, none⟩ = some (.int .i64 a1_4) := (blk_cell BK265.out 4).trans rfl
     have hfz14_0 := blk_frozen BK265.out 0
     have hfz14_1 := blk_frozen BK265.out 1
     have hfz14_2 := blk_frozen BK265.out 2
     have hfz14_3 := blk_frozen BK265.out 3
     have hfz14_4 := blk_frozen BK265.out 4
     go_wp2
     go_meet
     case rel => exact ⟨_, (true), (by first | rfl | (simp; done) | (simp [*]; done)), H', ⟨by first | omega | exact Nat.le_refl _⟩, ⟨by (with_reducible repeat (first | refine blk_drewN ?_ _ | refine blk_drew ?_ | refine blk_alloc ?_ _)); exact BK264.out⟩, ⟨by (with_reducible repeat (first | refine blk_drewN ?_ _ | refine blk_drew ?_ | refine blk_alloc ?_ _)); exact BK265.out⟩, ⟨by repeat (first | (with_reducible first | exact HB.out | apply below_alloc | apply pw_below_drewN | apply below_drew1 | refine below_set ?_ GE264.out | refine below_set ?_ GE265.out) | exact HB.out)⟩⟩
   ·rw [if_neg c7] at H
    have c7b0 : (a0_1.toList == a1_1.toList) = false := beq_eq_false_iff_ne.mpr c7
    have c7b1 : (a0_1.toList != a1_1.toList) = true := bne_iff_ne.mpr c7
    have H' := Aside0.mk H
    clear H
    have hnb15 := NB264_265.out
    have hnc15 := NB265_264.out
    have hcz16_0 : w5.cell? ⟨gb264, 0, none⟩ = some (.string a0_0) := (blk_cell BK264.out 0).trans rfl
    have hcz16_1 : w5.cell? ⟨gb264, 1, none⟩ = some (.string a0_1) := (blk_cell BK264.out 1).trans rfl
    have hcz16_2 : w5.cell? ⟨gb264, 2, none⟩ = some (.slice A0_2 l0_2.length c0_2) := (blk_cell BK264.out 2).trans rfl
    have hcz16_3 : w5.cell? ⟨gb264, 3, none⟩ = some (.slice A0_3 l0_3.length c0_3) := (blk_cell BK264.out 3).trans rfl
    have hcz16_4 : w5.cell? ⟨gb264, 4, none⟩ = some (.int .i64 a0_4) := (blk_cell BK264.out 4).trans rfl
    have hfz16_0 := blk_frozen BK264.out 0
    have hfz16_1 := blk_frozen BK264.out 1
    have hfz16_2 := blk_frozen BK264.out 2
    have hfz16_3 := blk_frozen BK264.out 3
    have hfz16_4 := blk_frozen BK264.out 4
    have hcz17_0 : w5.cell? ⟨gb265, 0, none⟩ = some (.string a1_0) := (blk_cell BK265.out 0).trans rfl
    have hcz17_1 : w5.cell? ⟨gb265, 1, none⟩ = some (.string a1_1) := (blk_cell BK265.out 1).trans rfl
    have hcz17_2 : w5.cell? ⟨gb265, 2, none⟩ = some (.slice A1_2 l1_2.length c1_2) := (blk_cell BK265.out 2).trans rfl
    have hcz17_3 : w5.cell? ⟨gb265, 3, none⟩ = some (.slice A1_3 l1_3.length c1_3) := (blk_cell BK265.out 3).trans rfl
    have hcz17_4 : w5.cell? ⟨gb265, 4, none⟩ = some (.int .i64 a1_4) := (blk_cell BK265.out 4).trans rfl
    have hfz17_0 := blk_frozen BK265.out 0
    have hfz17_1 := blk_frozen BK265.out 1
    have hfz17_2 := blk_frozen BK265.out 2
    have hfz17_3 := blk_frozen BK265.out 3
    have hfz17_4 := blk_frozen BK265.out 4
    go_wp2
    go_meet
    case rel => exact ⟨_, (true), (by first | rfl | (simp; done) | (simp [*]; done)), H', ⟨by first | omega | exact Nat.le_refl _⟩, ⟨by (with_reducible repeat (first | refine blk_drewN ?_ _ | refine blk_drew ?_ | refine blk_alloc ?_ _)); exact BK264.out⟩, ⟨by (with_reducible repeat (first | refine blk_drewN ?_ _ | refine blk_drew ?_ | refine blk_alloc ?_ _)); exact BK265.out⟩, ⟨by repeat (first | (with_reducible first | exact HB.out | apply below_alloc | apply pw_below_drewN | apply below_drew1 | refine below_set ?_ GE264.out | refine below_set ?_ GE265.out) | exact HB.out)⟩⟩
  ·rw [if_neg c6] at H
   have c6b0 : (a0_0.toList == a1_0.toList) = false := beq_eq_false_iff_ne.mpr c6
   have c6b1 : (a0_0.toList != a1_0.toList) = true := bne_iff_ne.mpr c6
   (first | rw [c6b0] | (simp only [i64_w, i32_w]; rw [c6b0]) | skip)
   have H' := Aside0.mk H
   clear H
   have hnb18 := NB264_265.out
   have hnc18 := NB265_264.out
   have hcz19_0 : w5.cell? ⟨gb264, 0, none⟩ = some (.string a0_0) := (blk_cell BK264.out 0).trans rfl
   have hcz19_1 : w5.cell? ⟨gb264, 1, none⟩ = some (.string a0_1) := (blk_cell BK264.out 1).trans rfl
   have hcz19_2 : w5.cell? ⟨gb264, 2, none⟩ = some (.slice A0_2 l0_2.length c0_2) := (blk_cell BK264.out 2).trans rfl
   have hcz19_3 : w5.cell? ⟨gb264, 3, none⟩ = some (.slice A0_3 l0_3.length c0_3) := (blk_cell BK264.out 3).trans rfl
   have hcz19_4 : w5.cell? ⟨gb264, 4, none⟩ = some (.int .i64 a0_4) := (blk_cell BK264.out 4).trans rfl
   have hfz19_0 := blk_frozen BK264.out 0
   have hfz19_1 := blk_frozen BK264.out 1
   have hfz19_2 := blk_frozen BK264.out 2
   have hfz19_3 := blk_frozen BK264.out 3
   have hfz19_4 := blk_frozen BK264.out 4
   have hcz20_0 : w5.cell? ⟨gb265, 0, none⟩ = some (.string a1_0) := (blk_cell BK265.out 0).trans rfl
   have hcz20_1 : w5.cell? ⟨gb265, 1, none⟩ = some (.string a1_1) := (blk_cell BK265.out 1).trans rfl
   have hcz20_2 : w5.cell? ⟨gb265, 2, none⟩ = some (.slice A1_2 l1_2.length c1_2) := (blk_cell BK265.out 2).trans rfl
   have hcz20_3 : w5.cell? ⟨gb265, 3, none⟩ = some (.slice A1_3 l1_3.length c1_3) := (blk_cell BK265.out 3).trans rfl
   have hcz20_4 : w5.cell? ⟨gb265, 4, none⟩ = some (.int .i64 a1_4) := (blk_cell BK265.out 4).trans rfl
   have hfz20_0 := blk_frozen BK265.out 0
   have hfz20_1 := blk_frozen BK265.out 1
   have hfz20_2 := blk_frozen BK265.out 2
   have hfz20_3 := blk_frozen BK265.out 3
   have hfz20_4 := blk_frozen BK265.out 4
   go_wp2
   go_meet
   case rel => exact ⟨_, (true), (by first | rfl | (simp; done) | (simp [*]; done)), H', ⟨by first | omega | exact Nat.le_refl _⟩, ⟨by (with_reducible repeat (first | refine blk_drewN ?_ _ | refine blk_drew ?_ | refine blk_alloc ?_ _)); exact BK264.out⟩, ⟨by (with_reducible repeat (first | refine blk_drewN ?_ _ | refine blk_drew ?_ | refine blk_alloc ?_ _)); exact BK265.out⟩, ⟨by repeat (first | (with_reducible first | exact HB.out | apply below_alloc | apply pw_below_drewN | apply below_drew1 | refine below_set ?_ GE264.out | refine below_set ?_ GE265.out) | exact HB.out)⟩⟩
 case rest =>
  clear HC3
  obtain ⟨kq, x36_2, rfl, HA, HJ2, BK264, BK265, HB⟩ := hcut
  cases kq with
  | zero => exact absurd HA.out (by simp [colophonref18_Same.j0])
  | succ kj2 =>
   have H := HA.out
   clear HA
   simp only [colophonref18_Same.j0] at H
   by_cases c21 : x36_2 = true
   ·subst c21
    exact absurd H (by simp)
   ·replace c21 := Bool.eq_false_iff.mpr c21
    subst c21
    have H1 : (colophonref18_Same.l0 kj2 0 a0_0 a0_1 l0_2 l0_3 a0_4 a1_0 a1_1 l1_2 l1_3 a1_4) = some r := by rw [if_neg (show ¬ (false = true) by decide)] at H; exact H
    clear H
    have H := H1
    clear H1
    have H' := Aside0.mk H
    clear H
    go_wp2
    go_loopg [5] kj2 (fun kq v5 w' => ∃ (x5_2 : Int), v5 = .int .i64 x5_2 ∧ Aside0 (colophonref18_Same.l0 kq x5_2 a0_0 a0_1 l0_2 l0_3 a0_4 a1_0 a1_1 l1_2 l1_3 a1_4 = some r) ∧ Aside0 (kq ≤ kj2) ∧ Aside0 (w'.heap[gb264]? = some (.cells #[.string a0_0, .string a0_1, (.slice A0_2 l0_2.length c0_2), (.slice A0_3 l0_3.length c0_3), .int .i64 a0_4] 52 (0, 0))) ∧ Aside0 (w'.heap[gb265]? = some (.cells #[.string a1_0, .string a1_1, (.slice A1_2 l1_2.length c1_2), (.slice A1_3 l1_3.length c1_3), .int .i64 a1_4] 52 (0, 0))) ∧ Aside0 (Below w.heap.size w w'))
    case atStart => exact ⟨(0), (by first | rfl | (simp; done) | (simp [*]; done)), H', ⟨Nat.le_refl _⟩, ⟨by (with_reducible repeat (first | refine blk_drewN ?_ _ | refine blk_drew ?_ | refine blk_alloc ?_ _)); exact BK264.out⟩, ⟨by (with_reducible repeat (first | refine blk_drewN ?_ _ | refine blk_drew ?_ | refine blk_alloc ?_ _)); exact BK265.out⟩, ⟨by repeat (first | (with_reducible first | exact HB.out | apply below_alloc | apply pw_below_drewN | apply below_drew1 | refine below_set ?_ GE264.out | refine below_set ?_ GE265.out) | exact HB.out)⟩⟩
    case round =>
     clear H'
     obtain ⟨x5_2, rfl, HA, HK2, BK264, BK265, HB⟩ := hrel
     cases gk with
     | zero => exact absurd HA.out (by simp [colophonref18_Same.l0])
     | succ k2 =>
      have H := HA.out
      clear HA
      simp only [colophonref18_Same.l0] at H
      by_cases c22 : x5_2 < (l0_2.length : Int)
      ·rw [if_pos c22] at H
       have c22b0 : decide (x5_2 < (l0_2.length : Int)) = true := decide_eq_true c22
       clear c22
       by_cases c23 : 0 ≤ x5_2
       ·rw [if_pos c23] at H
        have c23b0 : decide (0 ≤ x5_2) = true := decide_eq_true c23
        clear c23
        by_cases c24 : x5_2 < (l1_2.length : Int)
        ·rw [if_pos c24] at H
         have c24b0 : decide (x5_2 < (l1_2.length : Int)) = true := decide_eq_true c24
         clear c24
         by_cases c25 : (!((((rd_T82 l0_2 x5_2).f0).toList) == (((rd_T82 l1_2 x5_2).f0).toList)) || (!((((rd_T82 l0_2 x5_2).f1).toList) == (((rd_T82 l1_2 x5_2).f1).toList)))) = true
         ·rw [if_pos c25] at H
          exact absurd H (by simp)
         ·rw [if_neg c25] at H
          have c25b0 : (!((((rd_T82 l0_2 x5_2).f0).toList) == (((rd_T82 l1_2 x5_2).f0).toList)) || (!((((rd_T82 l0_2 x5_2).f1).toList) == (((rd_T82 l1_2 x5_2).f1).toList)))) = false := by simpa using c25
          clear c25
          have H' := Aside0.mk H
          clear H
          have hnb29 := NB264_265.out
          have hnc29 := NB265_264.out
          have hcz30_0 : wr.cell? ⟨gb264, 0, none⟩ = some (.string a0_0) := (blk_cell BK264.out 0).trans rfl
          have hcz30_1 : wr.cell? ⟨gb264, 1, none⟩ = some (.string a0_1) := (blk_cell BK264.out 1).trans rfl
          have hcz30_2 : wr.cell? ⟨gb264, 2, none⟩ = some (.slice A0_2 l0_2.length c0_2) := (blk_cell BK264.out 2).trans rfl
          have hcz30_3 : wr.cell? ⟨gb264, 3, none⟩ = some (.slice A0_3 l0_3.length c0_3) := (blk_cell BK264.out 3).trans rfl
          have hcz30_4 : wr.cell? ⟨gb264, 4, none⟩ = some (.int .i64 a0_4) := (blk_cell BK264.out 4).trans rfl
          have hfz30_0 := blk_frozen BK264.out 0
          have hfz30_1 := blk_frozen BK264.out 1
          have hfz30_2 := blk_frozen BK264.out 2
          have hfz30_3 := blk_frozen BK264.out 3
          have hfz30_4 := blk_frozen BK264.out 4
          try go_wp2
          have n0_ := Aside0.mk (blk_drew BK264.out)
          have n1_ := Aside0.mk (blk_drew BK265.out)
          have n2_ := Aside0.mk (below_drew1 HB.out)
          clear BK264
          clear BK265
          clear HB
          have BK264 := n0_
          have BK265 := n1_
          have HB := n2_
          clear n0_ n1_ n2_
          have p266 : 0 ≤ (x5_2 : Int) := of_decide_eq_true (by first | (with_reducible assumption) | assumption)
          have q266 : x5_2 < (l0_2.length : Int) := of_decide_eq_true (by first | (with_reducible assumption) | assumption)
          obtain ⟨ad266, e266, hx266_0, hx266_1⟩ := at_T82 HR0_2.out x5_2 p266 q266
          have hw266_1 := hx266_1
          have hw266_0 := hx266_0
          cases e266
          replace hx266_0 := (HB.out.cell (World.block_lt_of_cell? w _ hx266_0)).trans hx266_0
          replace hx266_1 := (HB.out.cell (World.block_lt_of_cell? w _ hx266_1)).trans hx266_1
          replace p266 := eq_true p266
          replace q266 := eq_true q266
          have p267 : 0 ≤ (x5_2 : Int) := of_decide_eq_true (by first | (with_reducible assumption) | assumption)
          have q267 : x5_2 < (l1_2.length : Int) := of_decide_eq_true (by first | (with_reducible assumption) | assumption)
          obtain ⟨ad267, e267, hx267_0, hx267_1⟩ := at_T82 HR1_2.out x5_2 p267 q267
          have hw267_1 := hx267_1
          have hw267_0 := hx267_0
          cases e267
          replace hx267_0 := (HB.out.cell (World.block_lt_of_cell? w _ hx267_0)).trans hx267_0
          replace hx267_1 := (HB.out.cell (World.block_lt_of_cell? w _ hx267_1)).trans hx267_1
          replace p267 := eq_true p267
          replace q267 := eq_true q267
          refine start_ (n := 11) (S := fun w' => w'.cell? ⟨gb264, 0, none⟩ = some (.string a0_0) ∧ w'.cell? ⟨gb264, 1, none⟩ = some (.string a0_1) ∧ w'.cell? ⟨gb264, 2, none⟩ = some (.slice (some ad266) l0_2.length c0_2) ∧ w'.cell? ⟨gb264, 3, none⟩ = some (.slice A0_3 l0_3.length c0_3) ∧ w'.cell? ⟨gb264, 4, none⟩ = some (.int .i64 a0_4) ∧ w'.cell? ⟨gb265, 0, none⟩ = some (.string a1_0) ∧ w'.cell? ⟨gb265, 1, none⟩ = some (.string a1_1) ∧ w'.cell? ⟨gb265, 2, none⟩ = some (.slice (some ad267) l1_2.length c1_2) ∧ w'.cell? ⟨gb265, 3, none⟩ = some (.slice A1_3 l1_3.length c1_3) ∧ w'.cell? ⟨gb265, 4, none⟩ = some (.int .i64 a1_4) ∧ w'.cell? (ad266.add ((x5_2).toNat * 2)) = some (.string ((rd_T82 l0_2 x5_2).f0)) ∧ w'.cell? ⟨(ad266.add ((x5_2).toNat * 2)).block, (ad266.add ((x5_2).toNat * 2)).off + 1, none⟩ = some (.string ((rd_T82 l0_2 x5_2).f1)) ∧ w'.cell? (ad267.add ((x5_2).toNat * 2)) = some (.string ((rd_T82 l1_2 x5_2).f0)) ∧ w'.cell? ⟨(ad267.add ((x5_2).toNat * 2)).block, (ad267.add ((x5_2).toNat * 2)).off + 1, none⟩ = some (.string ((rd_T82 l1_2 x5_2).f1))) (ds := []) #[false, false, false, false, false, false, false, false, false, false, false] (by kernel_rfl) rfl rfl ⟨(blk_cell BK264.out 0).trans rfl, (blk_cell BK264.out 1).trans rfl, (blk_cell BK264.out 2).trans rfl, (blk_cell BK264.out 3).trans rfl, (blk_cell BK264.out 4).trans rfl, (blk_cell BK265.out 0).trans rfl, (blk_cell BK265.out 1).trans rfl, (blk_cell BK265.out 2).trans rfl, (blk_cell BK265.out 3).trans rfl, (blk_cell BK265.out 4).trans rfl, ((HB.out.cell (World.block_lt_of_cell? w _ hw266_0)).trans hw266_0), ((HB.out.cell (World.block_lt_of_cell? w _ hw266_1)).trans hw266_1), ((HB.out.cell (World.block_lt_of_cell? w _ hw267_0)).trans hw267_0), ((HB.out.cell (World.block_lt_of_cell? w _ hw267_1)).trans hw267_1)⟩ (fun hHeld => ?_); refine with_tabW colophonref18_Same.tab6 colophonref18_Same.bits6 (fun HT_ HW_ => ?_)
          generalize wr.drew = w31 at BK264 BK265 HB hx266_0 hx266_1 hx267_0 hx267_1 hHeld ⊢
          refine pure_ (i := 0) (N := some 44) (v := ?_) (a' := ?_) #[true, false, false, false, false, false, false, false, false, false, false] rfl rfl (any_of HT_.out (by kernel_rfl)) (fun _ _ _ h => h) (Or.inl ⟨by rfl, ?_⟩) ?_ ?_
          rotate_left
          ·intro w'
           go_simp
           with_reducible rfl
          rotate_left
          ·simp only [Act.put, List.setIfInBounds_toArray, List.set_cons_zero, List.set_cons_succ, i64_w, i32_w]
           rfl
          refine pure_ (i := 2) (N := some 46) (v := ?_) (a' := ?_) #[true, false, true, false, false, false, false, false, false, false, false] rfl rfl (any_of HT_.out (by kernel_rfl)) (fun _ _ _ h => h) (Or.inl ⟨by rfl, ?_⟩) ?_ ?_
          rotate_left
          ·intro w'
           go_simp
           with_reducible rfl
          rotate_left
          ·simp only [Act.put, List.setIfInBounds_toArray, List.set_cons_zero, List.set_cons_succ, i64_w, i32_w]
           rfl
          refine pure_ (i := 5) (N := some 49) (v := ?_) (a' := ?_) #[true, false, true, false, false, true, false, false, false, false, false] rfl rfl (any_of HT_.out (by kernel_rfl)) (fun _ _ _ h => h) (Or.inl ⟨by rfl, ?_⟩) ?_ ?_
          rotate_left
          ·intro w'
           go_simp
           with_reducible rfl
          rotate_left
          ·simp only [Act.put, List.setIfInBounds_toArray, List.set_cons_zero, List.set_cons_succ, i64_w, i32_w]
           rfl
          refine pure_ (i := 7) (N := some 51) (v := ?_) (a' := ?_) #[true, false, true, false, false, true, false, true, false, false, false] rfl rfl (any_of HT_.out (by kernel_rfl)) (fun _ _ _ h => h) (Or.inl ⟨by rfl, ?_⟩) ?_ ?_
          rotate_left
          ·intro w'
           go_simp
           with_reducible rfl
          rotate_left
          ·simp only [Act.put, List.setIfInBounds_toArray, List.set_cons_zero, List.set_cons_succ, i64_w, i32_w]
           rfl
          refine take_ (i := 1) (N := some 45) (v := ?_) (a' := ?_) #[true, true, true, false, false, true, false, true, false, false, false] rfl rfl (take_ofW HT_.out HW_.out (by kernel_rfl)) (fun _ _ _ h => h) (Or.inl ⟨by rfl, ?_⟩) hHeld ?_ ?_
          rotate_left
          ·rintro w' ⟨s0, s1, s2, s3, s4, s5, s6, s7, s8, s9, s10, s11, s12, s13⟩
           go_simp
           with_reducible rfl
          rotate_left
          ·simp only [Act.put, List.setIfInBounds_toArray, List.set_cons_zero, List.set_cons_succ, i64_w, i32_w]
           rfl
          refine pure_ (i := 3) (N := some 47) (v := ?_) (a' := ?_) #[true, true, true, true, false, true, false, true, false, false, false] rfl rfl (any_of HT_.out (by kernel_rfl)) (fun _ _ _ h => h) (Or.inl ⟨by rfl, ?_⟩) ?_ ?_
          rotate_left
          ·intro w'
           go_simp
           with_reducible rfl
          rotate_left
          ·simp only [Act.put, List.setIfInBounds_toArray, List.set_cons_zero, List.set_cons_succ, i64_w, i32_w]
           rfl
          refine take_ (i := 4) (N := some 48) (v := ?_) (a' := ?_) #[true, true, true, true, true, true, false, true, false, false, false] rfl rfl (take_ofW HT_.out HW_.out (by kernel_rfl)) (fun _ _ _ h => h) (Or.inl ⟨by rfl, ?_⟩) hHeld ?_ ?_
          rotate_left
          ·rintro w' ⟨s0, s1, s2, s3, s4, s5, s6, s7, s8, s9, s10, s11, s12, s13⟩
           go_simp
           with_reducible rfl
          rotate_left
          ·simp only [Act.put, List.setIfInBounds_toArray, List.set_cons_zero, List.set_cons_succ, i64_w, i32_w]
           rfl
          refine take_ (i := 6) (N := some 50) (v := ?_) (a' := ?_) #[true, true, true, true, true, true, true, true, false, false, false] rfl rfl (take_ofW HT_.out HW_.out (by kernel_rfl)) (fun _ _ _ h => h) (Or.inl ⟨by rfl, ?_⟩) hHeld ?_ ?_
          rotate_left
          ·rintro w' ⟨s0, s1, s2, s3, s4, s5, s6, s7, s8, s9, s10, s11, s12, s13⟩
           go_simp
           with_reducible rfl
          rotate_left
          ·simp only [Act.put, List.setIfInBounds_toArray, List.set_cons_zero, List.set_cons_succ, i64_w, i32_w]
           rfl
          refine pure_ (i := 8) (N := some 52) (v := ?_) (a' := ?_) #[true, true, true, true, true, true, true, true, true, false, false] rfl rfl (any_of HT_.out (by kernel_rfl)) (fun _ _ _ h => h) (Or.inl ⟨by rfl, ?_⟩) ?_ ?_
          rotate_left
          ·intro w'
           go_simp
           with_reducible rfl
          rotate_left
          ·simp only [Act.put, List.setIfInBounds_toArray, List.set_cons_zero, List.set_cons_succ, i64_w, i32_w]
           rfl
          refine take_ (i := 9) (N := some 53) (v := ?_) (a' := ?_) #[true, true, true, true, true, true, true, true, true, true, false] rfl rfl (take_ofW HT_.out HW_.out (by kernel_rfl)) (fun _ _ _ h => h) (Or.inl ⟨by rfl, ?_⟩) hHeld ?_ ?_
          rotate_left
          ·rintro w' ⟨s0, s1, s2, s3, s4, s5, s6, s7, s8, s9, s10, s11, s12, s13⟩
           go_simp
           with_reducible rfl
          rotate_left
          ·simp only [Act.put, List.setIfInBounds_toArray, List.set_cons_zero, List.set_cons_succ, i64_w, i32_w]
           rfl
          refine pure_ (i := 10) (N := some 54) (v := ?_) (a' := ?_) #[true, true, true, true, true, true, true, true, true, true, true] rfl rfl (any_of HT_.out (by kernel_rfl)) (fun _ _ _ h => h) (Or.inl ⟨by rfl, ?_⟩) ?_ ?_
          rotate_left
          ·intro w'
           go_simp
           with_reducible rfl
          rotate_left
          ·simp only [Act.put, List.setIfInBounds_toArray, List.set_cons_zero, List.set_cons_succ, i64_w, i32_w]
           rfl
          refine done_ (done_of HT_.out (by kernel_rfl)) ?_
          try go_wp2
          go_roundg k2
          case measure => have := HJ2.out; have := HK2.out; omega
          case rel => exact ⟨(wrap64 (x5_2 + 1)), (by first | rfl | (simp; done) | (simp [*]; done)), H', ⟨by have := HJ2.out; have := HK2.out; omega⟩, ⟨by (with_reducible repeat (first | refine blk_drewN ?_ _ | refine blk_drew ?_ | refine blk_alloc ?_ _)); exact BK264.out⟩, ⟨by (with_reducible repeat (first | refine blk_drewN ?_ _ | refine blk_drew ?_ | refine blk_alloc ?_ _)); exact BK265.out⟩, ⟨by repeat (first | (with_reducible first | exact HB.out | apply below_alloc | apply pw_below_drewN | apply below_drew1 | refine below_set ?_ GE264.out | refine below_set ?_ GE265.out) | exact HB.out)⟩⟩
        ·rw [if_neg c24] at H
         exact absurd H (by simp)
       ·rw [if_neg c23] at H
        exact absurd H (by simp)
      ·rw [if_neg c22] at H
       have c22b0 : decide (x5_2 < (l0_2.length : Int)) = false := decide_eq_false c22
       clear c22
       have H' := Aside0.mk H
       clear H
       have hnb32 := NB264_265.out
       have hnc32 := NB265_264.out
       have hcz33_0 : wr.cell? ⟨gb264, 0, none⟩ = some (.string a0_0) := (blk_cell BK264.out 0).trans rfl
       have hcz33_1 : wr.cell? ⟨gb264, 1, none⟩ = some (.string a0_1) := (blk_cell BK264.out 1).trans rfl
       have hcz33_2 : wr.cell? ⟨gb264, 2, none⟩ = some (.slice A0_2 l0_2.length c0_2) := (blk_cell BK264.out 2).trans rfl
       have hcz33_3 : wr.cell? ⟨gb264, 3, none⟩ = some (.slice A0_3 l0_3.length c0_3) := (blk_cell BK264.out 3).trans rfl
       have hcz33_4 : wr.cell? ⟨gb264, 4, none⟩ = some (.int .i64 a0_4) := (blk_cell BK264.out 4).trans rfl
       have hfz33_0 := blk_frozen BK264.out 0
       have hfz33_1 := blk_frozen BK264.out 1
       have hfz33_2 := blk_frozen BK264.out 2
       have hfz33_3 := blk_frozen BK264.out 3
       have hfz33_4 := blk_frozen BK264.out 4
       go_wp2
       go_loopg [6] k2 (fun kq v6 w' => ∃ (x6_3 : Int), v6 = .int .i64 x6_3 ∧ Aside0 (colophonref18_Same.l1 kq x6_3 a0_0 a0_1 l0_2 l0_3 a0_4 a1_0 a1_1 l1_2 l1_3 a1_4 = some r) ∧ Aside0 (kq ≤ k2) ∧ Aside0 (w'.heap[gb264]? = some (.cells #[.string a0_0, .string a0_1, (.slice A0_2 l0_2.length c0_2), (.slice A0_3 l0_3.length c0_3), .int .i64 a0_4] 52 (0, 0))) ∧ Aside0 (w'.heap[gb265]? = some (.cells #[.string a1_0, .string a1_1, (.slice A1_2 l1_2.length c1_2), (.slice A1_3 l1_3.length c1_3), .int .i64 a1_4] 52 (0, 0))) ∧ Aside0 (Below w.heap.size w w'))
       case atStart => exact ⟨(0), (by first | rfl | (simp; done) | (simp [*]; done)), H', ⟨Nat.le_refl _⟩, ⟨by (with_reducible repeat (first | refine blk_drewN ?_ _ | refine blk_drew ?_ | refine blk_alloc ?_ _)); exact BK264.out⟩, ⟨by (with_reducible repeat (first | refine blk_drewN ?_ _ | refine blk_drew ?_ | refine blk_alloc ?_ _)); exact BK265.out⟩, ⟨by repeat (first | (with_reducible first | exact HB.out | apply below_alloc | apply pw_below_drewN | apply below_drew1 | refine below_set ?_ GE264.out | refine below_set ?_ GE265.out) | exact HB.out)⟩⟩
       case round =>
        clear H'
        obtain ⟨x6_3, rfl, HA, HK3, BK264, BK265, HB⟩ := hrel
        cases gk with
        | zero => exact absurd HA.out (by simp [colophonref18_Same.l1])
        | succ k3 =>
         have H := HA.out
         clear HA
         simp only [colophonref18_Same.l1] at H
         by_cases c34 : x6_3 < (l0_3.length : Int)
         ·rw [if_pos c34] at H
          have c34b0 : decide (x6_3 < (l0_3.length : Int)) = true := decide_eq_true c34
          clear c34
          by_cases c35 : 0 ≤ x6_3
          ·rw [if_pos c35] at H
           have c35b0 : decide (0 ≤ x6_3) = true := decide_eq_true c35
           clear c35
           by_cases c36 : x6_3 < (l1_3.length : Int)
           ·rw [if_pos c36] at H
            have c36b0 : decide (x6_3 < (l1_3.length : Int)) = true := decide_eq_true c36
            clear c36
            replace H := Option.bind_eq_some_iff.mp H
            obtain ⟨t270, A370, H⟩ := H
            replace H : (if t270 = true then (colophonref18_Same.l1 k3 (wrap64 (x6_3 + 1)) a0_0 a0_1 l0_2 l0_3 a0_4 a1_0 a1_1 l1_2 l1_3 a1_4) else (none)) = some r := H
            have A37 := Aside0.mk A370
            clear A370
            by_cases c38 : t270 = true
            ·subst c38
             have H1 : (colophonref18_Same.l1 k3 (wrap64 (x6_3 + 1)) a0_0 a0_1 l0_2 l0_3 a0_4 a1_0 a1_1 l1_2 l1_3 a1_4) = some r := by rw [if_pos rfl] at H; exact H
             clear H
             have H := H1
             clear H1
             have H' := Aside0.mk H
             clear H
             have hnb39 := NB264_265.out
             have hnc39 := NB265_264.out
             have hcz40_0 : wr.cell? ⟨gb264, 0, none⟩ = some (.string a0_0) := (blk_cell BK264.out 0).trans rfl
             have hcz40_1 : wr.cell? ⟨gb264, 1, none⟩ = some (.string a0_1) := (blk_cell BK264.out 1).trans rfl
             have hcz40_2 : wr.cell? ⟨gb264, 2, none⟩ = some (.slice A0_2 l0_2.length c0_2) := (blk_cell BK264.out 2).trans rfl
             have hcz40_3 : wr.cell? ⟨gb264, 3, none⟩ = some (.slice A0_3 l0_3.length c0_3) := (blk_cell BK264.out 3).trans rfl
             have hcz40_4 : wr.cell? ⟨gb264, 4, none⟩ = some (.int .i64 a0_4) := (blk_cell BK264.out 4).trans rfl
             have hfz40_0 := blk_frozen BK264.out 0
             have hfz40_1 := blk_frozen BK264.out 1
             have hfz40_2 := blk_frozen BK264.out 2
             have hfz40_3 := blk_frozen BK264.out 3
             have hfz40_4 := blk_frozen BK264.out 4
             try go_wp2
             have n0_ := Aside0.mk (blk_drew BK264.out)
             have n1_ := Aside0.mk (blk_drew BK265.out)
             have n2_ := Aside0.mk (below_drew1 HB.out)
             clear BK264
             clear BK265
             clear HB
             have BK264 := n0_
             have BK265 := n1_
             have HB := n2_
             clear n0_ n1_ n2_
             have p268 : 0 ≤ (x6_3 : Int) := of_decide_eq_true (by first | (with_reducible assumption) | assumption)
             have q268 : x6_3 < (l0_3.length : Int) := of_decide_eq_true (by first | (with_reducible assumption) | assumption)
             obtain ⟨ad268, A268_2, c268_2, A268_3, c268_3, e268, hx268_0, hx268_1, hx268_2, hx268_3, hx268_4, hl268_2, hi268_2, hl268_3, hi268_3⟩ := at_T52 HR0_3.out x6_3 p268 q268
             have hw268_4 := hx268_4
             have hw268_3 := hx268_3
             have hw268_2 := hx268_2
             have hw268_1 := hx268_1
             have hw268_0 := hx268_0
             cases e268
             replace hx268_0 := (HB.out.cell (World.block_lt_of_cell? w _ hx268_0)).trans hx268_0
             replace hx268_1 := (HB.out.cell (World.block_lt_of_cell? w _ hx268_1)).trans hx268_1
             replace hx268_2 := (HB.out.cell (World.block_lt_of_cell? w _ hx268_2)).trans hx268_2
             replace hx268_3 := (HB.out.cell (World.block_lt_of_cell? w _ hx268_3)).trans hx268_3
             replace hx268_4 := (HB.out.cell (World.block_lt_of_cell? w _ hx268_4)).trans hx268_4
             have HR268_2 := Aside0.mk hi268_2
             have HC268_2 := Aside0.mk hl268_2
             clear hi268_2 hl268_2
             have HR268_3 := Aside0.mk hi268_3
             have HC268_3 := Aside0.mk hl268_3
             clear hi268_3 hl268_3
             replace p268 := eq_true p268
             replace q268 := eq_true q268
             have p269 : 0 ≤ (x6_3 : Int) := of_decide_eq_true (by first | (with_reducible assumption) | assumption)
             have q269 : x6_3 < (l1_3.length : Int) := of_decide_eq_true (by first | (with_reducible assumption) | assumption)
             obtain ⟨ad269, A269_2, c269_2, A269_3, c269_3, e269, hx269_0, hx269_1, hx269_2, hx269_3, hx269_4, hl269_2, hi269_2, hl269_3, hi269_3⟩ := at_T52 HR1_3.out x6_3 p269 q269
             have hw269_4 := hx269_4
             have hw269_3 := hx269_3
             have hw269_2 := hx269_2
             have hw269_1 := hx269_1
             have hw269_0 := hx269_0
             cases e269
             replace hx269_0 := (HB.out.cell (World.block_lt_of_cell? w _ hx269_0)).trans hx269_0
             replace hx269_1 := (HB.out.cell (World.block_lt_of_cell? w _ hx269_1)).trans hx269_1
             replace hx269_2 := (HB.out.cell (World.block_lt_of_cell? w _ hx269_2)).trans hx269_2
             replace hx269_3 := (HB.out.cell (World.block_lt_of_cell? w _ hx269_3)).trans hx269_3
             replace hx269_4 := (HB.out.cell (World.block_lt_of_cell? w _ hx269_4)).trans hx269_4
             have HR269_2 := Aside0.mk hi269_2
             have HC269_2 := Aside0.mk hl269_2
             clear hi269_2 hl269_2
             have HR269_3 := Aside0.mk hi269_3
             have HC269_3 := Aside0.mk hl269_3
             clear hi269_3 hl269_3
             replace p269 := eq_true p269
             replace q269 := eq_true q269
             refine start_ (n := 12) (S := fun w' => w'.cell? ⟨gb264, 0, none⟩ = some (.string a0_0) ∧ w'.cell? ⟨gb264, 1, none⟩ = some (.string a0_1) ∧ w'.cell? ⟨gb264, 2, none⟩ = some (.slice A0_2 l0_2.length c0_2) ∧ w'.cell? ⟨gb264, 3, none⟩ = some (.slice (some ad268) l0_3.length c0_3) ∧ w'.cell? ⟨gb264, 4, none⟩ = some (.int .i64 a0_4) ∧ w'.cell? ⟨gb265, 0, none⟩ = some (.string a1_0) ∧ w'.cell? ⟨gb265, 1, none⟩ = some (.string a1_1) ∧ w'.cell? ⟨gb265, 2, none⟩ = some (.slice A1_2 l1_2.length c1_2) ∧ w'.cell? ⟨gb265, 3, none⟩ = some (.slice (some ad269) l1_3.length c1_3) ∧ w'.cell? ⟨gb265, 4, none⟩ = some (.int .i64 a1_4) ∧ w'.cell? (ad268.add ((x6_3).toNat * 5)) = some (.string ((rd_T52 l0_3 x6_3).f0)) ∧ w'.cell? ⟨(ad268.add ((x6_3).toNat * 5)).block, (ad268.add ((x6_3).toNat * 5)).off + 1, none⟩ = some (.string ((rd_T52 l0_3 x6_3).f1)) ∧ w'.cell? ⟨(ad268.add ((x6_3).toNat * 5)).block, (ad268.add ((x6_3).toNat * 5)).off + 2, none⟩ = some (.slice A268_2 ((rd_T52 l0_3 x6_3).f2).length c268_2) ∧ w'.cell? ⟨(ad268.add ((x6_3).toNat * 5)).block, (ad268.add ((x6_3).toNat * 5)).off + 3, none⟩ = some (.slice A268_3 ((rd_T52 l0_3 x6_3).f3).length c268_3) ∧ w'.cell? ⟨(ad268.add ((x6_3).toNat * 5)).block, (ad268.add ((x6_3).toNat * 5)).off + 4, none⟩ = some (.int .i64 ((rd_T52 l0_3 x6_3).f4)) ∧ w'.cell? (ad269.add ((x6_3).toNat * 5)) = some (.string ((rd_T52 l1_3 x6_3).f0)) ∧ w'.cell? ⟨(ad269.add ((x6_3).toNat * 5)).block, (ad269.add ((x6_3).toNat * 5)).off + 1, none⟩ = some (.string ((rd_T52 l1_3 x6_3).f1)) ∧ w'.cell? ⟨(ad269.add ((x6_3).toNat * 5)).block, (ad269.add ((x6_3).toNat * 5)).off + 2, none⟩ = some (.slice A269_2 ((rd_T52 l1_3 x6_3).f2).length c269_2) ∧ w'.cell? ⟨(ad269.add ((x6_3).toNat * 5)).block, (ad269.add ((x6_3).toNat * 5)).off + 3, none⟩ = some (.slice A269_3 ((rd_T52 l1_3 x6_3).f3).length c269_3) ∧ w'.cell? ⟨(ad269.add ((x6_3).toNat * 5)).block, (ad269.add ((x6_3).toNat * 5)).off + 4, none⟩ = some (.int .i64 ((rd_T52 l1_3 x6_3).f4))) (ds := []) #[false, false, false, false, false, false, false, false, false, false, false, false] (by kernel_rfl) rfl rfl ⟨(blk_cell BK264.out 0).trans rfl, (blk_cell BK264.out 1).trans rfl, (blk_cell BK264.out 2).trans rfl, (blk_cell BK264.out 3).trans rfl, (blk_cell BK264.out 4).trans rfl, (blk_cell BK265.out 0).trans rfl, (blk_cell BK265.out 1).trans rfl, (blk_cell BK265.out 2).trans rfl, (blk_cell BK265.out 3).trans rfl, (blk_cell BK265.out 4).trans rfl, ((HB.out.cell (World.block_lt_of_cell? w _ hw268_0)).trans hw268_0), ((HB.out.cell (World.block_lt_of_cell? w _ hw268_1)).trans hw268_1), ((HB.out.cell (World.block_lt_of_cell? w _ hw268_2)).trans hw268_2), ((HB.out.cell (World.block_lt_of_cell? w _ hw268_3)).trans hw268_3), ((HB.out.cell (World.block_lt_of_cell? w _ hw268_4)).trans hw268_4), ((HB.out.cell (World.block_lt_of_cell? w _ hw269_0)).trans hw269_0), ((HB.out.cell (World.block_lt_of_cell? w _ hw269_1)).trans hw269_1), ((HB.out.cell (World.block_lt_of_cell? w _ hw269_2)).trans hw269_2), ((HB.out.cell (World.block_lt_of_cell? w _ hw269_3)).trans hw269_3), ((HB.out.cell (World.block_lt_of_cell? w _ hw269_4)).trans hw269_4)⟩ (fun hHeld => ?_); refine with_tabW colophonref18_Same.tab11 colophonref18_Same.bits11 (fun HT_ HW_ => ?_)
             generalize wr.drew = w41 at BK264 BK265 HB HR268_2 HR268_3 HR269_2 HR269_3 hx268_0 hx268_1 hx268_2 hx268_3 hx268_4 hx269_0 hx269_1 hx269_2 hx269_3 hx269_4 hHeld ⊢
             refine pure_ (i := 0) (N := some 62) (v := ?_) (a' := ?_) #[true, false, false, false, false, false, false, false, false, false, false, false] rfl rfl (any_of HT_.out (by kernel_rfl)) (fun _ _ _ h => h) (Or.inl ⟨by rfl, ?_⟩) ?_ ?_
             rotate_left
             ·intro w'
              go_simp
              with_reducible rfl
             rotate_left
             ·simp only [Act.put, List.setIfInBounds_toArray, List.set_cons_zero, List.set_cons_succ, i64_w, i32_w]
              rfl
             refine pure_ (i := 2) (N := some 64) (v := ?_) (a' := ?_) #[true, false, true, false, false, false, false, false, false, false, false, false] rfl rfl (any_of HT_.out (by kernel_rfl)) (fun _ _ _ h => h) (Or.inl ⟨by rfl, ?_⟩) ?_ ?_
             rotate_left
             ·intro w'
              go_simp
              with_reducible rfl
             rotate_left
             ·simp only [Act.put, List.setIfInBounds_toArray, List.set_cons_zero, List.set_cons_succ, i64_w, i32_w]
              rfl
             refine pure_ (i := 5) (N := some 67) (v := ?_) (a' := ?_) #[true, false, true, false, false, true, false, false, false, false, false, false] rfl rfl (any_of HT_.out (by kernel_rfl)) (fun _ _ _ h => h) (Or.inl ⟨by rfl, ?_⟩) ?_ ?_
             rotate_left
             ·intro w'
              go_simp
              with_reducible rfl
             rotate_left
             ·simp only [Act.put, List.setIfInBounds_toArray, List.set_cons_zero, List.set_cons_succ, i64_w, i32_w]
              rfl
             refine pure_ (i := 7) (N := some 69) (v := ?_) (a' := ?_) #[true, false, true, false, false, true, false, true, false, false, false, false] rfl rfl (any_of HT_.out (by kernel_rfl)) (fun _ _ _ h => h) (Or.inl ⟨by rfl, ?_⟩) ?_ ?_
             rotate_left
             ·intro w'
              go_simp
              with_reducible rfl
             rotate_left
             ·simp only [Act.put, List.setIfInBounds_toArray, List.set_cons_zero, List.set_cons_succ, i64_w, i32_w]
              rfl
             refine take_ (i := 1) (N := some 63) (v := ?_) (a' := ?_) #[true, true, true, false, false, true, false, true, false, false, false, false] rfl rfl (take_ofW HT_.out HW_.out (by kernel_rfl)) (fun _ _ _ h => h) (Or.inl ⟨by rfl, ?_⟩) hHeld ?_ ?_
             rotate_left
             ·rintro w' ⟨s0, s1, s2, s3, s4, s5, s6, s7, s8, s9, s10, s11, s12, s13, s14, s15, s16, s17, s18, s19⟩
              go_simp
              with_reducible rfl
             rotate_left
             ·simp only [Act.put, List.setIfInBounds_toArray, List.set_cons_zero, List.set_cons_succ, i64_w, i32_w]
              rfl
             refine pure_ (i := 3) (N := some 65) (v := ?_) (a' := ?_) #[true, true, true, true, false, true, false, true, false, false, false, false] rfl rfl (any_of HT_.out (by kernel_rfl)) (fun _ _ _ h => h) (Or.inl ⟨by rfl, ?_⟩) ?_ ?_
             rotate_left
             ·intro w'
              go_simp
              with_reducible rfl
             rotate_left
             ·simp only [Act.put, List.setIfInBounds_toArray, List.set_cons_zero, List.set_cons_succ, i64_w, i32_w]
              rfl
             refine take_ (i := 4) (N := some 66) (v := ?_) (a' := ?_) #[true, true, true, true, true, true, false, true, false, false, false, false] rfl rfl (take_ofW HT_.out HW_.out (by kernel_rfl)) (fun _ _ _ h => h) (Or.inl ⟨by rfl, ?_⟩) hHeld ?_ ?_
             rotate_left
             ·rintro w' ⟨s0, s1, s2, s3, s4, s5, s6, s7, s8, s9, s10, s11, s12, s13, s14, s15, s16, s17, s18, s19⟩
              go_simp
              with_reducible rfl
             rotate_left
             ·simp only [Act.put, List.setIfInBounds_toArray, List.set_cons_zero, List.set_cons_succ, i64_w, i32_w]
              rfl
             refine take_ (i := 6) (N := some 68) (v := ?_) (a' := ?_) #[true, true, true, true, true, true, true, true, false, false, false, false] rfl rfl (take_ofW HT_.out HW_.out (by kernel_rfl)) (fun _ _ _ h => h) (Or.inl ⟨by rfl, ?_⟩) hHeld ?_ ?_
             rotate_left
             ·rintro w' ⟨s0, s1, s2, s3, s4, s5, s6, s7, s8, s9, s10, s11, s12, s13, s14, s15, s16, s17, s18, s19⟩
              go_simp
              with_reducible rfl
             rotate_left
             ·simp only [Act.put, List.setIfInBounds_toArray, List.set_cons_zero, List.set_cons_succ, i64_w, i32_w]
              rfl
             refine pure_ (i := 8) (N := some 70) (v := ?_) (a' := ?_) #[true, true, true, true, true, true, true, true, true, false, false, false] rfl rfl (any_of HT_.out (by kernel_rfl)) (fun _ _ _ h => h) (Or.inl ⟨by rfl, ?_⟩) ?_ ?_
             rotate_left
             ·intro w'
              go_simp
              with_reducible rfl
             rotate_left
             ·simp only [Act.put, List.setIfInBounds_toArray, List.set_cons_zero, List.set_cons_succ, i64_w, i32_w]
              rfl
             refine take_ (i := 9) (N := some 71) (v := ?_) (a' := ?_) #[true, true, true, true, true, true, true, true, true, true, false, false] rfl rfl (take_ofW HT_.out HW_.out (by kernel_rfl)) (fun _ _ _ h => h) (Or.inl ⟨by rfl, ?_⟩) hHeld ?_ ?_
             rotate_left
             ·rintro w' ⟨s0, s1, s2, s3, s4, s5, s6, s7, s8, s9, s10, s11, s12, s13, s14, s15, s16, s17, s18, s19⟩
              go_simp
              with_reducible rfl
             rotate_left
             ·simp only [Act.put, List.setIfInBounds_toArray, List.set_cons_zero, List.set_cons_succ, i64_w, i32_w]
              rfl
             refine one_ (i := 10) (N := some 72) #[true, true, true, true, true, true, true, true, true, true, true, false] rfl rfl (one_of HT_.out (by kernel_rfl)) (by decide) (fun K hK => ?_)
             refine goes_ Try.func30 (by kernel_rfl) rfl #[.agg #[.string ((rd_T52 l0_3 x6_3).f0), .string ((rd_T52 l0_3 x6_3).f1), .slice A268_2 ((rd_T52 l0_3 x6_3).f2).length c268_2, .slice A268_3 ((rd_T52 l0_3 x6_3).f3).length c268_3, .int .i64 ((rd_T52 l0_3 x6_3).f4)], .agg #[.string ((rd_T52 l1_3 x6_3).f0), .string ((rd_T52 l1_3 x6_3).f1), .slice A269_2 ((rd_T52 l1_3 x6_3).f2).length c269_2, .slice A269_3 ((rd_T52 l1_3 x6_3).f3).length c269_3, .int .i64 ((rd_T52 l1_3 x6_3).f4)]] (by rfl) rfl rfl (by (try simp only [List.map_toArray, List.map_cons, List.map_nil]); first | done | rfl | (simp only [List.length_drop, List.length_take]; rfl)) ?_
             with_reducible refine (ih k3 (by have := HJ2.out; have := HK2.out; have := HK3.out; omega) ((rd_T52 l0_3 x6_3).f0) ((rd_T52 l0_3 x6_3).f1) _ _ ((rd_T52 l0_3 x6_3).f2) _ _ ((rd_T52 l0_3 x6_3).f3) ((rd_T52 l0_3 x6_3).f4) ((rd_T52 l1_3 x6_3).f0) ((rd_T52 l1_3 x6_3).f1) _ _ ((rd_T52 l1_3 x6_3).f2) _ _ ((rd_T52 l1_3 x6_3).f3) ((rd_T52 l1_3 x6_3).f4) true _ ?side1 ?side2 ?side3 ?side4 ?side5 ?side6 ?side7 ?side8 A37.out).mono ?_
             (case side1 => repeat (first | exact (Kd.C_below HR268_2.out HB.out) | (with_reducible refine Kd.C_alloc ?_ _) | (with_reducible refine Kd.C_drewN ?_ _) | (with_reducible refine Kd.C_drew ?_)))
             (case side2 => exact HC268_2.out)
             (case side3 => repeat (first | exact (Kd.C_below HR268_3.out HB.out) | (with_reducible refine Kd.C_alloc ?_ _) | (with_reducible refine Kd.C_drewN ?_ _) | (with_reducible refine Kd.C_drew ?_)))
             (case side4 => exact HC268_3.out)
             (case side5 => repeat (first | exact (Kd.C_below HR269_2.out HB.out) | (with_reducible refine Kd.C_alloc ?_ _) | (with_reducible refine Kd.C_drewN ?_ _) | (with_reducible refine Kd.C_drew ?_)))
             (case side6 => exact HC269_2.out)
             (case side7 => repeat (first | exact (Kd.C_below HR269_3.out HB.out) | (with_reducible refine Kd.C_alloc ?_ _) | (with_reducible refine Kd.C_drewN ?_ _) | (with_reducible refine Kd.C_drew ?_)))
             (case side8 => exact HC269_3.out)
             rintro e w42 ⟨rfl, hb⟩
             refine ⟨_, rfl, ?_⟩
             have n0_ := Aside0.mk (blk_below (g := gb264) (o := .cells #[.string a0_0, .string a0_1, .slice A0_2 l0_2.length c0_2, .slice (some ad268) l0_3.length c0_3, .int .i64 a0_4] 52 (0, 0)) (by (with_reducible repeat (first | refine blk_drewN ?_ _ | refine blk_drew ?_ | refine blk_alloc ?_ _)); exact BK264.out) hb)
             have n1_ := Aside0.mk (blk_below (g := gb265) (o := .cells #[.string a1_0, .string a1_1, .slice A1_2 l1_2.length c1_2, .slice (some ad269) l1_3.length c1_3, .int .i64 a1_4] 52 (0, 0)) (by (with_reducible repeat (first | refine blk_drewN ?_ _ | refine blk_drew ?_ | refine blk_alloc ?_ _)); exact BK265.out) hb)
             have n2_ := Aside0.mk (below_step (by repeat (first | (with_reducible first | exact HB.out | apply below_alloc | apply pw_below_drewN | apply below_drew1 | refine below_set ?_ GE264.out | refine below_set ?_ GE265.out) | exact HB.out)) hb)
             clear BK264
             clear BK265
             clear HB
             have BK264 := n0_
             have BK265 := n1_
             have HB := n2_
             clear n0_ n1_ n2_
             (try clear hb)
             (try clear hb2)
             (try clear hk)
             (try clear hi)
             refine hK.out _ _ ⟨(blk_cell BK264.out 0).trans rfl, (blk_cell BK264.out 1).trans rfl, (blk_cell BK264.out 2).trans rfl, (blk_cell BK264.out 3).trans rfl, (blk_cell BK264.out 4).trans rfl, (blk_cell BK265.out 0).trans rfl, (blk_cell BK265.out 1).trans rfl, (blk_cell BK265.out 2).trans rfl, (blk_cell BK265.out 3).trans rfl, (blk_cell BK265.out 4).trans rfl, ((HB.out.cell (World.block_lt_of_cell? w _ hw268_0)).trans hw268_0), ((HB.out.cell (World.block_lt_of_cell? w _ hw268_1)).trans hw268_1), ((HB.out.cell (World.block_lt_of_cell? w _ hw268_2)).trans hw268_2), ((HB.out.cell (World.block_lt_of_cell? w _ hw268_3)).trans hw268_3), ((HB.out.cell (World.block_lt_of_cell? w _ hw268_4)).trans hw268_4), ((HB.out.cell (World.block_lt_of_cell? w _ hw269_0)).trans hw269_0), ((HB.out.cell (World.block_lt_of_cell? w _ hw269_1)).trans hw269_1), ((HB.out.cell (World.block_lt_of_cell? w _ hw269_2)).trans hw269_2), ((HB.out.cell (World.block_lt_of_cell? w _ hw269_3)).trans hw269_3), ((HB.out.cell (World.block_lt_of_cell? w _ hw269_4)).trans hw269_4)⟩ (fun hHeld => ?_)
             clear hK K
             refine norm_ (a' := ?_) ?_ ?_
             rotate_left
             ·show Act.put _ (some 72) _ = _
              simp only [Act.put, List.setIfInBounds_toArray, List.set_cons_zero, List.set_cons_succ, i64_w, i32_w]
              rfl
             refine pure_ (i := 11) (N := some 73) (v := ?_) (a' := ?_) #[true, true, true, true, true, true, true, true, true, true, true, true] rfl rfl (any_of HT_.out (by kernel_rfl)) (fun _ _ _ h => h) (Or.inl ⟨by rfl, ?_⟩) ?_ ?_
             rotate_left
             ·intro w'
              go_simp
              with_reducible rfl
             rotate_left
             ·simp only [Act.put, List.setIfInBounds_toArray, List.set_cons_zero, List.set_cons_succ, i64_w, i32_w]
              rfl
             refine done_ (done_of HT_.out (by kernel_rfl)) ?_
             try go_wp2
             go_roundg k3
             case measure => have := HJ2.out; have := HK2.out; have := HK3.out; omega
             case rel => exact ⟨(wrap64 (x6_3 + 1)), (by first | rfl | (simp; done) | (simp [*]; done)), H', ⟨by have := HJ2.out; have := HK2.out; have := HK3.out; omega⟩, ⟨by (with_reducible repeat (first | refine blk_drewN ?_ _ | refine blk_drew ?_ | refine blk_alloc ?_ _)); exact BK264.out⟩, ⟨by (with_reducible repeat (first | refine blk_drewN ?_ _ | refine blk_drew ?_ | refine blk_alloc ?_ _)); exact BK265.out⟩, ⟨by repeat (first | (with_reducible first | exact HB.out | apply below_alloc | apply pw_below_drewN | apply below_drew1 | refine below_set ?_ GE264.out | refine below_set ?_ GE265.out) | exact HB.out)⟩⟩
            ·replace c38 := Bool.eq_false_iff.mpr c38
             subst c38
             exact absurd H (by simp)
           ·rw [if_neg c36] at H
            exact absurd H (by simp)
          ·rw [if_neg c35] at H
           exact absurd H (by simp)
         ·rw [if_neg c34] at H
          have c34b0 : decide (x6_3 < (l0_3.length : Int)) = false := decide_eq_false c34
          clear c34
          obtain rfl := Option.some.inj H
          have hnb47 := NB264_265.out
          have hnc47 := NB265_264.out
          have hcz48_0 : wr.cell? ⟨gb264, 0, none⟩ = some (.string a0_0) := (blk_cell BK264.out 0).trans rfl
          have hcz48_1 : wr.cell? ⟨gb264, 1, none⟩ = some (.string a0_1) := (blk_cell BK264.out 1).trans rfl
          have hcz48_2 : wr.cell? ⟨gb264, 2, none⟩ = some (.slice A0_2 l0_2.length c0_2) := (blk_cell BK264.out 2).trans rfl
          have hcz48_3 : wr.cell? ⟨gb264, 3, none⟩ = some (.slice A0_3 l0_3.length c0_3) := (blk_cell BK264.out 3).trans rfl
          have hcz48_4 : wr.cell? ⟨gb264, 4, none⟩ = some (.int .i64 a0_4) := (blk_cell BK264.out 4).trans rfl
          have hfz48_0 := blk_frozen BK264.out 0
          have hfz48_1 := blk_frozen BK264.out 1
          have hfz48_2 := blk_frozen BK264.out 2
          have hfz48_3 := blk_frozen BK264.out 3
          have hfz48_4 := blk_frozen BK264.out 4
          go_wp2
          go_ret
          exact ⟨by first | rfl | (simp [errW_none, errW_some] <;> rfl) | (simp [*, errW_none, errW_some] <;> rfl), by repeat (first | (with_reducible first | exact HB.out | apply below_alloc | apply pw_below_drewN | apply below_drew1 | refine below_set ?_ GE264.out | refine below_set ?_ GE265.out) | exact HB.out)⟩

end Go.Proofs.Ytpembifnjlekdaa.PStyleAll
