/- A part of this claim's proof. -/
import Derived.Test.YtenhfmlkdcfbbaaDoorPHyphenPointsx0
import Derived.Test.YtenhfmlkdcfbbaaDoorPHyphenPointsx7
namespace Go.Proofs.YtenhfmlkdcfbbaaDoor.PHyphenPoints
open Go.RowKit Go.Proofs.YtenhfmlkdcfbbaaDoorW.PrintWords Go.Proofs.YtenhfmlkdcfbbaaDoorW.PrintLast Go.Proofs.YtenhfmlkdcfbbaaDoorW.PrintMore
attribute [local go_sem] max2_int min2_int max_two min_two max_three min_three max_four min_four   
set_option linter.unusedVariables false
set_option linter.unusedSimpArgs false
mutual
def colophonref21_read.j0 : Nat → List Int → Bool → Bool → Bool → Option (List Int × Bool × Bool × List Int × Bool)
 | 0, _, _, _, _ => none
 | k + 1, x0, x16, x179001, x179002 => if x16 = true then (if 1 ≤ (x0.length : Int) then (colophonref21_read.j1 k (x0.drop 1) true x179002) else (none)) else (colophonref21_read.j1 k x0 x179001 x179002)
def colophonref21_read.j1 : Nat → List Int → Bool → Bool → Option (List Int × Bool × Bool × List Int × Bool)
 | 0, _, _, _ => none
 | k + 1, x0, x179001, x179002 => if (x0.length : Int) > 0 then (if 0 ≤ (wrap64 ((x0.length : Int) - 1)) then (if (wrap64 ((x0.length : Int) - 1)) < (x0.length : Int) then (colophonref21_read.j2 k x0 ((rd x0 (wrap64 ((x0.length : Int) - 1))) == 46) x179001 x179002) else (none)) else (none)) else (colophonref21_read.j2 k x0 false x179001 x179002)
def colophonref21_read.j2 : Nat → List Int → Bool → Bool → Bool → Option (List Int × Bool × Bool × List Int × Bool)
 | 0, _, _, _, _ => none
 | k + 1, x0, x31, x179001, x179002 => if x31 = true then (if 0 ≤ (wrap64 ((x0.length : Int) - 1)) then (if (wrap64 ((x0.length : Int) - 1)) ≤ (x0.length : Int) then (colophonref21_read.j3 k (x0.take ((wrap64 ((x0.length : Int) - 1)) : Int).toNat) x179001 true) else (none)) else (none)) else (colophonref21_read.j3 k x0 x179001 x179002)
def colophonref21_read.j3 : Nat → List Int → Bool → Bool → Option (List Int × Bool × Bool × List Int × Bool)
 | 0, _, _, _ => none
 | k + 1, x0, x179001, x179002 => colophonref21_read.l0 k x0 0 false 0 ([] : List Int) x179001 x179002 ([] : List Int)
def colophonref21_read.l0 : Nat → List Int → Int → Bool → Int → List Int → Bool → Bool → List Int → Option (List Int × Bool × Bool × List Int × Bool)
 | 0, _, _, _, _, _, _, _, _ => none
 | k + 1, x0, x5, x6, x7, x179000, x179001, x179002, x179003 => if x7 < (x0.length : Int) then (if 0 ≤ x7 then (if (rd x0 x7) ≥ 48 then (colophonref21_read.j5 k x0 x5 x6 x7 (decide ((rd x0 x7) ≤ 57)) x179000 x179001 x179002 x179003) else (colophonref21_read.j5 k x0 x5 x6 x7 false x179000 x179001 x179002 x179003)) else (none)) else (if x179003.length < 17592186044416 then (some (x179000, x179001, x179002, (x179003 ++ [x5]), decide ((x179000.length : Int) > 0))) else (none))
def colophonref21_read.j5 : Nat → List Int → Int → Bool → Int → Bool → List Int → Bool → Bool → List Int → Option (List Int × Bool × Bool × List Int × Bool)
 | 0, _, _, _, _, _, _, _, _, _ => none
 | k + 1, x0, x5, x6, x7, x55, x179000, x179001, x179002, x179003 => if x55 = true then (if x6 = true then (some (x179000, x179001, x179002, x179003, false)) else (if 0 ≤ x7 then (if x7 < (x0.length : Int) then (colophonref21_read.l0 k x0 (wrap64 ((rd x0 x7) - 48)) true (wrap64 (x7 + 1)) x179000 x179001 x179002 x179003) else (none)) else (none))) else (if 0 ≤ x7 then (if x7 < (x0.length : Int) then ((colophonref21_Letter.f k (rd x0 x7)).bind fun t198 => (if t198 = true then (if (x179000.length : Int) = 64 then (some (x179000, x179001, x179002, x179003, false)) else (if x179000.length < 17592186044416 then (if x179003.length < 17592186044416 then (colophonref21_read.l0 k x0 0 false (wrap64 (x7 + 1)) (x179000 ++ [rd x0 x7]) x179001 x179002 (x179003 ++ [x5])) else (none)) else (none))) else (some (x179000, x179001, x179002, x179003, false)))) else (none)) else (none))
end
def colophonref21_read.f (k : Nat) (l0 : List Int) : Option (List Int × Bool × Bool × List Int × Bool) := if (l0.length : Int) > 0 then (if 0 < (l0.length : Int) then (colophonref21_read.j0 k l0 ((rd l0 0) == 46) false false) else (none)) else (colophonref21_read.j0 k l0 false false false)
theorem colophonref21_read.mono_l : ∀ k, (∀ y0 y1 y2 y3, LeO (colophonref21_read.j0 k y0 y1 y2 y3) (colophonref21_read.j0 (k + 1) y0 y1 y2 y3)) ∧ (∀ y0 y1 y2, LeO (colophonref21_read.j1 k y0 y1 y2) (colophonref21_read.j1 (k + 1) y0 y1 y2)) ∧ (∀ y0 y1 y2 y3, LeO (colophonref21_read.j2 k y0 y1 y2 y3) (colophonref21_read.j2 (k + 1) y0 y1 y2 y3)) ∧ (∀ y0 y1 y2, LeO (colophonref21_read.j3 k y0 y1 y2) (colophonref21_read.j3 (k + 1) y0 y1 y2)) ∧ (∀ y0 y1 y2 y3 y4 y5 y6 y7, LeO (colophonref21_read.l0 k y0 y1 y2 y3 y4 y5 y6 y7) (colophonref21_read.l0 (k + 1) y0 y1 y2 y3 y4 y5 y6 y7)) ∧ (∀ y0 y1 y2 y3 y4 y5 y6 y7 y8, LeO (colophonref21_read.j5 k y0 y1 y2 y3 y4 y5 y6 y7 y8) (colophonref21_read.j5 (k + 1) y0 y1 y2 y3 y4 y5 y6 y7 y8))
 | 0 => ⟨fun _ _ _ _ r h => by simp [colophonref21_read.j0] at h, fun _ _ _ r h => by simp [colophonref21_read.j1] at h, fun _ _ _ _ r h => by simp [colophonref21_read.j2] at h, fun _ _ _ r h => by simp [colophonref21_read.j3] at h, fun _ _ _ _ _ _ _ _ r h => by simp [colophonref21_read.l0] at h, fun _ _ _ _ _ _ _ _ _ r h => by simp [colophonref21_read.j5] at h⟩
 | k + 1 => by
  obtain ⟨ih0, ih1, ih2, ih3, ih4, ih5⟩ := colophonref21_read.mono_l k
  refine ⟨?_, ?_, ?_, ?_, ?_, ?_⟩
  ·intro y0 y1 y2 y3
   unfold colophonref21_read.j0
   repeat' first
   |(with_reducible exact ih0 _ _ _ _)
   |(with_reducible exact ih1 _ _ _)
   |(with_reducible exact ih2 _ _ _ _)
   |(with_reducible exact ih3 _ _ _)
   |(with_reducible exact ih4 _ _ _ _ _ _ _ _)
   |(with_reducible exact ih5 _ _ _ _ _ _ _ _ _)
   |(with_reducible exact colophonref21_Letter.mono _ _)
   |(with_reducible exact LeO.refl _)
   |(with_reducible exact LeO.none _)
   |(with_reducible refine LeO.ite ?_ ?_)
   |(with_reducible refine LeO.bind ?_ (fun _ => ?_))
   | exact ih0 _ _ _ _
   | exact ih1 _ _ _
   | exact ih2 _ _ _ _
   | exact ih3 _ _ _
   | exact ih4 _ _ _ _ _ _ _ _
   | exact ih5 _ _ _ _ _ _ _ _ _
   | exact colophonref21_Letter.mono _ _
   | exact LeO.none _
   | refine LeO.ite ?_ ?_
   | refine LeO.bind ?_ (fun _ => ?_)
  ·intro y0 y1 y2
   unfold colophonref21_read.j1
   repeat' first
   |(with_reducible exact ih0 _ _ _ _)
   |(with_reducible exact ih1 _ _ _)
   |(with_reducible exact ih2 _ _ _ _)
   |(with_reducible exact ih3 _ _ _)
   |(with_reducible exact ih4 _ _ _ _ _ _ _ _)
   |(with_reducible exact ih5 _ _ _ _ _ _ _ _ _)
   |(with_reducible exact colophonref21_Letter.mono _ _)
   |(with_reducible exact LeO.refl _)
   |(with_reducible exact LeO.none _)
   |(with_reducible refine LeO.ite ?_ ?_)
   |(with_reducible refine LeO.bind ?_ (fun _ => ?_))
   | exact ih0 _ _ _ _
   | exact ih1 _ _ _
   | exact ih2 _ _ _ _
   | exact ih3 _ _ _
   | exact ih4 _ _ _ _ _ _ _ _
   | exact ih5 _ _ _ _ _ _ _ _ _
   | exact colophonref21_Letter.mono _ _
   | exact LeO.none _
   | refine LeO.ite ?_ ?_
   | refine LeO.bind ?_ (fun _ => ?_)
  ·intro y0 y1 y2 y3
   unfold colophonref21_read.j2
   repeat' first
   |(with_reducible exact ih0 _ _ _ _)
   |(with_reducible exact ih1 _ _ _)
   |(with_reducible exact ih2 _ _ _ _)
   |(with_reducible exact ih3 _ _ _)
   |(with_reducible exact ih4 _ _ _ _ _ _ _ _)
   |(with_reducible exact ih5 _ _ _ _ _ _ _ _ _)
   |(with_reducible exact colophonref21_Letter.mono _ _)
   |(with_reducible exact LeO.refl _)
   |(with_reducible exact LeO.none _)
   |(with_reducible refine LeO.ite ?_ ?_)
   |(with_reducible refine LeO.bind ?_ (fun _ => ?_))
   | exact ih0 _ _ _ _
   | exact ih1 _ _ _
   | exact ih2 _ _ _ _
   | exact ih3 _ _ _
   | exact ih4 _ _ _ _ _ _ _ _
   | exact ih5 _ _ _ _ _ _ _ _ _
   | exact colophonref21_Letter.mono _ _
   | exact LeO.none _
   | refine LeO.ite ?_ ?_
   | refine LeO.bind ?_ (fun _ => ?_)
  ·intro y0 y1 y2
   unfold colophonref21_read.j3
   repeat' first
   |(with_reducible exact ih0 _ _ _ _)
   |(with_reducible exact ih1 _ _ _)
   |(with_reducible exact ih2 _ _ _ _)
   |(with_reducible exact ih3 _ _ _)
   |(with_reducible exact ih4 _ _ _ _ _ _ _ _)
   |(with_reducible exact ih5 _ _ _ _ _ _ _ _ _)
   |(with_reducible exact colophonref21_Letter.mono _ _)
   |(with_reducible exact LeO.refl _)
   |(with_reducible exact LeO.none _)
   |(with_reducible refine LeO.ite ?_ ?_)
   |(with_reducible refine LeO.bind ?_ (fun _ => ?_))
   | exact ih0 _ _ _ _
   | exact ih1 _ _ _
   | exact ih2 _ _ _ _
   | exact ih3 _ _ _
   | exact ih4 _ _ _ _ _ _ _ _
   | exact ih5 _ _ _ _ _ _ _ _ _
   | exact colophonref21_Letter.mono _ _
   | exact LeO.none _
   | refine LeO.ite ?_ ?_
   | refine LeO.bind ?_ (fun _ => ?_)
  ·intro y0 y1 y2 y3 y4 y5 y6 y7
   unfold colophonref21_read.l0
   repeat' first
   |(with_reducible exact ih0 _ _ _ _)
   |(with_reducible exact ih1 _ _ _)
   |(with_reducible exact ih2 _ _ _ _)
   |(with_reducible exact ih3 _ _ _)
   |(with_reducible exact ih4 _ _ _ _ _ _ _ _)
   |(with_reducible exact ih5 _ _ _ _ _ _ _ _ _)
   |(with_reducible exact colophonref21_Letter.mono _ _)
   |(with_reducible exact LeO.refl _)
   |(with_reducible exact LeO.none _)
   |(with_reducible refine LeO.ite ?_ ?_)
   |(with_reducible refine LeO.bind ?_ (fun _ => ?_))
   | exact ih0 _ _ _ _
   | exact ih1 _ _ _
   | exact ih2 _ _ _ _
   | exact ih3 _ _ _
   | exact ih4 _ _ _ _ _ _ _ _
   | exact ih5 _ _ _ _ _ _ _ _ _
   | exact colophonref21_Letter.mono _ _
   | exact LeO.none _
   | refine LeO.ite ?_ ?_
   | refine LeO.bind ?_ (fun _ => ?_)
  ·intro y0 y1 y2 y3 y4 y5 y6 y7 y8
   unfold colophonref21_read.j5
   repeat' first
   |(with_reducible exact ih0 _ _ _ _)
   |(with_reducible exact ih1 _ _ _)
   |(with_reducible exact ih2 _ _ _ _)
   |(with_reducible exact ih3 _ _ _)
   |(with_reducible exact ih4 _ _ _ _ _ _ _ _)
   |(with_reducible exact ih5 _ _ _ _ _ _ _ _ _)
   |(with_reducible exact colophonref21_Letter.mono _ _)
   |(with_reducible exact LeO.refl _)
   |(with_reducible exact LeO.none _)
   |(with_reducible refine LeO.ite ?_ ?_)
   |(with_reducible refine LeO.bind ?_ (fun _ => ?_))
   | exact ih0 _ _ _ _
   | exact ih1 _ _ _
   | exact ih2 _ _ _ _
   | exact ih3 _ _ _
   | exact ih4 _ _ _ _ _ _ _ _
   | exact ih5 _ _ _ _ _ _ _ _ _
   | exact colophonref21_Letter.mono _ _
   | exact LeO.none _
   | refine LeO.ite ?_ ?_
   | refine LeO.bind ?_ (fun _ => ?_)
theorem colophonref21_read.mono : ∀ a0 k, LeO (colophonref21_read.f k a0) (colophonref21_read.f (k + 1) a0) := by
 intro a0 k
 obtain ⟨ih0, ih1, ih2, ih3, ih4, ih5⟩ := colophonref21_read.mono_l k
 unfold colophonref21_read.f
 repeat' first
   |(with_reducible exact ih0 _ _ _ _)
   |(with_reducible exact ih1 _ _ _)
   |(with_reducible exact ih2 _ _ _ _)
   |(with_reducible exact ih3 _ _ _)
   |(with_reducible exact ih4 _ _ _ _ _ _ _ _)
   |(with_reducible exact ih5 _ _ _ _ _ _ _ _ _)
   |(with_reducible exact colophonref21_Letter.mono _ _)
   |(with_reducible exact LeO.refl _)
   |(with_reducible exact LeO.none _)
   |(with_reducible refine LeO.ite ?_ ?_)
   |(with_reducible refine LeO.bind ?_ (fun _ => ?_))
   | exact ih0 _ _ _ _
   | exact ih1 _ _ _
   | exact ih2 _ _ _ _
   | exact ih3 _ _ _
   | exact ih4 _ _ _ _ _ _ _ _
   | exact ih5 _ _ _ _ _ _ _ _ _
   | exact colophonref21_Letter.mono _ _
   | exact LeO.none _
   | refine LeO.ite ?_ ?_
   | refine LeO.bind ?_ (fun _ => ?_)
def colophonref21_read.T18 : Bool × List (List Nat × List Nat) := (true, [([], []), ([0], [0]), ([], []), ([], []), ([2, 3], [2, 3]), ([4], [4]), ([5], [5]), ([1, 6], [1, 6]), ([0, 1, 2, 3, 4, 5, 6, 7], []), ([8, 7, 7, 0, 1, 2, 3, 4, 5, 6, 7], [7, 8])])
def colophonref21_read.B18 : List Nat := [0, 1, 0, 0, 12, 28, 60, 127, 255, 511]
theorem colophonref21_read.tab18 : rtab .any (opsOf Tryd.f30 18) = colophonref21_read.T18 := by kernel_rfl
theorem colophonref21_read.bits18 : waitsOk colophonref21_read.T18.2 colophonref21_read.B18 = true := by kernel_rfl
set_option maxHeartbeats 8000000 in
set_option maxRecDepth 100000 in
theorem colophonref21_read.calls (k : Nat) (P0_ : Nat → Prop) (A0 : Option Addr) (c0 : Nat) (l0 : List Int) (r1 : List Int) (r2 : Bool) (r3 : Bool) (r4 : List Int) (r5 : Bool) (w : World) (hs0 : Kd.V (Kd.int .i64) 3 w w.heap.size (fun k_ => P0_ k_) (.slice A0 l0.length c0) l0) (h : colophonref21_read.f k l0 = some (r1, r2, r3, r4, r5)) :
  Calls Tryd.prog 30 #[.slice A0 l0.length c0] w fun e w' => ∃ v0_ v3_ : Value, e = .returned (.tuple #[.agg #[v0_, .bool r2, .bool r3, v3_], .bool r5]) ∧ Kd.R (Kd.int .i64) 3 w' w.heap.size (fun k_ => (w.heap.size ≤ k_) ∧ some k_ ≠ (v3_ : Value).ownBlock) v0_ r1 ∧ Kd.R (Kd.int .i64) 3 w' w.heap.size (fun k_ => (w.heap.size ≤ k_) ∧ some k_ ≠ (v0_ : Value).ownBlock) v3_ r4 ∧ Below w.heap.size w w' := by
 have hu66 := Tryd.underlying66
 have HO0 := Aside0.mk (show Kd.V (Kd.int .i64) 3 w w.heap.size (fun k_ => (P0_ k_ ∨ w.heap.size ≤ k_)) (.slice A0 l0.length c0) l0 from Kd.V_mono hs0 (fun k_ hk => .inl hk))
 have HB := Aside0.mk (Below.refl w.heap.size w)
 have H : (if (l0.length : Int) > 0 then (if 0 < (l0.length : Int) then (colophonref21_read.j0 k l0 ((rd l0 0) == 46) false false) else (none)) else (colophonref21_read.j0 k l0 false false false)) = some (r1, r2, r3, r4, r5) := h
 clear h
 have HC2 := Aside0.mk H
 clear H
 go_enter Tryd.func30, Tryd.ntmps30
 go_upto_region 2 with (first | ((with_reducible refine gate_dst (N := 2) rfl ?_); (try (refine gate_guard (by rfl) ?_; dsimp only)); refine box_event ?hg (N := 2) ?hd (cs := #[.slice none 0 0, .bool false, .bool false, .slice none 0 0]) (t := 66) ?hr ?_; (case hd => rfl); (case hg => rfl); (case hr => first | (go_simp; done) | (go_simp; rfl)); intro gb177 hg w3 hbox hb; have n0_ := Aside0.mk (Kd.V_below (Kd.V_elderB (by (with_reducible repeat (first | apply Kd.V_alloc | apply Kd.V_drewN | apply Kd.V_drew)); exact HO0.out) gb177 (Nat.le_of_eq hg.symm)) hb); have n1_ := Aside0.mk (below_step (by repeat (first | (with_reducible first | exact HB.out | apply below_alloc | apply pw_below_drewN | apply below_drew1) | exact HB.out)) hb); have n2_ := Aside0.mk (hbox); have n3_ := Aside0.mk ((by rw [hg]; exact (below_size (by repeat (first | (with_reducible first | exact HB.out | apply below_alloc | apply pw_below_drewN | apply below_drew1) | exact HB.out))) : w.heap.size ≤ gb177)); have n4_ := Aside0.mk ((by rw [hg]; exact (below_size (by repeat (first | (with_reducible first | exact HB.out | apply below_alloc | apply pw_below_drewN | apply below_drew1) | exact HB.out))) : w.heap.size ≤ gb177)); clear HO0; clear HB; have HO0 := n0_; have HB := n1_; have BK177 := n2_; have GW177 := n3_; have GE177 := n4_; clear n0_ n1_ n2_ n3_ n4_; clear hb hbox hg) | ((with_reducible refine gate_dst (N := 4) rfl ?_); (try (refine gate_guard (by rfl) ?_; dsimp only)); refine box_event ?hg (N := 4) ?hd (cs := #[.slice none 0 0, .bool false, .bool false, .slice none 0 0]) (t := 66) ?hr ?_; (case hd => rfl); (case hg => rfl); (case hr => first | (go_simp; done) | (go_simp; rfl)); intro gb178 hg w4 hbox hb; have n0_ := Aside0.mk (Kd.V_below (Kd.V_elderB (by (with_reducible repeat (first | apply Kd.V_alloc | apply Kd.V_drewN | apply Kd.V_drew)); exact HO0.out) gb178 (Nat.le_of_eq hg.symm)) hb); have n1_ := Aside0.mk (blk_below (g := gb177) (o := .cells #[.slice none 0 0, .bool false, .bool false, .slice none 0 0] 66 (0, 0)) (by (with_reducible repeat (first | refine blk_drewN ?_ _ | refine blk_drew ?_ | refine blk_alloc ?_ _)); exact BK177.out) hb); have n2_ := Aside0.mk (below_step (by repeat (first | (with_reducible first | exact HB.out | apply below_alloc | apply pw_below_drewN | apply below_drew1 | refine below_set ?_ GE177.out) | exact HB.out)) hb); have n3_ := Aside0.mk (hbox); have n4_ := Aside0.mk ((by rw [hg]; exact (below_size (by repeat (first | (with_reducible first | exact HB.out | apply below_alloc | apply pw_below_drewN | apply below_drew1 | refine below_set ?_ GE177.out) | exact HB.out))) : w.heap.size ≤ gb178)); have n5_ := Aside0.mk ((by rw [hg]; exact (below_size (by repeat (first | (with_reducible first | exact HB.out | apply below_alloc | apply pw_below_drewN | apply below_drew1 | refine below_set ?_ GE177.out) | exact HB.out))) : w.heap.size ≤ gb178)); have n6_ := Aside0.mk ((by rw [hg]; exact Nat.ne_of_lt (blk_lt (g := gb177) (o := .cells #[.slice none 0 0, .bool false, .bool false, .slice none 0 0] 66 (0, 0)) (by (with_reducible repeat (first | refine blk_drewN ?_ _ | refine blk_drew ?_ | refine blk_alloc ?_ _)); exact BK177.out)) : gb177 ≠ gb178)); have n7_ := Aside0.mk ((by rw [hg]; exact Nat.ne_of_gt (blk_lt (g := gb177) (o := .cells #[.slice none 0 0, .bool false, .bool false, .slice none 0 0] 66 (0, 0)) (by (with_reducible repeat (first | refine blk_drewN ?_ _ | refine blk_drew ?_ | refine blk_alloc ?_ _)); exact BK177.out)) : gb178 ≠ gb177)); clear HO0; clear BK177; clear HB; have HO0 := n0_; have BK177 := n1_; have HB := n2_; have BK178 := n3_; have GW178 := n4_; have GE178 := n5_; have NB177_178 := n6_; have NB178_177 := n7_; clear n0_ n1_ n2_ n3_ n4_ n5_ n6_ n7_; clear hb hbox hg))
 (try simp only [Act.put, List.setIfInBounds_toArray, List.set_cons_zero, List.set_cons_succ])
 go_cut [16] (fun v16 wc => ∃ (kq : Nat) (x16_1 : Bool), v16 = .bool x16_1 ∧ Aside0 (colophonref21_read.j0 kq l0 x16_1 false false = some (r1, r2, r3, r4, r5)) ∧ Aside0 (kq ≤ k) ∧ Aside0 (Kd.V (Kd.int .i64) 3 wc w.heap.size (fun k_ => (P0_ k_ ∨ w.heap.size ≤ k_) ∧ k_ ≠ gb177 ∧ k_ ≠ gb178) (.slice A0 l0.length c0) l0) ∧ Aside0 (wc.heap[gb177]? = some (.cells #[(.slice none 0 0), .bool false, .bool false, (.slice none 0 0)] 66 (0, 0))) ∧ Aside0 (wc.heap[gb178]? = some (.cells #[(.slice none 0 0), .bool false, .bool false, (.slice none 0 0)] 66 (0, 0))) ∧ Aside0 (Below w.heap.size w wc))
 case first =>
  have H := HC2.out
  clear HC2
  by_cases c5 : (l0.length : Int) > 0
  ·rw [if_pos c5] at H
   have c5b0 : decide (0 < (l0.length : Int)) = true := decide_eq_true c5
   have c5b1 : decide (0 < l0.length) = true := decide_eq_true (by omega)
   clear c5
   (first | rw [c5b0] | (simp only [i64_w, i32_w]; rw [c5b0]) | skip)
   by_cases c6 : 0 < (l0.length : Int)
   ·rw [if_pos c6] at H
    have c6b0 : decide (0 < (l0.length : Int)) = true := decide_eq_true c6
    have c6b1 : decide (0 < l0.length) = true := decide_eq_true (by omega)
    clear c6
    have H' := Aside0.mk H
    clear H
    have p179 : 0 ≤ (0 : Int) := (by omega)
    have q179 : 0 < (l0.length : Int) := of_decide_eq_true (by first | (with_reducible assumption) | assumption)
    obtain ⟨ad179, e179, hx179_0⟩ := Kd.at_int (Kd.V_reads' HO0.out).2.2 0 p179 q179
    cases e179
    have qi179 : (0 < l0.length) = True := eq_true (by omega)
    (try rw [show ((0 : Int)).toNat = 0 from rfl] at hx179_0)
    (try rw [Addr.add_zero'] at hx179_0)
    replace p179 := eq_true p179
    replace q179 := eq_true q179
    go_wp2
    go_meet
    case rel => exact ⟨_, (((rd l0 0) == 46)), (by first | rfl | (simp; done) | (simp [*]; done)), H', ⟨by first | omega | exact Nat.le_refl _⟩, ⟨by (with_reducible repeat (first | apply Kd.V_alloc | apply Kd.V_drewN | apply Kd.V_drew)); exact Kd.V_mono HO0.out (fun _ hk => ⟨hk.1.1, ⟨hk.1.2, hk.2⟩⟩)⟩, ⟨by (with_reducible repeat (first | refine blk_drewN ?_ _ | refine blk_drew ?_ | refine blk_alloc ?_ _)); exact BK177.out⟩, ⟨by (with_reducible repeat (first | refine blk_drewN ?_ _ | refine blk_drew ?_ | refine blk_alloc ?_ _)); exact BK178.out⟩, ⟨by repeat (first | (with_reducible first | exact HB.out | apply below_alloc | apply pw_below_drewN | apply below_drew1 | refine below_set ?_ GE177.out | refine below_set ?_ GE178.out) | exact HB.out)⟩⟩
   ·rw [if_neg c6] at H
    exact absurd H (by simp)
  ·rw [if_neg c5] at H
   have c5b0 : decide (0 < (l0.length : Int)) = false := decide_eq_false c5
   have c5b1 : decide (0 < l0.length) = false := decide_eq_false (by omega)
   clear c5
   (first | rw [c5b0] | (simp only [i64_w, i32_w]; rw [c5b0]) | skip)
   have H' := Aside0.mk H
   clear H
   go_wp2
   go_meet
   case rel => exact ⟨_, (false), (by first | rfl | (simp; done) | (simp [*]; done)), H', ⟨by first | omega | exact Nat.le_refl _⟩, ⟨by (with_reducible repeat (first | apply Kd.V_alloc | apply Kd.V_drewN | apply Kd.V_drew)); exact Kd.V_mono HO0.out (fun _ hk => ⟨hk.1.1, ⟨hk.1.2, hk.2⟩⟩)⟩, ⟨by (with_reducible repeat (first | refine blk_drewN ?_ _ | refine blk_drew ?_ | refine blk_alloc ?_ _)); exact BK177.out⟩, ⟨by (with_reducible repeat (first | refine blk_drewN ?_ _ | refine blk_drew ?_ | refine blk_alloc ?_ _)); exact BK178.out⟩, ⟨by repeat (first | (with_reducible first | exact HB.out | apply below_alloc | apply pw_below_drewN | apply below_drew1 | refine below_set ?_ GE177.out | refine below_set ?_ GE178.out) | exact HB.out)⟩⟩
 case rest =>
  clear HC2
  obtain ⟨kq, x16_1, rfl, HA, HJ1, HO_0, BK177, BK178, HB⟩ := hcut
  cases kq with
  | zero => exact absurd HA.out (by simp [colophonref21_read.j0])
  | succ kj1 =>
   have H := HA.out
   clear HA
   simp only [colophonref21_read.j0] at H
   have HC7 := Aside0.mk H
   clear H
   go_upto_if 16 with (fail)
   go_cut [0] (fun v0 wc => ∃ (kq : Nat) (x0_6 : List Int) (x179001_6 : Bool), Aside0 (colophonref21_read.j1 kq x0_6 x179001_6 false = some (r1, r2, r3, r4, r5)) ∧ Aside0 (kq ≤ kj1) ∧ Aside0 (Kd.V (Kd.int .i64) 3 wc w.heap.size (fun k_ => (P0_ k_ ∨ w.heap.size ≤ k_) ∧ k_ ≠ gb177 ∧ k_ ≠ gb178) v0 x0_6) ∧ Aside0 (wc.heap[gb177]? = some (.cells #[(.slice none 0 0), .bool false, .bool false, (.slice none 0 0)] 66 (0, 0))) ∧ Aside0 (wc.heap[gb178]? = some (.cells #[(.slice none 0 0), .bool x179001_6, .bool false, (.slice none 0 0)] 66 (0, 0))) ∧ Aside0 (Below w.heap.size w wc))
   case first =>
    have H := HC7.out
    clear HC7
    by_cases c8 : x16_1 = true
    ·subst c8
     have H1 : (if 1 ≤ (l0.length : Int) then (colophonref21_read.j1 kj1 (l0.drop 1) true false) else (none)) = some (r1, r2, r3, r4, r5) := by rw [if_pos rfl] at H; exact H
     clear H
     have H := H1
     clear H1
     by_cases c9 : 1 ≤ (l0.length : Int)
     ·rw [if_pos c9] at H
      have c9b0 := eq_true c9
      have c9b1 : decide (1 ≤ (l0.length : Int)) = true := decide_eq_true c9
      clear c9
      obtain ⟨y180, hy180⟩ : ∃ y_ : List Int, y_ = (l0.drop 1) := ⟨_, rfl⟩
      replace H : (colophonref21_read.j1 kj1 y180 true false) = some (r1, r2, r3, r4, r5) := by first | (rw [hy180]; with_reducible exact H) | (have H2_ := (Option.bind_some _ _).symm.trans H; rw [hy180]; with_reducible exact H2_) | (have H2_ := (Option.bind_some _ _).symm.trans H; with_reducible exact H2_) | with_reducible exact H | (rw [hy180]; exact H) | exact H
      have Ny180 := Aside0.mk hy180
      clear hy180
      have H' := Aside0.mk H
      clear H
      have hnb10 := NB178_177.out
      have hnc10 := NB177_178.out
      have hcz11_0 : wc.cell? ⟨gb178, 0, none⟩ = some (.slice none 0 0) := (blk_cell BK178.out 0).trans rfl
      have hcz11_1 : wc.cell? ⟨gb178, 1, none⟩ = some (.bool false) := (blk_cell BK178.out 1).trans rfl
      have hcz11_2 : wc.cell? ⟨gb178, 2, none⟩ = some (.bool false) := (blk_cell BK178.out 2).trans rfl
      have hcz11_3 : wc.cell? ⟨gb178, 3, none⟩ = some (.slice none 0 0) := (blk_cell BK178.out 3).trans rfl
      have hfz11_0 := blk_frozen BK178.out 0
      have hfz11_1 := blk_frozen BK178.out 1
      have hfz11_2 := blk_frozen BK178.out 2
      have hfz11_3 := blk_frozen BK178.out 3
      go_wp2_with (first | ((with_reducible refine gate_store (t := 4) (p := 17) rfl ?_); refine store_event (t := 4) (p := 17) (v := ?vo_w12) (w1 := (wc.setCell ⟨gb178, 1, none⟩ (.bool true))) ?hg ?ho ?hn ?hr ?_; (case ho => rfl); (case hg => rfl); (case hn => rfl); (case hr => first | (go_simp; done) | (go_simp; rfl)); intro w12 hw; have n0_ : Aside0 (Kd.V (Kd.int .i64) 3 w12 w.heap.size (fun k_ => (P0_ k_ ∨ w.heap.size ≤ k_) ∧ k_ ≠ gb177 ∧ k_ ≠ gb178) (.slice A0 l0.length c0) l0) := ⟨(by rw [hw]; exact (by (with_reducible repeat (first | apply Kd.V_alloc | apply Kd.V_drewN | apply Kd.V_drew)); exact Kd.V_mono (Kd.V_far (p := ⟨gb178, 1, none⟩) (Kd.V_mono HO_0.out (fun k_ hk => (⟨hk, hk.2.2⟩ : _ ∧ k_ ≠ gb178))) (fun _ hk => hk.2) (.bool true)) (fun _ hk => ⟨hk.1.1, ⟨hk.1.2.1, hk.1.2.2⟩⟩)))⟩; have n1_ : Aside0 (w12.heap[gb177]? = some (.cells #[.slice none 0 0, .bool false, .bool false, .slice none 0 0] 66 (0, 0))) := ⟨(by rw [hw]; exact (by (with_reducible repeat (first | refine blk_drewN ?_ _ | refine blk_drew ?_ | refine blk_alloc ?_ _)); refine blk_far ?_ NB177_178.out _; (with_reducible repeat (first | refine blk_drewN ?_ _ | refine blk_drew ?_ | refine blk_alloc ?_ _)); exact BK177.out))⟩; have n2_ : Aside0 (w12.heap[gb178]? = some (.cells #[.slice none 0 0, .bool true, .bool false, .slice none 0 0] 66 (0, 0))) := ⟨(by rw [hw]; exact (by (with_reducible repeat (first | refine blk_drewN ?_ _ | refine blk_drew ?_ | refine blk_alloc ?_ _)); refine blk_put (cs := #[.slice none 0 0, .bool false, .bool false, .slice none 0 0]) ?_ 1 _ rfl; (with_reducible repeat (first | refine blk_drewN ?_ _ | refine blk_drew ?_ | refine blk_alloc ?_ _)); exact BK178.out))⟩; have n3_ : Aside0 (Below w.heap.size w w12) := ⟨(by rw [hw]; exact (by repeat (first | (with_reducible first | exact HB.out | apply below_alloc | apply pw_below_drewN | apply below_drew1 | refine below_set ?_ GE177.out | refine below_set ?_ GE178.out) | exact HB.out)))⟩; clear hw; clear HO_0; clear BK177; clear BK178; clear HB; have HO_0 := n0_; have BK177 := n1_; have BK178 := n2_; have HB := n3_; clear n0_ n1_ n2_ n3_; have q13 : (1 : Int) ≤ ((l0.length : Int) : Int) := of_decide_eq_true (by first | (with_reducible assumption) | assumption); obtain ⟨i013, hi013, _, hsz13, _⟩ := info_parts info3; have hroom13 : l0.length ≤ c0 := (Kd.V_reads' HO_0.out).2.1; have hC13 : Kd.F (Kd.int .i64) _ _ A0 l0.length l0 := (Kd.V_at (base := w.heap.size) HO_0.out).2.2; have hcut13 := cut_from (P := Tryd.prog) 22 3 .i64 Tryd.underlying22 hi013 1 hsz13 A0 l0.length c0 1 (by omega) q13; have hr13 := Kd.F_cut (m := (1 : Int).toNat) (c := c0) hC13 (by omega) hroom13; obtain ⟨A13, hA13⟩ : ∃ A1, A1 = (if c0 = (1 : Int).toNat then A0 else (A0 : Option Addr).map (·.add ((1 : Int).toNat * 1))) := ⟨_, rfl⟩; obtain ⟨c13, hc13⟩ : ∃ c1, c1 = c0 - (1 : Int).toNat := ⟨_, rfl⟩; have hy13 : y180.length = l0.length - (1 : Int).toNat := (by rw [Ny180.out, List.length_drop] <;> omega); rw [show (l0).drop (1 : Int).toNat = y180 from Ny180.out.symm] at hr13; replace hr13 : Kd.F (Kd.int .i64) _ _ A13 y180.length y180 := (by rw [hA13]; exact hr13); rw [← hy13, ← hA13, ← hc13] at hcut13; have HO184 := Aside0.mk (show Kd.V (Kd.int .i64) 3 _ w.heap.size _ (.slice A13 y180.length c13) y180 from Kd.V_mk (by rw [hy13, hc13]; exact Nat.sub_le_sub_right hroom13 _) hr13); have HC184 := Aside0.mk (show y180.length ≤ c13 from by rw [hy13, hc13]; exact Nat.sub_le_sub_right hroom13 _); clear hr13 hC13 hroom13 hi013 hsz13 hc13; have KY13 := Aside0.mk hy13; have KA13 := Aside0.mk hA13; clear hy13 hA13; replace q13 := eq_true q13))
      go_meet
      case rel => exact ⟨_, (y180), (true), H', ⟨by have := HJ1.out; first | omega | exact Nat.le_refl _⟩, ⟨by (with_reducible repeat (first | apply Kd.V_alloc | apply Kd.V_drewN | apply Kd.V_drew)); exact HO184.out⟩, ⟨by (with_reducible repeat (first | refine blk_drewN ?_ _ | refine blk_drew ?_ | refine blk_alloc ?_ _)); exact BK177.out⟩, ⟨by (with_reducible repeat (first | refine blk_drewN ?_ _ | refine blk_drew ?_ | refine blk_alloc ?_ _)); exact BK178.out⟩, ⟨by repeat (first | (with_reducible first | exact HB.out | apply below_alloc | apply pw_below_drewN | apply below_drew1 | refine below_set ?_ GE177.out | refine below_set ?_ GE178.out) | exact HB.out)⟩⟩
     ·rw [if_neg c9] at H
      exact absurd H (by simp)
    ·replace c8 := Bool.eq_false_iff.mpr c8
     subst c8
     have H1 : (colophonref21_read.j1 kj1 l0 false false) = some (r1, r2, r3, r4, r5) := by rw [if_neg (show ¬ (false = true) by decide)] at H; exact H
     clear H
     have H := H1
     clear H1
     have H' := Aside0.mk H
     clear H
     go_wp2
     go_meet
     case rel => exact ⟨_, (l0), (false), H', ⟨by have := HJ1.out; first | omega | exact Nat.le_refl _⟩, ⟨by (with_reducible repeat (first | apply Kd.V_alloc | apply Kd.V_drewN | apply Kd.V_drew)); exact HO_0.out⟩, ⟨by (with_reducible repeat (first | refine blk_drewN ?_ _ | refine blk_drew ?_ | refine blk_alloc ?_ _)); exact BK177.out⟩, ⟨by (with_reducible repeat (first | refine blk_drewN ?_ _ | refine blk_drew ?_ | refine blk_alloc ?_ _)); exact BK178.out⟩, ⟨by repeat (first | (with_reducible first | exact HB.out | apply below_alloc | apply pw_below_drewN | apply below_drew1 | refine below_set ?_ GE177.out | refine below_set ?_ GE178.out) | exact HB.out)⟩⟩
   case rest =>
    clear HC7
    obtain ⟨kq, x0_6, x179001_6, HA, HJ6, HO_0, BK177, BK178, HB⟩ := hcut
    cases kq with
    | zero => exact absurd HA.out (by simp [colophonref21_read.j1])
    | succ kj6 =>
     have H := HA.out
     clear HA
     simp only [colophonref21_read.j1] at H
     have HC14 := Aside0.mk H
     clear H
     go_upto_region 5 with (fail)
     go_cut [31] (fun v31 wc => ∃ (kq : Nat) (x31_13 : Bool), v31 = .bool x31_13 ∧ Aside0 (colophonref21_read.j2 kq x0_6 x31_13 x179001_6 false = some (r1, r2, r3, r4, r5)) ∧ Aside0 (kq ≤ kj6) ∧ Aside0 (Kd.V (Kd.int .i64) 3 wc w.heap.size (fun k_ => (P0_ k_ ∨ w.heap.size ≤ k_) ∧ k_ ≠ gb177 ∧ k_ ≠ gb178) u0 x0_6) ∧ Aside0 (wc.heap[gb177]? = some (.cells #[(.slice none 0 0), .bool false, .bool false, (.slice none 0 0)] 66 (0, 0))) ∧ Aside0 (wc.heap[gb178]? = some (.cells #[(.slice none 0 0), .bool x179001_6, .bool false, (.slice none 0 0)] 66 (0, 0))) ∧ Aside0 (Below w.heap.size w wc))
     case first =>
      have H := HC14.out
      clear HC14
      by_cases c15 : (x0_6.length : Int) > 0
      ·rw [if_pos c15] at H
       have c15b0 : decide (0 < (x0_6.length : Int)) = true := decide_eq_true c15
       have c15b1 : decide (0 < x0_6.length) = true := decide_eq_true (by omega)
       clear c15
       (first | rw [c15b0] | (simp only [i64_w, i32_w]; rw [c15b0]) | skip)
       obtain ⟨ji16, hji16⟩ : ∃ j_ : Int, (wrap64 ((x0_6.length : Int) - 1)) = j_ := ⟨_, rfl⟩
       replace H : (if 0 ≤ (ji16) then (if (ji16) < (x0_6.length : Int) then (colophonref21_read.j2 kj6 x0_6 ((rd x0_6 (ji16)) == 46) x179001_6 false) else (none)) else (none)) = some (r1, r2, r3, r4, r5) := by first | (rw [hji16] at H; exact H) | (simp only [hji16] at H ⊢; exact H)
       have hji16w : (IntKind.i64.wrap ((x0_6.length : Int) - 1)) = ji16 := (i64_w _).trans hji16
       by_cases c17 : 0 ≤ (ji16)
       ·rw [if_pos c17] at H
        have c17b0 : decide (0 ≤ (ji16)) = true := decide_eq_true c17
        clear c17
        by_cases c18 : (ji16) < (x0_6.length : Int)
        ·rw [if_pos c18] at H
         have c18b0 : decide ((ji16) < (x0_6.length : Int)) = true := decide_eq_true c18
         clear c18
         have H' := Aside0.mk H
         clear H
         obtain ⟨Ao19, co19, eo19⟩ := Kd.V_slice HO_0.out
         subst eo19
         have p185 : 0 ≤ ((ji16) : Int) := of_decide_eq_true (by first | (with_reducible assumption) | assumption)
         have q185 : (ji16) < (x0_6.length : Int) := of_decide_eq_true (by first | (with_reducible assumption) | assumption)
         obtain ⟨ad185, e185, hx185_0⟩ := Kd.at_int (Kd.V_reads' HO_0.out).2.2 (ji16) p185 q185
         cases e185
         replace p185 := eq_true p185
         replace q185 := eq_true q185
         go_wp2
         go_meet
         case rel => exact ⟨_, (((rd x0_6 (ji16)) == 46)), (by first | rfl | (simp; done) | (simp only [← hji16] <;> (first | rfl | simp)) | (simp [*]; done)), H', ⟨by have := HJ1.out; have := HJ6.out; first | omega | exact Nat.le_refl _⟩, ⟨by (with_reducible repeat (first | apply Kd.V_alloc | apply Kd.V_drewN | apply Kd.V_drew)); exact HO_0.out⟩, ⟨by (with_reducible repeat (first | refine blk_drewN ?_ _ | refine blk_drew ?_ | refine blk_alloc ?_ _)); exact BK177.out⟩, ⟨by (with_reducible repeat (first | refine blk_drewN ?_ _ | refine blk_drew ?_ | refine blk_alloc ?_ _)); exact BK178.out⟩, ⟨by repeat (first | (with_reducible first | exact HB.out | apply below_alloc | apply pw_below_drewN | apply below_drew1 | refine below_set ?_ GE177.out | refine below_set ?_ GE178.out) | exact HB.out)⟩⟩
        ·rw [if_neg c18] at H
         exact absurd H (by simp)
       ·rw [if_neg c17] at H
        exact absurd H (by simp)
      ·rw [if_neg c15] at H
       have c15b0 : decide (0 < (x0_6.length : Int)) = false := decide_eq_false c15
       have c15b1 : decide (0 < x0_6.length) = false := decide_eq_false (by omega)
       clear c15
       (first | rw [c15b0] | (simp only [i64_w, i32_w]; rw [c15b0]) | skip)
       have H' := Aside0.mk H
       clear H
       obtain ⟨Ao20, co20, eo20⟩ := Kd.V_slice HO_0.out
       subst eo20
       go_wp2
       go_meet
       case rel => exact ⟨_, (false), (by first | rfl | (simp; done) | (simp [*]; done)), H', ⟨by have := HJ1.out; have := HJ6.out; first | omega | exact Nat.le_refl _⟩, ⟨by (with_reducible repeat (first | apply Kd.V_alloc | apply Kd.V_drewN | apply Kd.V_drew)); exact HO_0.out⟩, ⟨by (with_reducible repeat (first | refine blk_drewN ?_ _ | refine blk_drew ?_ | refine blk_alloc ?_ _)); exact BK177.out⟩, ⟨by (with_reducible repeat (first | refine blk_drewN ?_ _ | refine blk_drew ?_ | refine blk_alloc ?_ _)); exact BK178.out⟩, ⟨by repeat (first | (with_reducible first | exact HB.out | apply below_alloc | apply pw_below_drewN | apply below_drew1 | refine below_set ?_ GE177.out | refine below_set ?_ GE178.out) | exact HB.out)⟩⟩
     case rest =>
      clear HC14
      obtain ⟨kq, x31_13, rfl, HA, HJ13, HO_0, BK177, BK178, HB⟩ := hcut
      cases kq with
      | zero => exact absurd HA.out (by simp [colophonref21_read.j2])
      | succ kj13 =>
       have H := HA.out
       clear HA
       simp only [colophonref21_read.j2] at H
       have HC21 := Aside0.mk H
       clear H
       go_upto_if 31 with (fail)
       go_cut [0] (fun v0 wc => ∃ (kq : Nat) (x0_20 : List Int) (x179002_20 : Bool), Aside0 (colophonref21_read.j3 kq x0_20 x179001_6 x179002_20 = some (r1, r2, r3, r4, r5)) ∧ Aside0 (kq ≤ kj13) ∧ Aside0 (Kd.V (Kd.int .i64) 3 wc w.heap.size (fun k_ => (P0_ k_ ∨ w.heap.size ≤ k_) ∧ k_ ≠ gb177 ∧ k_ ≠ gb178) v0 x0_20) ∧ Aside0 (wc.heap[gb177]? = some (.cells #[(.slice none 0 0), .bool false, .bool false, (.slice none 0 0)] 66 (0, 0))) ∧ Aside0 (wc.heap[gb178]? = some (.cells #[(.slice none 0 0), .bool x179001_6, .bool x179002_20, (.slice none 0 0)] 66 (0, 0))) ∧ Aside0 (Below w.heap.size w wc))
       case first =>
        have H := HC21.out
        clear HC21
        by_cases c22 : x31_13 = true
        ·subst c22
         have H1 : (if 0 ≤ (wrap64 ((x0_6.length : Int) - 1)) then (if (wrap64 ((x0_6.length : Int) - 1)) ≤ (x0_6.length : Int) then (colophonref21_read.j3 kj13 (x0_6.take ((wrap64 ((x0_6.length : Int) - 1)) : Int).toNat) x179001_6 true) else (none)) else (none)) = some (r1, r2, r3, r4, r5) := by rw [if_pos rfl] at H; exact H
         clear H
         have H := H1
         clear H1
         obtain ⟨ji23, hji23⟩ : ∃ j_ : Int, (wrap64 ((x0_6.length : Int) - 1)) = j_ := ⟨_, rfl⟩
         replace H : (if 0 ≤ (ji23) then (if (ji23) ≤ (x0_6.length : Int) then (colophonref21_read.j3 kj13 (x0_6.take ((ji23) : Int).toNat) x179001_6 true) else (none)) else (none)) = some (r1, r2, r3, r4, r5) := by first | (rw [hji23] at H; exact H) | (simp only [hji23] at H ⊢; exact H)
         have hji23w : (IntKind.i64.wrap ((x0_6.length : Int) - 1)) = ji23 := (i64_w _).trans hji23
         by_cases c24 : 0 ≤ (ji23)
         ·rw [if_pos c24] at H
          have c24b0 := eq_true c24
          have c24b1 : decide (0 ≤ (ji23)) = true := decide_eq_true c24
          clear c24
          by_cases c25 : (ji23) ≤ (x0_6.length : Int)
          ·rw [if_pos c25] at H
           have c25b0 := eq_true c25
           have c25b1 : decide ((ji23) ≤ (x0_6.length : Int)) = true := decide_eq_true c25
           clear c25
           obtain ⟨y186, hy186⟩ : ∃ y_ : List Int, y_ = (x0_6.take ((ji23) : Int).toNat) := ⟨_, rfl⟩
           replace H : (colophonref21_read.j3 kj13 y186 x179001_6 true) = some (r1, r2, r3, r4, r5) := by first | (rw [hy186]; with_reducible exact H) | (have H2_ := (Option.bind_some _ _).symm.trans H; rw [hy186]; with_reducible exact H2_) | (have H2_ := (Option.bind_some _ _).symm.trans H; with_reducible exact H2_) | with_reducible exact H | (rw [hy186]; exact H) | exact H
           have Ny186 := Aside0.mk hy186
           clear hy186
           have H' := Aside0.mk H
           clear H
           have hnb26 := NB178_177.out
           have hnc26 := NB177_178.out
           have hcz27_0 : wc.cell? ⟨gb178, 0, none⟩ = some (.slice none 0 0) := (blk_cell BK178.out 0).trans rfl
           have hcz27_1 : wc.cell? ⟨gb178, 1, none⟩ = some (.bool x179001_6) := (blk_cell BK178.out 1).trans rfl
           have hcz27_2 : wc.cell? ⟨gb178, 2, none⟩ = some (.bool false) := (blk_cell BK178.out 2).trans rfl
           have hcz27_3 : wc.cell? ⟨gb178, 3, none⟩ = some (.slice none 0 0) := (blk_cell BK178.out 3).trans rfl
           have hfz27_0 := blk_frozen BK178.out 0
           have hfz27_1 := blk_frozen BK178.out 1
           have hfz27_2 := blk_frozen BK178.out 2
           have hfz27_3 := blk_frozen BK178.out 3
           go_wp2_with (first | ((with_reducible refine gate_store (t := 4) (p := 32) rfl ?_); refine store_event (t := 4) (p := 32) (v := ?vo_w28) (w1 := (wc.setCell ⟨gb178, 2, none⟩ (.bool true))) ?hg ?ho ?hn ?hr ?_; (case ho => rfl); (case hg => rfl); (case hn => rfl); (case hr => first | (go_simp; done) | (go_simp; rfl)); intro w28 hw; have n0_ : Aside0 (Kd.V (Kd.int .i64) 3 w28 w.heap.size (fun k_ => (P0_ k_ ∨ w.heap.size ≤ k_) ∧ k_ ≠ gb177 ∧ k_ ≠ gb178) u0 x0_6) := ⟨(by rw [hw]; exact (by (with_reducible repeat (first | apply Kd.V_alloc | apply Kd.V_drewN | apply Kd.V_drew)); exact Kd.V_mono (Kd.V_far (p := ⟨gb178, 2, none⟩) (Kd.V_mono HO_0.out (fun k_ hk => (⟨hk, hk.2.2⟩ : _ ∧ k_ ≠ gb178))) (fun _ hk => hk.2) (.bool true)) (fun _ hk => ⟨hk.1.1, ⟨hk.1.2.1, hk.1.2.2⟩⟩)))⟩; have n1_ : Aside0 (w28.heap[gb177]? = some (.cells #[.slice none 0 0, .bool false, .bool false, .slice none 0 0] 66 (0, 0))) := ⟨(by rw [hw]; exact (by (with_reducible repeat (first | refine blk_drewN ?_ _ | refine blk_drew ?_ | refine blk_alloc ?_ _)); refine blk_far ?_ NB177_178.out _; (with_reducible repeat (first | refine blk_drewN ?_ _ | refine blk_drew ?_ | refine blk_alloc ?_ _)); exact BK177.out))⟩; have n2_ : Aside0 (w28.heap[gb178]? = some (.cells #[.slice none 0 0, .bool x179001_6, .bool true, .slice none 0 0] 66 (0, 0))) := ⟨(by rw [hw]; exact (by (with_reducible repeat (first | refine blk_drewN ?_ _ | refine blk_drew ?_ | refine blk_alloc ?_ _)); refine blk_put (cs := #[.slice none 0 0, .bool x179001_6, .bool false, .slice none 0 0]) ?_ 2 _ rfl; (with_reducible repeat (first | refine blk_drewN ?_ _ | refine blk_drew ?_ | refine blk_alloc ?_ _)); exact BK178.out))⟩; have n3_ : Aside0 (Below w.heap.size w w28) := ⟨(by rw [hw]; exact (by repeat (first | (with_reducible first | exact HB.out | apply below_alloc | apply pw_below_drewN | apply below_drew1 | refine below_set ?_ GE177.out | refine below_set ?_ GE178.out) | exact HB.out)))⟩; clear hw; clear HO_0; clear BK177; clear BK178; clear HB; have HO_0 := n0_; have BK177 := n1_; have BK178 := n2_; have HB := n3_; clear n0_ n1_ n2_ n3_; obtain ⟨Ao29, co29, eo29⟩ := Kd.V_slice HO_0.out; subst eo29; have q30 : ((ji23) : Int) ≤ ((x0_6.length : Int) : Int) := of_decide_eq_true (by first | (with_reducible assumption) | assumption); obtain ⟨i030, hi030, _, hsz30, _⟩ := info_parts info3; have hroom30 : x0_6.length ≤ co29 := (Kd.V_reads' HO_0.out).2.1; have hC30 : Kd.F (Kd.int .i64) _ _ Ao29 x0_6.length x0_6 := (Kd.V_at (base := w.heap.size) HO_0.out).2.2; have hcut30 := cut_to (P := Tryd.prog) 22 3 .i64 Tryd.underlying22 hi030 Ao29 x0_6.length co29 (ji23) (of_decide_eq_true (by first | (with_reducible assumption) | assumption)) q30 hroom30; have hr30 := Kd.F_take (m := ((ji23) : Int).toNat) hC30 (by omega); have hy30 : y186.length = ((ji23) : Int).toNat := (by rw [Ny186.out, List.length_take]; omega); rw [← Ny186.out] at hr30; rw [← hy30] at hcut30; have HO190 := Aside0.mk (show Kd.V (Kd.int .i64) 3 _ w.heap.size _ (.slice Ao29 y186.length co29) y186 from Kd.V_mk (by omega) hr30); have HC190 := Aside0.mk (show y186.length ≤ co29 from by omega); clear hr30 hC30 hroom30 hi030 hsz30; have KY30 := Aside0.mk hy30; clear hy30; replace q30 := eq_true q30))
           go_meet
           case rel => exact ⟨_, (y186), (true), H', ⟨by have := HJ1.out; have := HJ6.out; have := HJ13.out; first | omega | exact Nat.le_refl _⟩, ⟨by (with_reducible repeat (first | apply Kd.V_alloc | apply Kd.V_drewN | apply Kd.V_drew)); exact HO190.out⟩, ⟨by (with_reducible repeat (first | refine blk_drewN ?_ _ | refine blk_drew ?_ | refine blk_alloc ?_ _)); exact BK177.out⟩, ⟨by (with_reducible repeat (first | refine blk_drewN ?_ _ | refine blk_drew ?_ | refine blk_alloc ?_ _)); exact BK178.out⟩, ⟨by repeat (first | (with_reducible first | exact HB.out | apply below_alloc | apply pw_below_drewN | apply below_drew1 | refine below_set ?_ GE177.out | refine below_set ?_ GE178.out) | exact HB.out)⟩⟩
          ·rw [if_neg c25] at H
           exact absurd H (by simp)
         ·rw [if_neg c24] at H
          exact absurd H (by simp)
        ·replace c22 := Bool.eq_false_iff.mpr c22
         subst c22
         have H1 : (colophonref21_read.j3 kj13 x0_6 x179001_6 false) = some (r1, r2, r3, r4, r5) := by rw [if_neg (show ¬ (false = true) by decide)] at H; exact H
         clear H
         have H := H1
         clear H1
         have H' := Aside0.mk H
         clear H
         go_wp2
         go_meet
         case rel => exact ⟨_, (x0_6), (false), H', ⟨by have := HJ1.out; have := HJ6.out; have := HJ13.out; first | omega | exact Nat.le_refl _⟩, ⟨by (with_reducible repeat (first | apply Kd.V_alloc | apply Kd.V_drewN | apply Kd.V_drew)); exact HO_0.out⟩, ⟨by (with_reducible repeat (first | refine blk_drewN ?_ _ | refine blk_drew ?_ | refine blk_alloc ?_ _)); exact BK177.out⟩, ⟨by (with_reducible repeat (first | refine blk_drewN ?_ _ | refine blk_drew ?_ | refine blk_alloc ?_ _)); exact BK178.out⟩, ⟨by repeat (first | (with_reducible first | exact HB.out | apply below_alloc | apply pw_below_drewN | apply below_drew1 | refine below_set ?_ GE177.out | refine below_set ?_ GE178.out) | exact HB.out)⟩⟩
       case rest =>
        clear HC21
        obtain ⟨kq, x0_20, x179002_20, HA, HJ20, HO_0, BK177, BK178, HB⟩ := hcut
        cases kq with
        | zero => exact absurd HA.out (by simp [colophonref21_read.j3])
        | succ kj20 =>
         have H := HA.out
         clear HA
         simp only [colophonref21_read.j3] at H
         have H' := Aside0.mk H
         clear H
         go_wp2
         go_loopg [5, 6, 7] kj20 (fun kq v5 v6 v7 w' => ∃ (x5_5 : Int) (x6_5 : Bool) (x7_5 : Int) (x178001_5 : Bool) (x178002_5 : Bool) (x179000_5 : List Int) (x179003_5 : List Int) (u179000 : Value) (u179003 : Value), v5 = .int .i64 x5_5 ∧ v6 = .bool x6_5 ∧ v7 = .int .i64 x7_5 ∧ Aside0 (colophonref21_read.l0 kq x0_20 x5_5 x6_5 x7_5 x179000_5 x179001_6 x179002_20 x179003_5 = some (r1, r2, r3, r4, r5)) ∧ Aside0 (kq ≤ kj20) ∧ Aside0 (Kd.V (Kd.int .i64) 3 w' w.heap.size (fun k_ => (P0_ k_ ∨ w.heap.size ≤ k_) ∧ some k_ ≠ (u179000 : Value).ownBlock ∧ some k_ ≠ (u179003 : Value).ownBlock ∧ k_ ≠ gb177 ∧ k_ ≠ gb178) u0 x0_20) ∧ Aside0 (Kd.R (Kd.int .i64) 3 w' w.heap.size (fun k_ => (w.heap.size ≤ k_) ∧ some k_ ≠ (u179003 : Value).ownBlock) u179000 x179000_5) ∧ Aside0 (Kd.R (Kd.int .i64) 3 w' w.heap.size (fun k_ => (w.heap.size ≤ k_) ∧ some k_ ≠ (u179000 : Value).ownBlock) u179003 x179003_5) ∧ Aside0 (w'.heap[gb177]? = some (.cells #[(.slice none 0 0), .bool x178001_5, .bool x178002_5, (.slice none 0 0)] 66 (0, 0))) ∧ Aside0 (w'.heap[gb178]? = some (.cells #[u179000, .bool x179001_6, .bool x179002_20, u179003] 66 (0, 0))) ∧ Aside0 (Below w.heap.size w w'))
         case atStart => exact ⟨(0), (false), (0), (false), (false), (([] : List Int)), (([] : List Int)), (.slice none 0 0), (.slice none 0 0), (by first | rfl | (simp; done) | (simp [*]; done)), (by first | rfl | (simp; done) | (simp [*]; done)), (by first | rfl | (simp; done) | (simp [*]; done)), H', ⟨Nat.le_refl _⟩, ⟨by (with_reducible repeat (first | apply Kd.V_alloc | apply Kd.V_drewN | apply Kd.V_drew)); exact Kd.V_mono HO_0.out (fun _ hk => ⟨hk.1, ⟨(by simp [Value.ownBlock]), ⟨(by simp [Value.ownBlock]), ⟨hk.2.1, hk.2.2⟩⟩⟩⟩)⟩, ⟨by first | exact Kd.R_nil _ _ _ _ _ | exact Kd.N_nil _ _ _ _ _ | exact Kd.V_nil _ _ _ _ _ | exact Kd.Q_nil _ _ _ _ _ | exact Kd.S_nil _ _ _ _ _⟩, ⟨by first | exact Kd.R_nil _ _ _ _ _ | exact Kd.N_nil _ _ _ _ _ | exact Kd.V_nil _ _ _ _ _ | exact Kd.Q_nil _ _ _ _ _ | exact Kd.S_nil _ _ _ _ _⟩, ⟨by (with_reducible repeat (first | refine blk_drewN ?_ _ | refine blk_drew ?_ | refine blk_alloc ?_ _)); exact BK177.out⟩, ⟨by (with_reducible repeat (first | refine blk_drewN ?_ _ | refine blk_drew ?_ | refine blk_alloc ?_ _)); exact BK178.out⟩, ⟨by repeat (first | (with_reducible first | exact HB.out | apply below_alloc | apply pw_below_drewN | apply below_drew1 | refine below_set ?_ GE177.out | refine below_set ?_ GE178.out) | exact HB.out)⟩⟩
         case round =>
          clear H'
          obtain ⟨x5_5, x6_5, x7_5, x178001_5, x178002_5, x179000_5, x179003_5, u179000, u179003, rfl, rfl, rfl, HA, HK5, HO_0, HO_179000, HO_179003, BK177, BK178, HB⟩ := hrel
          cases gk with
          | zero => exact absurd HA.out (by simp [colophonref21_read.l0])
          | succ k5 =>
           have H := HA.out
           clear HA
           simp only [colophonref21_read.l0] at H
           by_cases c31 : x7_5 < (x0_20.length : Int)
           ·rw [if_pos c31] at H
            have c31b0 : decide (x7_5 < (x0_20.length : Int)) = true := decide_eq_true c31
            clear c31
            have HC32 := Aside0.mk H
            clear H
            obtain ⟨Ao33, co33, eo33⟩ := Kd.V_slice HO_0.out
            subst eo33
            go_upto_region 12 with (fail)
            go_cut [55] (fun v55 wc => ∃ (kq : Nat) (x55_31 : Bool), v55 = .bool x55_31 ∧ Aside0 (colophonref21_read.j5 kq x0_20 x5_5 x6_5 x7_5 x55_31 x179000_5 x179001_6 x179002_20 x179003_5 = some (r1, r2, r3, r4, r5)) ∧ Aside0 (kq ≤ k5) ∧ Aside0 (Kd.V (Kd.int .i64) 3 wc w.heap.size (fun k_ => (P0_ k_ ∨ w.heap.size ≤ k_) ∧ some k_ ≠ (u179000 : Value).ownBlock ∧ some k_ ≠ (u179003 : Value).ownBlock ∧ k_ ≠ gb177 ∧ k_ ≠ gb178) (.slice Ao33 x0_20.length co33) x0_20) ∧ Aside0 (Kd.R (Kd.int .i64) 3 wc w.heap.size (fun k_ => (w.heap.size ≤ k_) ∧ some k_ ≠ (u179003 : Value).ownBlock) u179000 x179000_5) ∧ Aside0 (Kd.R (Kd.int .i64) 3 wc w.heap.size (fun k_ => (w.heap.size ≤ k_) ∧ some k_ ≠ (u179000 : Value).ownBlock) u179003 x179003_5) ∧ Aside0 (wc.heap[gb177]? = some (.cells #[(.slice none 0 0), .bool x178001_5, .bool x178002_5, (.slice none 0 0)] 66 (0, 0))) ∧ Aside0 (wc.heap[gb178]? = some (.cells #[u179000, .bool x179001_6, .bool x179002_20, u179003] 66 (0, 0))) ∧ Aside0 (Below w.heap.size w wc))
            case first =>
             have H := HC32.out
             clear HC32
             by_cases c34 : 0 ≤ x7_5
             ·rw [if_pos c34] at H
              have c34b0 : decide (0 ≤ x7_5) = true := decide_eq_true c34
              clear c34
              (first | rw [c34b0] | (simp only [i64_w, i32_w]; rw [c34b0]) | skip)
              by_cases c35 : (rd x0_20 x7_5) ≥ 48
              ·rw [if_pos c35] at H
               have c35b0 : decide (48 ≤ (rd x0_20 x7_5)) = true := decide_eq_true c35
               clear c35
               have H' := Aside0.mk H
               clear H
               have p194 : 0 ≤ (x7_5 : Int) := of_decide_eq_true (by first | (with_reducible assumption) | assumption)
               have q194 : x7_5 < (x0_20.length : Int) := of_decide_eq_true (by first | (with_reducible assumption) | assumption)
               obtain ⟨ad194, e194, hx194_0⟩ := Kd.at_int (Kd.V_reads' HO_0.out).2.2 x7_5 p194 q194
               cases e194
               replace p194 := eq_true p194
               replace q194 := eq_true q194
               have p195 : 0 ≤ (x7_5 : Int) := of_decide_eq_true (by first | (with_reducible assumption) | assumption)
               have q195 : x7_5 < (x0_20.length : Int) := of_decide_eq_true (by first | (with_reducible assumption) | assumption)
               obtain ⟨ad195, e195, hx195_0⟩ := Kd.at_int (Kd.V_reads' HO_0.out).2.2 x7_5 p195 q195
               obtain rfl : ad194 = ad195 := (by injection e195)
               replace p195 := eq_true p195
               replace q195 := eq_true q195
               go_wp2
               go_meet
               case rel => exact ⟨_, (decide ((rd x0_20 x7_5) ≤ 57)), (by first | rfl | (simp; done) | (simp [*]; done)), H', ⟨by have := HJ1.out; have := HJ6.out; have := HJ13.out; have := HJ20.out; have := HK5.out; first | omega | exact Nat.le_refl _⟩, ⟨by (with_reducible repeat (first | apply Kd.V_alloc | apply Kd.V_drewN | apply Kd.V_drew)); exact HO_0.out⟩, ⟨by (with_reducible repeat (first | apply Kd.R_alloc | apply Kd.R_drewN | apply Kd.R_drew)); exact HO_179000.out⟩, ⟨by (with_reducible repeat (first | apply Kd.R_alloc | apply Kd.R_drewN | apply Kd.R_drew)); exact HO_179003.out⟩, ⟨by (with_reducible repeat (first | refine blk_drewN ?_ _ | refine blk_drew ?_ | refine blk_alloc ?_ _)); exact BK177.out⟩, ⟨by (with_reducible repeat (first | refine blk_drewN ?_ _ | refine blk_drew ?_ | refine blk_alloc ?_ _)); exact BK178.out⟩, ⟨by repeat (first | (with_reducible first | exact HB.out | apply below_alloc | apply pw_below_drewN | apply below_drew1 | refine below_set ?_ GE177.out | refine below_set ?_ GE178.out) | exact HB.out)⟩⟩
              ·rw [if_neg c35] at H
               have c35b0 : decide (48 ≤ (rd x0_20 x7_5)) = false := decide_eq_false c35
               clear c35
               have H' := Aside0.mk H
               clear H
               have p194 : 0 ≤ (x7_5 : Int) := of_decide_eq_true (by first | (with_reducible assumption) | assumption)
               have q194 : x7_5 < (x0_20.length : Int) := of_decide_eq_true (by first | (with_reducible assumption) | assumption)
               obtain ⟨ad194, e194, hx194_0⟩ := Kd.at_int (Kd.V_reads' HO_0.out).2.2 x7_5 p194 q194
               cases e194
               replace p194 := eq_true p194
               replace q194 := eq_true q194
               go_wp2
               go_meet
               case rel => exact ⟨_, (false), (by first | rfl | (simp; done) | (simp [*]; done)), H', ⟨by have := HJ1.out; have := HJ6.out; have := HJ13.out; have := HJ20.out; have := HK5.out; first | omega | exact Nat.le_refl _⟩, ⟨by (with_reducible repeat (first | apply Kd.V_alloc | apply Kd.V_drewN | apply Kd.V_drew)); exact HO_0.out⟩, ⟨by (with_reducible repeat (first | apply Kd.R_alloc | apply Kd.R_drewN | apply Kd.R_drew)); exact HO_179000.out⟩, ⟨by (with_reducible repeat (first | apply Kd.R_alloc | apply Kd.R_drewN | apply Kd.R_drew)); exact HO_179003.out⟩, ⟨by (with_reducible repeat (first | refine blk_drewN ?_ _ | refine blk_drew ?_ | refine blk_alloc ?_ _)); exact BK177.out⟩, ⟨by (with_reducible repeat (first | refine blk_drewN ?_ _ | refine blk_drew ?_ | refine blk_alloc ?_ _)); exact BK178.out⟩, ⟨by repeat (first | (with_reducible first | exact HB.out | apply below_alloc | apply pw_below_drewN | apply below_drew1 | refine below_set ?_ GE177.out | refine below_set ?_ GE178.out) | exact HB.out)⟩⟩
             ·rw [if_neg c34] at H
              exact absurd H (by simp)
            case rest =>
             clear HC32
             obtain ⟨kq, x55_31, rfl, HA, HJ31, HO_0, HO_179000, HO_179003, BK177, BK178, HB⟩ := hcut
             cases kq with
             | zero => exact absurd HA.out (by simp [colophonref21_read.j5])
             | succ kj31 =>
              have H := HA.out
              clear HA
              simp only [colophonref21_read.j5] at H
              by_cases c36 : x55_31 = true
              ·subst c36
               have H1 : (if x6_5 = true then (some (x179000_5, x179001_6, x179002_20, x179003_5, false)) else (if 0 ≤ x7_5 then (if x7_5 < (x0_20.length : Int) then (colophonref21_read.l0 kj31 x0_20 (wrap64 ((rd x0_20 x7_5) - 48)) true (wrap64 (x7_5 + 1)) x179000_5 x179001_6 x179002_20 x179003_5) else (none)) else (none))) = some (r1, r2, r3, r4, r5) := by rw [if_pos rfl] at H; exact H
               clear H
               have H := H1
               clear H1
               by_cases c37 : x6_5 = true
               ·subst c37
                have H1 : (some (x179000_5, x179001_6, x179002_20, x179003_5, false)) = some (r1, r2, r3, r4, r5) := by rw [if_pos rfl] at H; exact H
                clear H
                have H := H1
                clear H1
                simp only [Option.some.injEq, Prod.mk.injEq] at H
                obtain ⟨rfl, rfl, rfl, rfl, rfl⟩ := H
                have hnb38 := NB178_177.out
                have hnc38 := NB177_178.out
                have hcz39_0 : wc.cell? ⟨gb178, 0, none⟩ = some (u179000) := (blk_cell BK178.out 0).trans rfl
                have hcz39_1 : wc.cell? ⟨gb178, 1, none⟩ = some (.bool x179001_6) := (blk_cell BK178.out 1).trans rfl
                have hcz39_2 : wc.cell? ⟨gb178, 2, none⟩ = some (.bool x179002_20) := (blk_cell BK178.out 2).trans rfl
                have hcz39_3 : wc.cell? ⟨gb178, 3, none⟩ = some (u179003) := (blk_cell BK178.out 3).trans rfl
                have hfz39_0 := blk_frozen BK178.out 0
                have hfz39_1 := blk_frozen BK178.out 1
                have hfz39_2 := blk_frozen BK178.out 2
                have hfz39_3 := blk_frozen BK178.out 3
                obtain ⟨Ao40, co40, eo40⟩ := Kd.R_slice HO_179000.out
                subst eo40
                have hcz41_0 : wc.cell? ⟨gb177, 0, none⟩ = some (.slice none 0 0) := (blk_cell BK177.out 0).trans rfl
                have hcz41_1 : wc.cell? ⟨gb177, 1, none⟩ = some (.bool x178001_5) := (blk_cell BK177.out 1).trans rfl
                have hcz41_2 : wc.cell? ⟨gb177, 2, none⟩ = some (.bool x178002_5) := (blk_cell BK177.out 2).trans rfl
                have hcz41_3 : wc.cell? ⟨gb177, 3, none⟩ = some (.slice none 0 0) := (blk_cell BK177.out 3).trans rfl
                have hfz41_0 := blk_frozen BK177.out 0
                have hfz41_1 := blk_frozen BK177.out 1
                have hfz41_2 := blk_frozen BK177.out 2
                have hfz41_3 := blk_frozen BK177.out 3
                obtain ⟨Ao42, co42, eo42⟩ := Kd.R_slice HO_179003.out
                subst eo42
                go_wp2
                refine bodyPost_ret (results_ct rfl _ _ gb177 66 #[.slice Ao40 x179000_5.length co40, .bool x179001_6, .bool x179002_20, .slice Ao42 x179003_5.length co42] (0, 0) _ rfl (by (with_reducible repeat (first | refine blk_drewN ?_ _ | refine blk_drew ?_ | refine blk_alloc ?_ _)); refine blk_put (cs := #[.slice Ao40 x179000_5.length co40, .bool x179001_6, .bool x179002_20, .slice none 0 0]) ?_ 3 _ rfl; (with_reducible repeat (first | refine blk_drewN ?_ _ | refine blk_drew ?_ | refine blk_alloc ?_ _)); refine blk_put (cs := #[.slice Ao40 x179000_5.length co40, .bool x179001_6, .bool x178002_5, .slice none 0 0]) ?_ 2 _ rfl; (with_reducible repeat (first | refine blk_drewN ?_ _ | refine blk_drew ?_ | refine blk_alloc ?_ _)); refine blk_put (cs := #[.slice Ao40 x179000_5.length co40, .bool x178001_5, .bool x178002_5, .slice none 0 0]) ?_ 1 _ rfl; (with_reducible repeat (first | refine blk_drewN ?_ _ | refine blk_drew ?_ | refine blk_alloc ?_ _)); refine blk_put (cs := #[.slice none 0 0, .bool x178001_5, .bool x178002_5, .slice none 0 0]) ?_ 0 _ rfl; (with_reducible repeat (first | refine blk_drewN ?_ _ | refine blk_drew ?_ | refine blk_alloc ?_ _)); exact BK177.out) Tryd.underlying66 rfl (by kernel_rfl)) rfl ?_
                exact ⟨_, _, by first | rfl | (simp [errW_none, errW_some] <;> rfl) | (simp [*, errW_none, errW_some] <;> rfl), by (with_reducible repeat (first | apply Kd.R_alloc | apply Kd.R_drewN | apply Kd.R_drew)); exact Kd.R_mono (Kd.R_far (p := ⟨gb177, 3, none⟩) (Kd.R_far (p := ⟨gb177, 2, none⟩) (Kd.R_far (p := ⟨gb177, 1, none⟩) (Kd.R_far (p := ⟨gb177, 0, none⟩) (Kd.R_types HO_179000.out BK177.out (by decide)) (fun _ hk => hk.2) (.slice Ao40 x179000_5.length co40)) (fun _ hk => hk.2) (.bool x179001_6)) (fun _ hk => hk.2) (.bool x179002_20)) (fun _ hk => hk.2) (.slice Ao42 x179003_5.length co42)) (fun _ hk => ⟨hk.1.1, hk.1.2⟩), by (with_reducible repeat (first | apply Kd.R_alloc | apply Kd.R_drewN | apply Kd.R_drew)); exact Kd.R_mono (Kd.R_far (p := ⟨gb177, 3, none⟩) (Kd.R_far (p := ⟨gb177, 2, none⟩) (Kd.R_far (p := ⟨gb177, 1, none⟩) (Kd.R_far (p := ⟨gb177, 0, none⟩) (Kd.R_types HO_179003.out BK177.out (by decide)) (fun _ hk => hk.2) (.slice Ao40 x179000_5.length co40)) (fun _ hk => hk.2) (.bool x179001_6)) (fun _ hk => hk.2) (.bool x179002_20)) (fun _ hk => hk.2) (.slice Ao42 x179003_5.length co42)) (fun _ hk => ⟨hk.1.1, hk.1.2⟩), by repeat (first | (with_reducible first | exact HB.out | apply below_alloc | apply pw_below_drewN | apply below_drew1 | refine below_set ?_ GE177.out | refine below_set ?_ GE178.out) | exact HB.out)⟩
               ·replace c37 := Bool.eq_false_iff.mpr c37
                subst c37
                have H1 : (if 0 ≤ x7_5 then (if x7_5 < (x0_20.length : Int) then (colophonref21_read.l0 kj31 x0_20 (wrap64 ((rd x0_20 x7_5) - 48)) true (wrap64 (x7_5 + 1)) x179000_5 x179001_6 x179002_20 x179003_5) else (none)) else (none)) = some (r1, r2, r3, r4, r5) := by rw [if_neg (show ¬ (false = true) by decide)] at H; exact H
                clear H
                have H := H1
                clear H1
                by_cases c43 : 0 ≤ x7_5
                ·rw [if_pos c43] at H
                 have c43b0 : decide (0 ≤ x7_5) = true := decide_eq_true c43
                 clear c43
                 by_cases c44 : x7_5 < (x0_20.length : Int)
                 ·rw [if_pos c44] at H
                  have c44b0 : decide (x7_5 < (x0_20.length : Int)) = true := decide_eq_true c44
                  clear c44
                  have H' := Aside0.mk H
                  clear H
                  have p196 : 0 ≤ (x7_5 : Int) := of_decide_eq_true (by first | (with_reducible assumption) | assumption)
                  have q196 : x7_5 < (x0_20.length : Int) := of_decide_eq_true (by first | (with_reducible assumption) | assumption)
                  obtain ⟨ad196, e196, hx196_0⟩ := Kd.at_int (Kd.V_reads' HO_0.out).2.2 x7_5 p196 q196
                  cases e196
                  replace p196 := eq_true p196
                  replace q196 := eq_true q196
                  go_wp2
                  go_roundg kj31
                  case measure => have := HJ1.out; have := HJ6.out; have := HJ13.out; have := HJ20.out; have := HK5.out; have := HJ31.out; omega
                  case rel => exact ⟨(wrap64 ((rd x0_20 x7_5) - 48)), (true), (wrap64 (x7_5 + 1)), (x178001_5), (x178002_5), (x179000_5), (x179003_5), (u179000), (u179003), (by first | rfl | (simp; done) | (simp [*]; done)), (by first | rfl | (simp; done) | (simp [*]; done)), (by first | rfl | (simp; done) | (simp [*]; done)), H', ⟨by have := HJ1.out; have := HJ6.out; have := HJ13.out; have := HJ20.out; have := HK5.out; have := HJ31.out; omega⟩, ⟨by (with_reducible repeat (first | apply Kd.V_alloc | apply Kd.V_drewN | apply Kd.V_drew)); exact HO_0.out⟩, ⟨by (with_reducible repeat (first | apply Kd.R_alloc | apply Kd.R_drewN | apply Kd.R_drew)); exact HO_179000.out⟩, ⟨by (with_reducible repeat (first | apply Kd.R_alloc | apply Kd.R_drewN | apply Kd.R_drew)); exact HO_179003.out⟩, ⟨by (with_reducible repeat (first | refine blk_drewN ?_ _ | refine blk_drew ?_ | refine blk_alloc ?_ _)); exact BK177.out⟩, ⟨by (with_reducible repeat (first | refine blk_drewN ?_ _ | refine blk_drew ?_ | refine blk_alloc ?_ _)); exact BK178.out⟩, ⟨by repeat (first | (with_reducible first | exact HB.out | apply below_alloc | apply pw_below_drewN | apply below_drew1 | refine below_set ?_ GE177.out | refine below_set ?_ GE178.out) | exact HB.out)⟩⟩
                 ·rw [if_neg c44] at H
                  exact absurd H (by simp)
                ·rw [if_neg c43] at H
                 exact absurd H (by simp)
              ·replace c36 := Bool.eq_false_iff.mpr c36
               subst c36
               have H1 : (if 0 ≤ x7_5 then (if x7_5 < (x0_20.length : Int) then ((colophonref21_Letter.f kj31 (rd x0_20 x7_5)).bind fun t198 => (if t198 = true then (if (x179000_5.length : Int) = 64 then (some (x179000_5, x179001_6, x179002_20, x179003_5, false)) else (if x179000_5.length < 17592186044416 then (if x179003_5.length < 17592186044416 then (colophonref21_read.l0 kj31 x0_20 0 false (wrap64 (x7_5 + 1)) (x179000_5 ++ [rd x0_20 x7_5]) x179001_6 x179002_20 (x179003_5 ++ [x5_5])) else (none)) else (none))) else (some (x179000_5, x179001_6, x179002_20, x179003_5, false)))) else (none)) else (none)) = some (r1, r2, r3, r4, r5) := by rw [if_neg (show ¬ (false = true) by decide)] at H; exact H
               clear H
               have H := H1
               clear H1
               by_cases c45 : 0 ≤ x7_5
               ·rw [if_pos c45] at H
                have c45b0 : decide (0 ≤ x7_5) = true := decide_eq_true c45
                clear c45
                by_cases c46 : x7_5 < (x0_20.length : Int)
                ·rw [if_pos c46] at H
                 have c46b0 : decide (x7_5 < (x0_20.length : Int)) = true := decide_eq_true c46
                 clear c46
                 replace H := Option.bind_eq_some_iff.mp H
                 obtain ⟨t198, A470, H⟩ := H
                 replace H : (if t198 = true then (if (x179000_5.length : Int) = 64 then (some (x179000_5, x179001_6, x179002_20, x179003_5, false)) else (if x179000_5.length < 17592186044416 then (if x179003_5.length < 17592186044416 then (colophonref21_read.l0 kj31 x0_20 0 false (wrap64 (x7_5 + 1)) (x179000_5 ++ [rd x0_20 x7_5]) x179001_6 x179002_20 (x179003_5 ++ [x5_5])) else (none)) else (none))) else (some (x179000_5, x179001_6, x179002_20, x179003_5, false))) = some (r1, r2, r3, r4, r5) := H
                 have A47 := Aside0.mk A470
                 clear A470
                 by_cases c48 : t198 = true
                 ·subst c48
                  have H1 : (if (x179000_5.length : Int) = 64 then (some (x179000_5, x179001_6, x179002_20, x179003_5, false)) else (if x179000_5.length < 17592186044416 then (if x179003_5.length < 17592186044416 then (colophonref21_read.l0 kj31 x0_20 0 false (wrap64 (x7_5 + 1)) (x179000_5 ++ [rd x0_20 x7_5]) x179001_6 x179002_20 (x179003_5 ++ [x5_5])) else (none)) else (none))) = some (r1, r2, r3, r4, r5) := by rw [if_pos rfl] at H; exact H
                  clear H
                  have H := H1
                  clear H1
                  by_cases c49 : (x179000_5.length : Int) = 64
                  ·rw [if_pos c49] at H
                   have c49b0 : ((x179000_5.length : Int) == 64) = true := beq_iff_eq.mpr c49
                   have c49b1 : ((x179000_5.length : Int) != 64) = false := bne_eq_false_iff_eq.mpr c49
                   clear c49
                   simp only [Option.some.injEq, Prod.mk.injEq] at H
                   obtain ⟨rfl, rfl, rfl, rfl, rfl⟩ := H
                   have p197 : 0 ≤ (x7_5 : Int) := of_decide_eq_true (by first | (with_reducible assumption) | assumption)
                   have q197 : x7_5 < (x0_20.length : Int) := of_decide_eq_true (by first | (with_reducible assumption) | assumption)
                   obtain ⟨ad197, e197, hx197_0⟩ := Kd.at_int (Kd.V_reads' HO_0.out).2.2 x7_5 p197 q197
                   cases e197
                   replace p197 := eq_true p197
                   replace q197 := eq_true q197
                   go_wp2_with (first | ((with_reducible refine gate_callee (f := 47) rfl ?_); refine goesL_ (some 67) rfl rfl Tryd.func47 (by kernel_rfl) rfl #[.int .i64 (rd x0_20 x7_5)] rfl (by (try simp only [List.map_toArray, List.map_cons, List.map_nil]); first | done | rfl | (simp only [List.length_drop, List.length_take]; rfl)) ?_; (with_reducible refine (colophonref21_Letter.calls kj31 (rd x0_20 x7_5) true _ A47.out).mono ?_); rintro e w' ⟨rfl, ⟨nd, rfl⟩⟩; refine ⟨_, rfl, ?_⟩; (try (rw [drewN_self wc]; generalize hq_ : World.drewN wc _ = wc; have n0_ : Aside0 (Kd.V (Kd.int .i64) 3 wc w.heap.size (fun k_ => (P0_ k_ ∨ w.heap.size ≤ k_) ∧ some k_ ≠ (u179000 : Value).ownBlock ∧ some k_ ≠ (u179003 : Value).ownBlock ∧ k_ ≠ gb177 ∧ k_ ≠ gb178) (.slice (some ad197) x0_20.length co33) x0_20) := ⟨by rw [← hq_]; exact (by (with_reducible repeat (first | apply Kd.V_alloc | apply Kd.V_drewN | apply Kd.V_drew)); exact HO_0.out)⟩; have n1_ : Aside0 (Kd.R (Kd.int .i64) 3 wc w.heap.size (fun k_ => (w.heap.size ≤ k_) ∧ some k_ ≠ (u179003 : Value).ownBlock) u179000 x179000_5) := ⟨by rw [← hq_]; exact (by (with_reducible repeat (first | apply Kd.R_alloc | apply Kd.R_drewN | apply Kd.R_drew)); exact HO_179000.out)⟩; have n2_ : Aside0 (Kd.R (Kd.int .i64) 3 wc w.heap.size (fun k_ => (w.heap.size ≤ k_) ∧ some k_ ≠ (u179000 : Value).ownBlock) u179003 x179003_5) := ⟨by rw [← hq_]; exact (by (with_reducible repeat (first | apply Kd.R_alloc | apply Kd.R_drewN | apply Kd.R_drew)); exact HO_179003.out)⟩; have n3_ : Aside0 (wc.heap[gb177]? = some (.cells #[.slice none 0 0, .bool x178001_5, .bool x178002_5, .slice none 0 0] 66 (0, 0))) := ⟨by rw [← hq_]; exact (by (with_reducible repeat (first | refine blk_drewN ?_ _ | refine blk_drew ?_ | refine blk_alloc ?_ _)); exact BK177.out)⟩; have n4_ : Aside0 (wc.heap[gb178]? = some (.cells #[u179000, .bool x179001_6, .bool x179002_20, u179003] 66 (0, 0))) := ⟨by rw [← hq_]; exact (by (with_reducible repeat (first | refine blk_drewN ?_ _ | refine blk_drew ?_ | refine blk_alloc ?_ _)); exact BK178.out)⟩; have n5_ : Aside0 (Below w.heap.size w wc) := ⟨by rw [← hq_]; exact (by repeat (first | (with_reducible first | exact HB.out | apply below_alloc | apply pw_below_drewN | apply below_drew1 | refine below_set ?_ GE177.out | refine below_set ?_ GE178.out) | exact HB.out))⟩; clear HO_0 HO_179000 HO_179003 BK177 BK178 HB hq_; have HO_0 := n0_; have HO_179000 := n1_; have HO_179003 := n2_; have BK177 := n3_; have BK178 := n4_; have HB := n5_; clear n0_ n1_ n2_ n3_ n4_ n5_)); have hnb50 := NB178_177.out; have hnc50 := NB177_178.out; have hcz51_0 : wc.cell? ⟨gb178, 0, none⟩ = some (u179000) := (blk_cell BK178.out 0).trans rfl; have hcz51_1 : wc.cell? ⟨gb178, 1, none⟩ = some (.bool x179001_6) := (blk_cell BK178.out 1).trans rfl; have hcz51_2 : wc.cell? ⟨gb178, 2, none⟩ = some (.bool x179002_20) := (blk_cell BK178.out 2).trans rfl; have hcz51_3 : wc.cell? ⟨gb178, 3, none⟩ = some (u179003) := (blk_cell BK178.out 3).trans rfl; have hfz51_0 := blk_frozen BK178.out 0; have hfz51_1 := blk_frozen BK178.out 1; have hfz51_2 := blk_frozen BK178.out 2; have hfz51_3 := blk_frozen BK178.out 3; obtain ⟨Ao52, co52, eo52⟩ := Kd.R_slice HO_179000.out; subst eo52; have hcz53_0 : wc.cell? ⟨gb177, 0, none⟩ = some (.slice none 0 0) := (blk_cell BK177.out 0).trans rfl; have hcz53_1 : wc.cell? ⟨gb177, 1, none⟩ = some (.bool x178001_5) := (blk_cell BK177.out 1).trans rfl; have hcz53_2 : wc.cell? ⟨gb177, 2, none⟩ = some (.bool x178002_5) := (blk_cell BK177.out 2).trans rfl; have hcz53_3 : wc.cell? ⟨gb177, 3, none⟩ = some (.slice none 0 0) := (blk_cell BK177.out 3).trans rfl; have hfz53_0 := blk_frozen BK177.out 0; have hfz53_1 := blk_frozen BK177.out 1; have hfz53_2 := blk_frozen BK177.out 2; have hfz53_3 := blk_frozen BK177.out 3; obtain ⟨Ao54, co54, eo54⟩ := Kd.R_slice HO_179003.out; subst eo54))
                   refine bodyPost_ret (results_ct rfl _ _ gb177 66 #[.slice Ao52 x179000_5.length co52, .bool x179001_6, .bool x179002_20, .slice Ao54 x179003_5.length co54] (0, 0) _ rfl (by (with_reducible repeat (first | refine blk_drewN ?_ _ | refine blk_drew ?_ | refine blk_alloc ?_ _)); refine blk_put (cs := #[.slice Ao52 x179000_5.length co52, .bool x179001_6, .bool x179002_20, .slice none 0 0]) ?_ 3 _ rfl; (with_reducible repeat (first | refine blk_drewN ?_ _ | refine blk_drew ?_ | refine blk_alloc ?_ _)); refine blk_put (cs := #[.slice Ao52 x179000_5.length co52, .bool x179001_6, .bool x178002_5, .slice none 0 0]) ?_ 2 _ rfl; (with_reducible repeat (first | refine blk_drewN ?_ _ | refine blk_drew ?_ | refine blk_alloc ?_ _)); refine blk_put (cs := #[.slice Ao52 x179000_5.length co52, .bool x178001_5, .bool x178002_5, .slice none 0 0]) ?_ 1 _ rfl; (with_reducible repeat (first | refine blk_drewN ?_ _ | refine blk_drew ?_ | refine blk_alloc ?_ _)); refine blk_put (cs := #[.slice none 0 0, .bool x178001_5, .bool x178002_5, .slice none 0 0]) ?_ 0 _ rfl; (with_reducible repeat (first | refine blk_drewN ?_ _ | refine blk_drew ?_ | refine blk_alloc ?_ _)); exact BK177.out) Tryd.underlying66 rfl (by kernel_rfl)) rfl ?_
                   exact ⟨_, _, by first | rfl | (simp [errW_none, errW_some] <;> rfl) | (simp [*, errW_none, errW_some] <;> rfl), by (with_reducible repeat (first | apply Kd.R_alloc | apply Kd.R_drewN | apply Kd.R_drew)); exact Kd.R_mono (Kd.R_far (p := ⟨gb177, 3, none⟩) (Kd.R_far (p := ⟨gb177, 2, none⟩) (Kd.R_far (p := ⟨gb177, 1, none⟩) (Kd.R_far (p := ⟨gb177, 0, none⟩) (Kd.R_types HO_179000.out BK177.out (by decide)) (fun _ hk => hk.2) (.slice Ao52 x179000_5.length co52)) (fun _ hk => hk.2) (.bool x179001_6)) (fun _ hk => hk.2) (.bool x179002_20)) (fun _ hk => hk.2) (.slice Ao54 x179003_5.length co54)) (fun _ hk => ⟨hk.1.1, hk.1.2⟩), by (with_reducible repeat (first | apply Kd.R_alloc | apply Kd.R_drewN | apply Kd.R_drew)); exact Kd.R_mono (Kd.R_far (p := ⟨gb177, 3, none⟩) (Kd.R_far (p := ⟨gb177, 2, none⟩) (Kd.R_far (p := ⟨gb177, 1, none⟩) (Kd.R_far (p := ⟨gb177, 0, none⟩) (Kd.R_types HO_179003.out BK177.out (by decide)) (fun _ hk => hk.2) (.slice Ao52 x179000_5.length co52)) (fun _ hk => hk.2) (.bool x179001_6)) (fun _ hk => hk.2) (.bool x179002_20)) (fun _ hk => hk.2) (.slice Ao54 x179003_5.length co54)) (fun _ hk => ⟨hk.1.1, hk.1.2⟩), by repeat (first | (with_reducible first | exact HB.out | apply below_alloc | apply pw_below_drewN | apply below_drew1 | refine below_set ?_ GE177.out | refine below_set ?_ GE178.out) | exact HB.out)⟩
                  ·rw [if_neg c49] at H
                   have c49b0 : ((x179000_5.length : Int) == 64) = false := beq_eq_false_iff_ne.mpr c49
                   have c49b1 : ((x179000_5.length : Int) != 64) = true := bne_iff_ne.mpr c49
                   by_cases c55 : x179000_5.length < 17592186044416
                   ·rw [if_pos c55] at H
                    have LMc55 := Aside0.mk c55
                    clear c55
                    obtain ⟨y200, hy200⟩ : ∃ y_ : List Int, y_ = (x179000_5 ++ [rd x0_20 x7_5]) := ⟨_, rfl⟩
                    replace H : (if x179003_5.length < 17592186044416 then (colophonref21_read.l0 kj31 x0_20 0 false (wrap64 (x7_5 + 1)) y200 x179001_6 x179002_20 (x179003_5 ++ [x5_5])) else (none)) = some (r1, r2, r3, r4, r5) := by first | (rw [hy200]; with_reducible exact H) | (have H2_ := (Option.bind_some _ _).symm.trans H; rw [hy200]; with_reducible exact H2_) | (have H2_ := (Option.bind_some _ _).symm.trans H; with_reducible exact H2_) | with_reducible exact H | (rw [hy200]; exact H) | exact H
                    have Ny200 := Aside0.mk hy200
                    clear hy200
                    by_cases c56 : x179003_5.length < 17592186044416
                    ·rw [if_pos c56] at H
                     have LMc56 := Aside0.mk c56
                     clear c56
                     obtain ⟨y203, hy203⟩ : ∃ y_ : List Int, y_ = (x179003_5 ++ [x5_5]) := ⟨_, rfl⟩
                     replace H : (colophonref21_read.l0 kj31 x0_20 0 false (wrap64 (x7_5 + 1)) y200 x179001_6 x179002_20 y203) = some (r1, r2, r3, r4, r5) := by first | (rw [hy203]; with_reducible exact H) | (have H2_ := (Option.bind_some _ _).symm.trans H; rw [hy203]; with_reducible exact H2_) | (have H2_ := (Option.bind_some _ _).symm.trans H; with_reducible exact H2_) | with_reducible exact H | (rw [hy203]; exact H) | exact H
                     have Ny203 := Aside0.mk hy203
                     clear hy203
                     have H' := Aside0.mk H
                     clear H
                     have p197 : 0 ≤ (x7_5 : Int) := of_decide_eq_true (by first | (with_reducible assumption) | assumption)
                     have q197 : x7_5 < (x0_20.length : Int) := of_decide_eq_true (by first | (with_reducible assumption) | assumption)
                     obtain ⟨ad197, e197, hx197_0⟩ := Kd.at_int (Kd.V_reads' HO_0.out).2.2 x7_5 p197 q197
                     cases e197
                     replace p197 := eq_true p197
                     replace q197 := eq_true q197
                     try go_wp2_with (first | ((with_reducible refine gate_callee (f := 47) rfl ?_); refine goesL_ (some 67) rfl rfl Tryd.func47 (by kernel_rfl) rfl #[.int .i64 (rd x0_20 x7_5)] rfl (by (try simp only [List.map_toArray, List.map_cons, List.map_nil]); first | done | rfl | (simp only [List.length_drop, List.length_take]; rfl)) ?_; (with_reducible refine (colophonref21_Letter.calls kj31 (rd x0_20 x7_5) true _ A47.out).mono ?_); rintro e w' ⟨rfl, ⟨nd, rfl⟩⟩; refine ⟨_, rfl, ?_⟩; (try (rw [drewN_self wc]; generalize hq_ : World.drewN wc _ = wc; have n0_ : Aside0 (Kd.V (Kd.int .i64) 3 wc w.heap.size (fun k_ => (P0_ k_ ∨ w.heap.size ≤ k_) ∧ some k_ ≠ (u179000 : Value).ownBlock ∧ some k_ ≠ (u179003 : Value).ownBlock ∧ k_ ≠ gb177 ∧ k_ ≠ gb178) (.slice (some ad197) x0_20.length co33) x0_20) := ⟨by rw [← hq_]; exact (by (with_reducible repeat (first | apply Kd.V_alloc | apply Kd.V_drewN | apply Kd.V_drew)); exact HO_0.out)⟩; have n1_ : Aside0 (Kd.R (Kd.int .i64) 3 wc w.heap.size (fun k_ => (w.heap.size ≤ k_) ∧ some k_ ≠ (u179003 : Value).ownBlock) u179000 x179000_5) := ⟨by rw [← hq_]; exact (by (with_reducible repeat (first | apply Kd.R_alloc | apply Kd.R_drewN | apply Kd.R_drew)); exact HO_179000.out)⟩; have n2_ : Aside0 (Kd.R (Kd.int .i64) 3 wc w.heap.size (fun k_ => (w.heap.size ≤ k_) ∧ some k_ ≠ (u179000 : Value).ownBlock) u179003 x179003_5) := ⟨by rw [← hq_]; exact (by (with_reducible repeat (first | apply Kd.R_alloc | apply Kd.R_drewN | apply Kd.R_drew)); exact HO_179003.out)⟩; have n3_ : Aside0 (wc.heap[gb177]? = some (.cells #[.slice none 0 0, .bool x178001_5, .bool x178002_5, .slice none 0 0] 66 (0, 0))) := ⟨by rw [← hq_]; exact (by (with_reducible repeat (first | refine blk_drewN ?_ _ | refine blk_drew ?_ | refine blk_alloc ?_ _)); exact BK177.out)⟩; have n4_ : Aside0 (wc.heap[gb178]? = some (.cells #[u179000, .bool x179001_6, .bool x179002_20, u179003] 66 (0, 0))) := ⟨by rw [← hq_]; exact (by (with_reducible repeat (first | refine blk_drewN ?_ _ | refine blk_drew ?_ | refine blk_alloc ?_ _)); exact BK178.out)⟩; have n5_ : Aside0 (Below w.heap.size w wc) := ⟨by rw [← hq_]; exact (by repeat (first | (with_reducible first | exact HB.out | apply below_alloc | apply pw_below_drewN | apply below_drew1 | refine below_set ?_ GE177.out | refine below_set ?_ GE178.out) | exact HB.out))⟩; clear HO_0 HO_179000 HO_179003 BK177 BK178 HB hq_; have HO_0 := n0_; have HO_179000 := n1_; have HO_179003 := n2_; have BK177 := n3_; have BK178 := n4_; have HB := n5_; clear n0_ n1_ n2_ n3_ n4_ n5_)); have hnb57 := NB178_177.out; have hnc57 := NB177_178.out; have hcz58_0 : wc.cell? ⟨gb178, 0, none⟩ = some (u179000) := (blk_cell BK178.out 0).trans rfl; have hcz58_1 : wc.cell? ⟨gb178, 1, none⟩ = some (.bool x179001_6) := (blk_cell BK178.out 1).trans rfl; have hcz58_2 : wc.cell? ⟨gb178, 2, none⟩ = some (.bool x179002_20) := (blk_cell BK178.out 2).trans rfl; have hcz58_3 : wc.cell? ⟨gb178, 3, none⟩ = some (u179003) := (blk_cell BK178.out 3).trans rfl; have hfz58_0 := blk_frozen BK178.out 0; have hfz58_1 := blk_frozen BK178.out 1; have hfz58_2 := blk_frozen BK178.out 2; have hfz58_3 := blk_frozen BK178.out 3; obtain ⟨Ao59, co59, eo59⟩ := Kd.R_slice HO_179000.out; subst eo59))
                     have n0_ := Aside0.mk (Kd.V_drew HO_0.out)
                     have n1_ := Aside0.mk (Kd.R_drew HO_179000.out)
                     have n2_ := Aside0.mk (Kd.R_drew HO_179003.out)
                     have n3_ := Aside0.mk (blk_drew BK177.out)
                     have n4_ := Aside0.mk (blk_drew BK178.out)
                     have n5_ := Aside0.mk (below_drew1 HB.out)
                     clear HO_0
                     clear HO_179000
                     clear HO_179003
                     clear BK177
                     clear BK178
                     clear HB
                     have HO_0 := n0_
                     have HO_179000 := n1_
                     have HO_179003 := n2_
                     have BK177 := n3_
                     have BK178 := n4_
                     have HB := n5_
                     clear n0_ n1_ n2_ n3_ n4_ n5_
                     have p199 : 0 ≤ (x7_5 : Int) := of_decide_eq_true (by first | (with_reducible assumption) | assumption)
                     have q199 : x7_5 < (x0_20.length : Int) := of_decide_eq_true (by first | (with_reducible assumption) | assumption)
                     obtain ⟨ad199, e199, hx199_0⟩ := Kd.at_int (Kd.V_reads' HO_0.out).2.2 x7_5 p199 q199
                     obtain rfl : ad197 = ad199 := (by injection e199)
                     replace p199 := eq_true p199
                     replace q199 := eq_true q199
                     refine start_ (n := 10) (S := fun w' => w'.cell? ⟨gb178, 0, none⟩ = some (.slice Ao59 x179000_5.length co59) ∧ w'.cell? ⟨gb178, 1, none⟩ = some (.bool x179001_6) ∧ w'.cell? ⟨gb178, 2, none⟩ = some (.bool x179002_20) ∧ w'.cell? ⟨gb178, 3, none⟩ = some (u179003) ∧ w'.cell? (ad197.add (x7_5).toNat) = some (.int .i64 (rd x0_20 x7_5))) (ds := [7, 9]) #[false, false, false, false, false, false, false, false, false, false] (by kernel_rfl) rfl rfl ⟨(blk_cell BK178.out 0).trans rfl, (blk_cell BK178.out 1).trans rfl, (blk_cell BK178.out 2).trans rfl, (blk_cell BK178.out 3).trans rfl, hx199_0⟩ (fun hHeld => ?_); refine with_tabW colophonref21_read.tab18 colophonref21_read.bits18 (fun HT_ HW_ => ?_)
                     generalize wc.drew = w60 at HO_0 HO_179000 HO_179003 BK177 BK178 HB hx199_0 hHeld ⊢
                     refine pure_ (i := 0) (N := some 76) (v := ?_) (a' := ?_) #[true, false, false, false, false, false, false, false, false, false] rfl rfl (any_of HT_.out (by kernel_rfl)) (fun _ _ _ h => h) (Or.inl ⟨by rfl, ?_⟩) ?_ ?_
                     rotate_left
                     ·intro w'
                      go_simp
                      with_reducible rfl
                     rotate_left
                     ·simp only [Act.put, List.setIfInBounds_toArray, List.set_cons_zero, List.set_cons_succ, i64_w, i32_w]
                      rfl
                     refine pure_ (i := 2) (N := some 78) (v := ?_) (a' := ?_) #[true, false, true, false, false, false, false, false, false, false] rfl rfl (any_of HT_.out (by kernel_rfl)) (fun _ _ _ h => h) (Or.inl ⟨by rfl, ?_⟩) ?_ ?_
                     rotate_left
                     ·intro w'
                      go_simp
                      with_reducible rfl
                     rotate_left
                     ·simp only [Act.put, List.setIfInBounds_toArray, List.set_cons_zero, List.set_cons_succ, i64_w, i32_w]
                      rfl
                     refine pure_ (i := 3) (N := some 79) (v := ?_) (a' := ?_) #[true, false, true, true, false, false, false, false, false, false] rfl rfl (any_of HT_.out (by kernel_rfl)) (fun _ _ _ h => h) (Or.inl ⟨by rfl, ?_⟩) ?_ ?_
                     rotate_left
                     ·intro w'
                      go_simp
                      with_reducible rfl
                     rotate_left
                     ·simp only [Act.put, List.setIfInBounds_toArray, List.set_cons_zero, List.set_cons_succ, i64_w, i32_w]
                      rfl
                     refine pure_ (i := 4) (N := some 80) (v := ?_) (a' := ?_) #[true, false, true, true, true, false, false, false, false, false] rfl rfl (any_of HT_.out (by kernel_rfl)) (fun _ _ _ h => h) (Or.inl ⟨by rfl, ?_⟩) ?_ ?_
                     rotate_left
                     ·intro w'
                      go_simp
                      with_reducible rfl
                     rotate_left
                     ·simp only [Act.put, List.setIfInBounds_toArray, List.set_cons_zero, List.set_cons_succ, i64_w, i32_w]
                      rfl
                     refine take_ (i := 1) (N := some 77) (v := ?_) (a' := ?_) #[true, true, true, true, true, false, false, false, false, false] rfl rfl (take_ofW HT_.out HW_.out (by kernel_rfl)) (fun _ _ _ h => h) (Or.inl ⟨by rfl, ?_⟩) hHeld ?_ ?_
                     rotate_left
                     ·rintro w' ⟨s0, s1, s2, s3, s4⟩
                      go_simp
                      with_reducible rfl
                     rotate_left
                     ·simp only [Act.put, List.setIfInBounds_toArray, List.set_cons_zero, List.set_cons_succ, i64_w, i32_w]
                      rfl
                     refine take_ (i := 5) (N := some 81) (v := ?_) (a' := ?_) #[true, true, true, true, true, true, false, false, false, false] rfl rfl (take_ofW HT_.out HW_.out (by kernel_rfl)) (fun _ _ _ h => h) (Or.inl ⟨by rfl, ?_⟩) hHeld ?_ ?_
                     rotate_left
                     ·rintro w' ⟨s0, s1, s2, s3, s4⟩
                      go_simp
                      with_reducible rfl
                     rotate_left
                     ·simp only [Act.put, List.setIfInBounds_toArray, List.set_cons_zero, List.set_cons_succ, i64_w, i32_w]
                      rfl
                     refine one_ (i := 6) (N := some 82) #[true, true, true, true, true, true, true, false, false, false] rfl rfl (one_of HT_.out (by kernel_rfl)) (by decide) (fun K hK => ?_)
                     refine value_ (w1 := ?_) (v := ?_) (by rfl) rfl ?_ ?_
                     rotate_left 2
                     ·go_simp
                      constructor
                      ·rfl
                      ·rfl
                     refine hK.out _ _ ⟨(blk_cell (blk_alloc BK178.out _) 0).trans rfl, (blk_cell (blk_alloc BK178.out _) 1).trans rfl, (blk_cell (blk_alloc BK178.out _) 2).trans rfl, (blk_cell (blk_alloc BK178.out _) 3).trans rfl, (World.cell?_alloc_lt _ _ _ (World.block_lt_of_cell? _ _ (hHeld.2.2.2.2))).trans (hHeld.2.2.2.2)⟩ (fun hHeld => ?_)
                     clear hK K
                     refine norm_ (a' := ?_) ?_ ?_
                     rotate_left
                     ·show Act.put _ (some 82) _ = _
                      simp only [Act.put, List.setIfInBounds_toArray, List.set_cons_zero, List.set_cons_succ, i64_w, i32_w]
                      rfl
                     refine last_ (i := 7) (N := some 83) #[true, true, true, true, true, true, true, true, false, false] rfl rfl (one_of HT_.out (by kernel_rfl)) (by decide) (fun K hK => ?_)
                     refine Kd.R_append_step (Kd.int .i64) (w0 := w) w.heap.size (by rfl) (.tmp 77) (.tmp 82) 22 3 (.int .i64 0) 8 rfl Tryd.underlying22 info3 rfl (by decide) (by omega) (.slice Ao59 x179000_5.length co59) x179000_5 (rd x0_20 x7_5) [.int .i64 (rd x0_20 x7_5)] (fun k_ => (w.heap.size ≤ k_) ∧ some k_ ≠ (u179003 : Value).ownBlock) (fun _ => False) rfl rfl ?aP (fun _ hk => hk.elim) ?aF ?aO ?aB ?aS ?aL ?_
                     (case aP => exact rfl)
                     (case aB => exact (by repeat (first | (with_reducible first | exact HB.out | apply below_alloc | apply pw_below_drewN | apply below_drew1 | refine below_set ?_ GE177.out | refine below_set ?_ GE178.out) | exact HB.out)))
                     (case aF => exact (fun k_ hk => ⟨(Nat.le_trans (below_size (by repeat (first | (with_reducible first | exact HB.out | apply below_alloc | apply pw_below_drewN | apply below_drew1 | refine below_set ?_ GE177.out | refine below_set ?_ GE178.out) | exact HB.out))) hk), Kd.fresh' (Kd.R_lt (by (with_reducible repeat (first | apply Kd.R_alloc | apply Kd.R_drewN | apply Kd.R_drew)); exact HO_179003.out)) k_ hk⟩))
                     (case aO => exact (by (with_reducible repeat (first | apply Kd.R_alloc | apply Kd.R_drewN | apply Kd.R_drew)); exact HO_179000.out))
                     (case aS => exact (below_size (by repeat (first | (with_reducible first | exact HB.out | apply below_alloc | apply pw_below_drewN | apply below_drew1 | refine below_set ?_ GE177.out | refine below_set ?_ GE178.out) | exact HB.out))))
                     (case aL => have := LMc55.out; omega)
                     intro v201 w61 ho hb hg hat
                     rw [← Ny200.out] at ho
                     have n0_ := Aside0.mk (Kd.V_afterv (ok := (fun k_ => (P0_ k_ ∨ w.heap.size ≤ k_) ∧ some k_ ≠ (u179003 : Value).ownBlock ∧ k_ ≠ gb177 ∧ k_ ≠ gb178)) (by (with_reducible repeat (first | apply Kd.V_alloc | apply Kd.V_drewN | apply Kd.V_drew)); exact Kd.V_mono HO_0.out (fun _ hk => ⟨⟨hk.1, ⟨hk.2.2.1, ⟨hk.2.2.2.1, hk.2.2.2.2⟩⟩⟩, hk.2.1⟩)) hg hat)
                     have n1_ := Aside0.mk (Kd.R_after (ok := (fun k_ => (w.heap.size ≤ k_))) (by (with_reducible repeat (first | apply Kd.R_alloc | apply Kd.R_drewN | apply Kd.R_drew)); exact HO_179003.out) hg hat)
                     have n2_ := Aside0.mk (blk_grown (g := gb177) (o := .cells #[.slice none 0 0, .bool x178001_5, .bool x178002_5, .slice none 0 0] 66 (0, 0)) (by (with_reducible repeat (first | refine blk_drewN ?_ _ | refine blk_drew ?_ | refine blk_alloc ?_ _)); exact BK177.out) hg (Kd.R_ne HO_179000.out BK177.out (by decide)))
                     have n3_ := Aside0.mk (blk_grown (g := gb178) (o := .cells #[.slice Ao59 x179000_5.length co59, .bool x179001_6, .bool x179002_20, u179003] 66 (0, 0)) (by (with_reducible repeat (first | refine blk_drewN ?_ _ | refine blk_drew ?_ | refine blk_alloc ?_ _)); exact BK178.out) hg (Kd.R_ne HO_179000.out BK178.out (by decide)))
                     have n4_ := Aside0.mk (hb)
                     have n5_ := Aside0.mk (ho)
                     clear HO_0
                     clear HO_179003
                     clear BK177
                     clear BK178
                     clear HB
                     clear HO_179000
                     have HO_0 := n0_
                     have HO_179003 := n1_
                     have BK177 := n2_
                     have BK178 := n3_
                     have HB := n4_
                     have HO202 := n5_
                     clear n0_ n1_ n2_ n3_ n4_ n5_
                     clear ho hb hg hat
                     obtain ⟨Ao62, co62, eo62⟩ := Kd.R_slice HO202.out
                     (first | subst eo62 | (injection eo62 with f1_ f2_ f3_; have f4_ := f1_.symm; have f5_ := f3_.symm; clear f1_ f2_ f3_; subst f4_; subst f5_))
                     refine hK.out _ _ ?_
                     clear hK K
                     refine norm_ (a' := ?_) ?_ ?_
                     rotate_left
                     ·show Act.put _ (some 83) _ = _
                      simp only [Act.put, List.setIfInBounds_toArray, List.set_cons_zero, List.set_cons_succ, i64_w, i32_w]
                      rfl
                     refine pure_ (i := 8) (N := some 84) (v := ?_) (a' := ?_) #[true, true, true, true, true, true, true, true, true, false] rfl rfl (any_of HT_.out (by kernel_rfl)) (fun _ _ _ h => h) (Or.inl ⟨by rfl, ?_⟩) ?_ ?_
                     rotate_left
                     ·intro w'
                      go_simp
                      with_reducible rfl
                     rotate_left
                     ·simp only [Act.put, List.setIfInBounds_toArray, List.set_cons_zero, List.set_cons_succ, i64_w, i32_w]
                      rfl
                     refine last_ (i := 9) (N := none) #[true, true, true, true, true, true, true, true, true, true] rfl rfl (one_of HT_.out (by kernel_rfl)) (by decide) (fun K hK => ?_)
                     have hs63 : w61.cell? ⟨gb178, 0, none⟩ = some (.slice Ao59 x179000_5.length co59) := (blk_cell BK178.out 0).trans rfl
                     have hfs63 := blk_frozen BK178.out 0
                     have hns63_0 := NB177_178.out
                     have hms63_0 := NB178_177.out
                     refine skip_ (w1 := ?_) (by rfl) rfl ?_ ?_
                     rotate_left
                     ·go_simp
                      rfl
                     refine hK.out _ _ ?_
                     clear hK K
                     refine done_ (done_of HT_.out (by kernel_rfl)) ?_
                     have hcz64_0 : w61.cell? ⟨gb178, 0, none⟩ = some (.slice Ao59 x179000_5.length co59) := (blk_cell BK178.out 0).trans rfl
                     have hcz64_1 : w61.cell? ⟨gb178, 1, none⟩ = some (.bool x179001_6) := (blk_cell BK178.out 1).trans rfl
                     have hcz64_2 : w61.cell? ⟨gb178, 2, none⟩ = some (.bool x179002_20) := (blk_cell BK178.out 2).trans rfl
                     have hcz64_3 : w61.cell? ⟨gb178, 3, none⟩ = some (u179003) := (blk_cell BK178.out 3).trans rfl
                     have hfz64_0 := blk_frozen BK178.out 0
                     have hfz64_1 := blk_frozen BK178.out 1
                     have hfz64_2 := blk_frozen BK178.out 2
                     have hfz64_3 := blk_frozen BK178.out 3
                     try go_wp2_with (first | ((with_reducible refine gate_builtin (b := .append) (xs := #[.tmp 86, .tmp 88]) rfl ?_); (try (refine gate_guard (by rfl) ?_; dsimp only)); at_builtin; refine Kd.R_append (Kd.int .i64) (w0 := w) w.heap.size rfl (.tmp 86) (.tmp 88) 22 3 (.int .i64 0) 8 rfl Tryd.underlying22 info3 rfl (by decide) (by omega) u179003 x179003_5 x5_5 [.int .i64 x5_5] (fun k_ => (w.heap.size ≤ k_) ∧ some k_ ≠ (.slice Ao62 y200.length co62 : Value).ownBlock) (fun _ => False) rfl (by first | (go_simp; done) | (go_simp; rfl)) ?aP (fun _ hk => hk.elim) ?aF ?aO ?aB ?aS ?aL ?_; (case aP => exact rfl); (case aB => exact (by repeat (first | (with_reducible first | exact HB.out | apply below_alloc | apply pw_below_drewN | apply below_drew1 | refine below_set ?_ GE177.out | refine below_set ?_ GE178.out) | exact HB.out))); (case aF => exact (fun k_ hk => ⟨(Nat.le_trans (below_size (by repeat (first | (with_reducible first | exact HB.out | apply below_alloc | apply pw_below_drewN | apply below_drew1 | refine below_set ?_ GE177.out | refine below_set ?_ GE178.out) | exact HB.out))) hk), Kd.fresh' (Kd.R_lt (by (with_reducible repeat (first | apply Kd.R_alloc | apply Kd.R_drewN | apply Kd.R_drew)); exact (Kd.R_mono (Kd.R_far (p := ⟨gb178, 0, none⟩) (Kd.R_types HO202.out BK178.out (by decide)) (fun _ hk => hk.2) (.slice Ao62 y200.length co62)) (fun _ h_ => h_.1)))) k_ hk⟩)); (case aO => exact (by (with_reducible repeat (first | apply Kd.R_alloc | apply Kd.R_drewN | apply Kd.R_drew)); exact Kd.R_mono (Kd.R_far (p := ⟨gb178, 0, none⟩) (Kd.R_types HO_179003.out BK178.out (by decide)) (fun _ hk => hk.2) (.slice Ao62 y200.length co62)) (fun _ hk => ⟨hk.1.1, hk.1.2⟩))); (case aS => exact (below_size (by repeat (first | (with_reducible first | exact HB.out | apply below_alloc | apply pw_below_drewN | apply below_drew1 | refine below_set ?_ GE177.out | refine below_set ?_ GE178.out) | exact HB.out)))); (case aL => have := LMc56.out; omega); intro v204 w65 ho hb hg hat; rw [← Ny203.out] at ho; have n0_ := Aside0.mk (Kd.V_afterv (ok := (fun k_ => (P0_ k_ ∨ w.heap.size ≤ k_) ∧ some k_ ≠ (.slice Ao62 y200.length co62 : Value).ownBlock ∧ k_ ≠ gb177 ∧ k_ ≠ gb178)) (by (with_reducible repeat (first | apply Kd.V_alloc | apply Kd.V_drewN | apply Kd.V_drew)); exact Kd.V_mono (Kd.V_far (p := ⟨gb178, 0, none⟩) (Kd.V_mono HO_0.out (fun k_ hk => (⟨hk, hk.1.2.2.2⟩ : _ ∧ k_ ≠ gb178))) (fun _ hk => hk.2) (.slice Ao62 y200.length co62)) (fun _ hk => ⟨⟨hk.1.1.1, ⟨hk.1.2, ⟨hk.1.1.2.2.1, hk.1.1.2.2.2⟩⟩⟩, hk.1.1.2.1⟩)) hg hat); have n1_ := Aside0.mk (blk_grown (g := gb177) (o := .cells #[.slice none 0 0, .bool x178001_5, .bool x178002_5, .slice none 0 0] 66 (0, 0)) (by (with_reducible repeat (first | refine blk_drewN ?_ _ | refine blk_drew ?_ | refine blk_alloc ?_ _)); refine blk_far ?_ NB177_178.out _; (with_reducible repeat (first | refine blk_drewN ?_ _ | refine blk_drew ?_ | refine blk_alloc ?_ _)); exact BK177.out) hg (Kd.R_ne HO_179003.out BK177.out (by decide))); have n2_ := Aside0.mk (blk_grown (g := gb178) (o := .cells #[.slice Ao62 y200.length co62, .bool x179001_6, .bool x179002_20, u179003] 66 (0, 0)) (by (with_reducible repeat (first | refine blk_drewN ?_ _ | refine blk_drew ?_ | refine blk_alloc ?_ _)); refine blk_put (cs := #[.slice Ao59 x179000_5.length co59, .bool x179001_6, .bool x179002_20, u179003]) ?_ 0 _ rfl; (with_reducible repeat (first | refine blk_drewN ?_ _ | refine blk_drew ?_ | refine blk_alloc ?_ _)); exact BK178.out) hg (Kd.R_ne HO_179003.out BK178.out (by decide))); have n3_ := Aside0.mk (Kd.R_after (ok := (fun k_ => (w.heap.size ≤ k_))) (by (with_reducible repeat (first | apply Kd.R_alloc | apply Kd.R_drewN | apply Kd.R_drew)); exact Kd.R_mono (Kd.R_far (p := ⟨gb178, 0, none⟩) (Kd.R_types HO202.out BK178.out (by decide)) (fun _ hk => hk.2) (.slice Ao62 y200.length co62)) (fun _ hk => ⟨hk.1.1, hk.1.2⟩)) hg hat); have n4_ := Aside0.mk (hb); have n5_ := Aside0.mk (ho); clear HO_0; clear BK177; clear BK178; clear HO202; clear HB; clear HO_179003; have HO_0 := n0_; have BK177 := n1_; have BK178 := n2_; have HO202 := n3_; have HB := n4_; have HO205 := n5_; clear n0_ n1_ n2_ n3_ n4_ n5_; clear ho hb hg hat; obtain ⟨Ao66, co66, eo66⟩ := Kd.R_slice HO205.out; subst eo66; have hcz67_0 : w65.cell? ⟨gb178, 0, none⟩ = some (.slice Ao62 y200.length co62) := (blk_cell BK178.out 0).trans rfl; have hcz67_1 : w65.cell? ⟨gb178, 1, none⟩ = some (.bool x179001_6) := (blk_cell BK178.out 1).trans rfl; have hcz67_2 : w65.cell? ⟨gb178, 2, none⟩ = some (.bool x179002_20) := (blk_cell BK178.out 2).trans rfl; have hcz67_3 : w65.cell? ⟨gb178, 3, none⟩ = some (u179003) := (blk_cell BK178.out 3).trans rfl; have hfz67_0 := blk_frozen BK178.out 0; have hfz67_1 := blk_frozen BK178.out 1; have hfz67_2 := blk_frozen BK178.out 2; have hfz67_3 := blk_frozen BK178.out 3))
                     go_roundg kj31
                     case measure => have := HJ1.out; have := HJ6.out; have := HJ13.out; have := HJ20.out; have := HK5.out; have := HJ31.out; omega
                     case rel => exact ⟨(0), (false), (wrap64 (x7_5 + 1)), (x178001_5), (x178002_5), (y200), (y203), (.slice Ao62 y200.length co62), (.slice Ao66 y203.length co66), (by first | rfl | (simp; done) | (simp [*]; done)), (by first | rfl | (simp; done) | (simp [*]; done)), (by first | rfl | (simp; done) | (simp [*]; done)), H', ⟨by have := HJ1.out; have := HJ6.out; have := HJ13.out; have := HJ20.out; have := HK5.out; have := HJ31.out; omega⟩, ⟨by (with_reducible repeat (first | apply Kd.V_alloc | apply Kd.V_drewN | apply Kd.V_drew)); exact Kd.V_mono (Kd.V_far (p := ⟨gb178, 3, none⟩) (Kd.V_mono HO_0.out (fun k_ hk => (⟨hk, hk.1.2.2.2⟩ : _ ∧ k_ ≠ gb178))) (fun _ hk => hk.2) (.slice Ao66 y203.length co66)) (fun _ hk => ⟨hk.1.1.1, ⟨hk.1.1.2.1, ⟨hk.1.2, ⟨hk.1.1.2.2.1, hk.1.1.2.2.2⟩⟩⟩⟩)⟩, ⟨by (with_reducible repeat (first | apply Kd.R_alloc | apply Kd.R_drewN | apply Kd.R_drew)); exact Kd.R_mono (Kd.R_far (p := ⟨gb178, 3, none⟩) (Kd.R_types HO202.out BK178.out (by decide)) (fun _ hk => hk.2) (.slice Ao66 y203.length co66)) (fun _ hk => ⟨hk.1.1, hk.1.2⟩)⟩, ⟨by (with_reducible repeat (first | apply Kd.R_alloc | apply Kd.R_drewN | apply Kd.R_drew)); exact Kd.R_mono (Kd.R_far (p := ⟨gb178, 3, none⟩) (Kd.R_types HO205.out BK178.out (by decide)) (fun _ hk => hk.2) (.slice Ao66 y203.length co66)) (fun _ hk => ⟨hk.1.1, hk.1.2⟩)⟩, ⟨by (with_reducible repeat (first | refine blk_drewN ?_ _ | refine blk_drew ?_ | refine blk_alloc ?_ _)); refine blk_far ?_ NB177_178.out _; (with_reducible repeat (first | refine blk_drewN ?_ _ | refine blk_drew ?_ | refine blk_alloc ?_ _)); exact BK177.out⟩, ⟨by (with_reducible repeat (first | refine blk_drewN ?_ _ | refine blk_drew ?_ | refine blk_alloc ?_ _)); refine blk_put (cs := #[.slice Ao62 y200.length co62, .bool x179001_6, .bool x179002_20, u179003]) ?_ 3 _ rfl; (with_reducible repeat (first | refine blk_drewN ?_ _ | refine blk_drew ?_ | refine blk_alloc ?_ _)); exact BK178.out⟩, ⟨by repeat (first | (with_reducible first | exact HB.out | apply below_alloc | apply pw_below_drewN | apply below_drew1 | refine below_set ?_ GE177.out | refine below_set ?_ GE178.out) | exact HB.out)⟩⟩
                    ·rw [if_neg c56] at H
                     exact absurd H (by simp)
                   ·rw [if_neg c55] at H
                    exact absurd H (by simp)
                 ·replace c48 := Bool.eq_false_iff.mpr c48
                  subst c48
                  have H1 : (some (x179000_5, x179001_6, x179002_20, x179003_5, false)) = some (r1, r2, r3, r4, r5) := by rw [if_neg (show ¬ (false = true) by decide)] at H; exact H
                  clear H
                  have H := H1
                  clear H1
                  simp only [Option.some.injEq, Prod.mk.injEq] at H
                  obtain ⟨rfl, rfl, rfl, rfl, rfl⟩ := H
                  have p197 : 0 ≤ (x7_5 : Int) := of_decide_eq_true (by first | (with_reducible assumption) | assumption)
                  have q197 : x7_5 < (x0_20.length : Int) := of_decide_eq_true (by first | (with_reducible assumption) | assumption)
                  obtain ⟨ad197, e197, hx197_0⟩ := Kd.at_int (Kd.V_reads' HO_0.out).2.2 x7_5 p197 q197
                  cases e197
                  replace p197 := eq_true p197
                  replace q197 := eq_true q197
                  go_wp2_with (first | ((with_reducible refine gate_callee (f := 47) rfl ?_); refine goesL_ (some 67) rfl rfl Tryd.func47 (by kernel_rfl) rfl #[.int .i64 (rd x0_20 x7_5)] rfl (by (try simp only [List.map_toArray, List.map_cons, List.map_nil]); first | done | rfl | (simp only [List.length_drop, List.length_take]; rfl)) ?_; (with_reducible refine (colophonref21_Letter.calls kj31 (rd x0_20 x7_5) false _ A47.out).mono ?_); rintro e w' ⟨rfl, ⟨nd, rfl⟩⟩; refine ⟨_, rfl, ?_⟩; (try (rw [drewN_self wc]; generalize hq_ : World.drewN wc _ = wc; have n0_ : Aside0 (Kd.V (Kd.int .i64) 3 wc w.heap.size (fun k_ => (P0_ k_ ∨ w.heap.size ≤ k_) ∧ some k_ ≠ (u179000 : Value).ownBlock ∧ some k_ ≠ (u179003 : Value).ownBlock ∧ k_ ≠ gb177 ∧ k_ ≠ gb178) (.slice (some ad197) x0_20.length co33) x0_20) := ⟨by rw [← hq_]; exact (by (with_reducible repeat (first | apply Kd.V_alloc | apply Kd.V_drewN | apply Kd.V_drew)); exact HO_0.out)⟩; have n1_ : Aside0 (Kd.R (Kd.int .i64) 3 wc w.heap.size (fun k_ => (w.heap.size ≤ k_) ∧ some k_ ≠ (u179003 : Value).ownBlock) u179000 x179000_5) := ⟨by rw [← hq_]; exact (by (with_reducible repeat (first | apply Kd.R_alloc | apply Kd.R_drewN | apply Kd.R_drew)); exact HO_179000.out)⟩; have n2_ : Aside0 (Kd.R (Kd.int .i64) 3 wc w.heap.size (fun k_ => (w.heap.size ≤ k_) ∧ some k_ ≠ (u179000 : Value).ownBlock) u179003 x179003_5) := ⟨by rw [← hq_]; exact (by (with_reducible repeat (first | apply Kd.R_alloc | apply Kd.R_drewN | apply Kd.R_drew)); exact HO_179003.out)⟩; have n3_ : Aside0 (wc.heap[gb177]? = some (.cells #[.slice none 0 0, .bool x178001_5, .bool x178002_5, .slice none 0 0] 66 (0, 0))) := ⟨by rw [← hq_]; exact (by (with_reducible repeat (first | refine blk_drewN ?_ _ | refine blk_drew ?_ | refine blk_alloc ?_ _)); exact BK177.out)⟩; have n4_ : Aside0 (wc.heap[gb178]? = some (.cells #[u179000, .bool x179001_6, .bool x179002_20, u179003] 66 (0, 0))) := ⟨by rw [← hq_]; exact (by (with_reducible repeat (first | refine blk_drewN ?_ _ | refine blk_drew ?_ | refine blk_alloc ?_ _)); exact BK178.out)⟩; have n5_ : Aside0 (Below w.heap.size w wc) := ⟨by rw [← hq_]; exact (by repeat (first | (with_reducible first | exact HB.out | apply below_alloc | apply pw_below_drewN | apply below_drew1 | refine below_set ?_ GE177.out | refine below_set ?_ GE178.out) | exact HB.out))⟩; clear HO_0 HO_179000 HO_179003 BK177 BK178 HB hq_; have HO_0 := n0_; have HO_179000 := n1_; have HO_179003 := n2_; have BK177 := n3_; have BK178 := n4_; have HB := n5_; clear n0_ n1_ n2_ n3_ n4_ n5_)); have hnb68 := NB178_177.out; have hnc68 := NB177_178.out; have hcz69_0 : wc.cell? ⟨gb178, 0, none⟩ = some (u179000) := (blk_cell BK178.out 0).trans rfl; have hcz69_1 : wc.cell? ⟨gb178, 1, none⟩ = some (.bool x179001_6) := (blk_cell BK178.out 1).trans rfl; have hcz69_2 : wc.cell? ⟨gb178, 2, none⟩ = some (.bool x179002_20) := (blk_cell BK178.out 2).trans rfl; have hcz69_3 : wc.cell? ⟨gb178, 3, none⟩ = some (u179003) := (blk_cell BK178.out 3).trans rfl; have hfz69_0 := blk_frozen BK178.out 0; have hfz69_1 := blk_frozen BK178.out 1; have hfz69_2 := blk_frozen BK178.out 2; have hfz69_3 := blk_frozen BK178.out 3; obtain ⟨Ao70, co70, eo70⟩ := Kd.R_slice HO_179000.out; subst eo70; have hcz71_0 : wc.cell? ⟨gb177, 0, none⟩ = some (.slice none 0 0) := (blk_cell BK177.out 0).trans rfl; have hcz71_1 : wc.cell? ⟨gb177, 1, none⟩ = some (.bool x178001_5) := (blk_cell BK177.out 1).trans rfl; have hcz71_2 : wc.cell? ⟨gb177, 2, none⟩ = some (.bool x178002_5) := (blk_cell BK177.out 2).trans rfl; have hcz71_3 : wc.cell? ⟨gb177, 3, none⟩ = some (.slice none 0 0) := (blk_cell BK177.out 3).trans rfl; have hfz71_0 := blk_frozen BK177.out 0; have hfz71_1 := blk_frozen BK177.out 1; have hfz71_2 := blk_frozen BK177.out 2; have hfz71_3 := blk_frozen BK177.out 3; obtain ⟨Ao72, co72, eo72⟩ := Kd.R_slice HO_179003.out; subst eo72))
                  refine bodyPost_ret (results_ct rfl _ _ gb177 66 #[.slice Ao70 x179000_5.length co70, .bool x179001_6, .bool x179002_20, .slice Ao72 x179003_5.length co72] (0, 0) _ rfl (by (with_reducible repeat (first | refine blk_drewN ?_ _ | refine blk_drew ?_ | refine blk_alloc ?_ _)); refine blk_put (cs := #[.slice Ao70 x179000_5.length co70, .bool x179001_6, .bool x179002_20, .slice none 0 0]) ?_ 3 _ rfl; (with_reducible repeat (first | refine blk_drewN ?_ _ | refine blk_drew ?_ | refine blk_alloc ?_ _)); refine blk_put (cs := #[.slice Ao70 x179000_5.length co70, .bool x179001_6, .bool x178002_5, .slice none 0 0]) ?_ 2 _ rfl; (with_reducible repeat (first | refine blk_drewN ?_ _ | refine blk_drew ?_ | refine blk_alloc ?_ _)); refine blk_put (cs := #[.slice Ao70 x179000_5.length co70, .bool x178001_5, .bool x178002_5, .slice none 0 0]) ?_ 1 _ rfl; (with_reducible repeat (first | refine blk_drewN ?_ _ | refine blk_drew ?_ | refine blk_alloc ?_ _)); refine blk_put (cs := #[.slice none 0 0, .bool x178001_5, .bool x178002_5, .slice none 0 0]) ?_ 0 _ rfl; (with_reducible repeat (first | refine blk_drewN ?_ _ | refine blk_drew ?_ | refine blk_alloc ?_ _)); exact BK177.out) Tryd.underlying66 rfl (by kernel_rfl)) rfl ?_
                  exact ⟨_, _, by first | rfl | (simp [errW_none, errW_some] <;> rfl) | (simp [*, errW_none, errW_some] <;> rfl), by (with_reducible repeat (first | apply Kd.R_alloc | apply Kd.R_drewN | apply Kd.R_drew)); exact Kd.R_mono (Kd.R_far (p := ⟨gb177, 3, none⟩) (Kd.R_far (p := ⟨gb177, 2, none⟩) (Kd.R_far (p := ⟨gb177, 1, none⟩) (Kd.R_far (p := ⟨gb177, 0, none⟩) (Kd.R_types HO_179000.out BK177.out (by decide)) (fun _ hk => hk.2) (.slice Ao70 x179000_5.length co70)) (fun _ hk => hk.2) (.bool x179001_6)) (fun _ hk => hk.2) (.bool x179002_20)) (fun _ hk => hk.2) (.slice Ao72 x179003_5.length co72)) (fun _ hk => ⟨hk.1.1, hk.1.2⟩), by (with_reducible repeat (first | apply Kd.R_alloc | apply Kd.R_drewN | apply Kd.R_drew)); exact Kd.R_mono (Kd.R_far (p := ⟨gb177, 3, none⟩) (Kd.R_far (p := ⟨gb177, 2, none⟩) (Kd.R_far (p := ⟨gb177, 1, none⟩) (Kd.R_far (p := ⟨gb177, 0, none⟩) (Kd.R_types HO_179003.out BK177.out (by decide)) (fun _ hk => hk.2) (.slice Ao70 x179000_5.length co70)) (fun _ hk => hk.2) (.bool x179001_6)) (fun _ hk => hk.2) (.bool x179002_20)) (fun _ hk => hk.2) (.slice Ao72 x179003_5.length co72)) (fun _ hk => ⟨hk.1.1, hk.1.2⟩), by repeat (first | (with_reducible first | exact HB.out | apply below_alloc | apply pw_below_drewN | apply below_drew1 | refine below_set ?_ GE177.out | refine below_set ?_ GE178.out) | exact HB.out)⟩
                ·rw [if_neg c46] at H
                 exact absurd H (by simp)
               ·rw [if_neg c45] at H
                exact absurd H (by simp)
           ·rw [if_neg c31] at H
            have c31b0 : decide (x7_5 < (x0_20.length : Int)) = false := decide_eq_false c31
            clear c31
            by_cases c73 : x179003_5.length < 17592186044416
            ·rw [if_pos c73] at H
             have LMc73 := Aside0.mk c73
             clear c73
             obtain ⟨y191, hy191⟩ : ∃ y_ : List Int, y_ = (x179003_5 ++ [x5_5]) := ⟨_, rfl⟩
             replace H : (some (x179000_5, x179001_6, x179002_20, y191, decide ((x179000_5.length : Int) > 0))) = some (r1, r2, r3, r4, r5) := by first | (rw [hy191]; with_reducible exact H) | (have H2_ := (Option.bind_some _ _).symm.trans H; rw [hy191]; with_reducible exact H2_) | (have H2_ := (Option.bind_some _ _).symm.trans H; with_reducible exact H2_) | with_reducible exact H | (rw [hy191]; exact H) | exact H
             have Ny191 := Aside0.mk hy191
             clear hy191
             simp only [Option.some.injEq, Prod.mk.injEq] at H
             obtain ⟨rfl, rfl, rfl, rfl, rfl⟩ := H
             obtain ⟨Ao74, co74, eo74⟩ := Kd.V_slice HO_0.out
             subst eo74
             have hnb75 := NB178_177.out
             have hnc75 := NB177_178.out
             have hcz76_0 : wr.cell? ⟨gb178, 0, none⟩ = some (u179000) := (blk_cell BK178.out 0).trans rfl
             have hcz76_1 : wr.cell? ⟨gb178, 1, none⟩ = some (.bool x179001_6) := (blk_cell BK178.out 1).trans rfl
             have hcz76_2 : wr.cell? ⟨gb178, 2, none⟩ = some (.bool x179002_20) := (blk_cell BK178.out 2).trans rfl
             have hcz76_3 : wr.cell? ⟨gb178, 3, none⟩ = some (u179003) := (blk_cell BK178.out 3).trans rfl
             have hfz76_0 := blk_frozen BK178.out 0
             have hfz76_1 := blk_frozen BK178.out 1
             have hfz76_2 := blk_frozen BK178.out 2
             have hfz76_3 := blk_frozen BK178.out 3
             try go_wp2_with (first | ((with_reducible refine gate_builtin (b := .append) (xs := #[.tmp 92, .tmp 94]) rfl ?_); (try (refine gate_guard (by rfl) ?_; dsimp only)); at_builtin; refine Kd.R_append (Kd.int .i64) (w0 := w) w.heap.size rfl (.tmp 92) (.tmp 94) 22 3 (.int .i64 0) 8 rfl Tryd.underlying22 info3 rfl (by decide) (by omega) u179003 x179003_5 x5_5 [.int .i64 x5_5] (fun k_ => (w.heap.size ≤ k_) ∧ some k_ ≠ (u179000 : Value).ownBlock) (fun _ => False) rfl rfl ?aP (fun _ hk => hk.elim) ?aF ?aO ?aB ?aS ?aL ?_; (case aP => exact rfl); (case aB => exact (by repeat (first | (with_reducible first | exact HB.out | apply below_alloc | apply pw_below_drewN | apply below_drew1 | refine below_set ?_ GE177.out | refine below_set ?_ GE178.out) | exact HB.out))); (case aF => exact (fun k_ hk => ⟨(Nat.le_trans (below_size (by repeat (first | (with_reducible first | exact HB.out | apply below_alloc | apply pw_below_drewN | apply below_drew1 | refine below_set ?_ GE177.out | refine below_set ?_ GE178.out) | exact HB.out))) hk), Kd.fresh' (Kd.R_lt (by (with_reducible repeat (first | apply Kd.R_alloc | apply Kd.R_drewN | apply Kd.R_drew)); exact HO_179000.out)) k_ hk⟩)); (case aO => exact (by (with_reducible repeat (first | apply Kd.R_alloc | apply Kd.R_drewN | apply Kd.R_drew)); exact HO_179003.out)); (case aS => exact (below_size (by repeat (first | (with_reducible first | exact HB.out | apply below_alloc | apply pw_below_drewN | apply below_drew1 | refine below_set ?_ GE177.out | refine below_set ?_ GE178.out) | exact HB.out)))); (case aL => have := LMc73.out; omega); intro v192 w77 ho hb hg hat; rw [← Ny191.out] at ho; have n0_ := Aside0.mk (Kd.V_afterv (ok := (fun k_ => (P0_ k_ ∨ w.heap.size ≤ k_) ∧ some k_ ≠ (u179000 : Value).ownBlock ∧ k_ ≠ gb177 ∧ k_ ≠ gb178)) (by (with_reducible repeat (first | apply Kd.V_alloc | apply Kd.V_drewN | apply Kd.V_drew)); exact Kd.V_mono HO_0.out (fun _ hk => ⟨⟨hk.1, ⟨hk.2.1, ⟨hk.2.2.2.1, hk.2.2.2.2⟩⟩⟩, hk.2.2.1⟩)) hg hat); have n1_ := Aside0.mk (Kd.R_after (ok := (fun k_ => (w.heap.size ≤ k_))) (by (with_reducible repeat (first | apply Kd.R_alloc | apply Kd.R_drewN | apply Kd.R_drew)); exact HO_179000.out) hg hat); have n2_ := Aside0.mk (blk_grown (g := gb177) (o := .cells #[.slice none 0 0, .bool x178001_5, .bool x178002_5, .slice none 0 0] 66 (0, 0)) (by (with_reducible repeat (first | refine blk_drewN ?_ _ | refine blk_drew ?_ | refine blk_alloc ?_ _)); exact BK177.out) hg (Kd.R_ne HO_179003.out BK177.out (by decide))); have n3_ := Aside0.mk (blk_grown (g := gb178) (o := .cells #[u179000, .bool x179001_6, .bool x179002_20, u179003] 66 (0, 0)) (by (with_reducible repeat (first | refine blk_drewN ?_ _ | refine blk_drew ?_ | refine blk_alloc ?_ _)); exact BK178.out) hg (Kd.R_ne HO_179003.out BK178.out (by decide))); have n4_ := Aside0.mk (hb); have n5_ := Aside0.mk (ho); clear HO_0; clear HO_179000; clear BK177; clear BK178; clear HB; clear HO_179003; have HO_0 := n0_; have HO_179000 := n1_; have BK177 := n2_; have BK178 := n3_; have HB := n4_; have HO193 := n5_; clear n0_ n1_ n2_ n3_ n4_ n5_; clear ho hb hg hat; obtain ⟨Ao78, co78, eo78⟩ := Kd.R_slice HO193.out; subst eo78; have hcz79_0 : w77.cell? ⟨gb178, 0, none⟩ = some (u179000) := (blk_cell BK178.out 0).trans rfl; have hcz79_1 : w77.cell? ⟨gb178, 1, none⟩ = some (.bool x179001_6) := (blk_cell BK178.out 1).trans rfl; have hcz79_2 : w77.cell? ⟨gb178, 2, none⟩ = some (.bool x179002_20) := (blk_cell BK178.out 2).trans rfl; have hcz79_3 : w77.cell? ⟨gb178, 3, none⟩ = some (u179003) := (blk_cell BK178.out 3).trans rfl; have hfz79_0 := blk_frozen BK178.out 0; have hfz79_1 := blk_frozen BK178.out 1; have hfz79_2 := blk_frozen BK178.out 2; have hfz79_3 := blk_frozen BK178.out 3))
             have n0_ : Aside0 (Kd.V (Kd.int .i64) 3 (w77.setCell ⟨gb178, 3, none⟩ (.slice Ao78 y191.length co78)) w.heap.size (fun k_ => (P0_ k_ ∨ w.heap.size ≤ k_) ∧ some k_ ≠ (u179000 : Value).ownBlock ∧ some k_ ≠ (.slice Ao78 y191.length co78 : Value).ownBlock ∧ k_ ≠ gb177 ∧ k_ ≠ gb178) (.slice Ao74 x0_20.length co74) x0_20) := ⟨by (with_reducible repeat (first | apply Kd.V_alloc | apply Kd.V_drewN | apply Kd.V_drew)); exact Kd.V_mono (Kd.V_far (p := ⟨gb178, 3, none⟩) (Kd.V_mono HO_0.out (fun k_ hk => (⟨hk, hk.1.2.2.2⟩ : _ ∧ k_ ≠ gb178))) (fun _ hk => hk.2) (.slice Ao78 y191.length co78)) (fun _ hk => ⟨hk.1.1.1, ⟨hk.1.1.2.1, ⟨hk.1.2, ⟨hk.1.1.2.2.1, hk.1.1.2.2.2⟩⟩⟩⟩)⟩
             have n1_ : Aside0 (Kd.R (Kd.int .i64) 3 (w77.setCell ⟨gb178, 3, none⟩ (.slice Ao78 y191.length co78)) w.heap.size (fun k_ => (w.heap.size ≤ k_) ∧ some k_ ≠ (.slice Ao78 y191.length co78 : Value).ownBlock) u179000 x179000_5) := ⟨by (with_reducible repeat (first | apply Kd.R_alloc | apply Kd.R_drewN | apply Kd.R_drew)); exact Kd.R_mono (Kd.R_far (p := ⟨gb178, 3, none⟩) (Kd.R_types HO_179000.out BK178.out (by decide)) (fun _ hk => hk.2) (.slice Ao78 y191.length co78)) (fun _ hk => ⟨hk.1.1, hk.1.2⟩)⟩
             have n2_ : Aside0 (Kd.R (Kd.int .i64) 3 (w77.setCell ⟨gb178, 3, none⟩ (.slice Ao78 y191.length co78)) w.heap.size (fun k_ => (w.heap.size ≤ k_) ∧ some k_ ≠ (u179000 : Value).ownBlock) (.slice Ao78 y191.length co78) y191) := ⟨by (with_reducible repeat (first | apply Kd.R_alloc | apply Kd.R_drewN | apply Kd.R_drew)); exact Kd.R_mono (Kd.R_far (p := ⟨gb178, 3, none⟩) (Kd.R_types HO193.out BK178.out (by decide)) (fun _ hk => hk.2) (.slice Ao78 y191.length co78)) (fun _ hk => ⟨hk.1.1, hk.1.2⟩)⟩
             have n3_ : Aside0 ((w77.setCell ⟨gb178, 3, none⟩ (.slice Ao78 y191.length co78)).heap[gb177]? = some (.cells #[.slice none 0 0, .bool x178001_5, .bool x178002_5, .slice none 0 0] 66 (0, 0))) := ⟨by (with_reducible repeat (first | refine blk_drewN ?_ _ | refine blk_drew ?_ | refine blk_alloc ?_ _)); refine blk_far ?_ NB177_178.out _; (with_reducible repeat (first | refine blk_drewN ?_ _ | refine blk_drew ?_ | refine blk_alloc ?_ _)); exact BK177.out⟩
             have n4_ : Aside0 ((w77.setCell ⟨gb178, 3, none⟩ (.slice Ao78 y191.length co78)).heap[gb178]? = some (.cells #[u179000, .bool x179001_6, .bool x179002_20, .slice Ao78 y191.length co78] 66 (0, 0))) := ⟨by (with_reducible repeat (first | refine blk_drewN ?_ _ | refine blk_drew ?_ | refine blk_alloc ?_ _)); refine blk_put (cs := #[u179000, .bool x179001_6, .bool x179002_20, u179003]) ?_ 3 _ rfl; (with_reducible repeat (first | refine blk_drewN ?_ _ | refine blk_drew ?_ | refine blk_alloc ?_ _)); exact BK178.out⟩
             have n5_ : Aside0 (Below w.heap.size w (w77.setCell ⟨gb178, 3, none⟩ (.slice Ao78 y191.length co78))) := ⟨by repeat (first | (with_reducible first | exact HB.out | apply below_alloc | apply pw_below_drewN | apply below_drew1 | refine below_set ?_ GE177.out | refine below_set ?_ GE178.out) | exact HB.out)⟩
             (try clear HO_0)
             (try clear HO_179000)
             (try clear HO193)
             (try clear BK177)
             (try clear BK178)
             (try clear HB)
             generalize (w77.setCell ⟨gb178, 3, none⟩ (.slice Ao78 y191.length co78)) = w80 at n0_ n1_ n2_ n3_ n4_ n5_ ⊢
             have HO_0 := n0_
             have HO_179000 := n1_
             have HO193 := n2_
             have BK177 := n3_
             have BK178 := n4_
             have HB := n5_
             clear n0_ n1_ n2_ n3_ n4_ n5_
             have n0_ := Aside0.mk (Kd.V_drew HO_0.out)
             have n1_ := Aside0.mk (Kd.R_drew HO_179000.out)
             have n2_ := Aside0.mk (Kd.R_drew HO193.out)
             have n3_ := Aside0.mk (blk_drew BK177.out)
             have n4_ := Aside0.mk (blk_drew BK178.out)
             have n5_ := Aside0.mk (below_drew1 HB.out)
             clear HO_0
             clear HO_179000
             clear HO193
             clear BK177
             clear BK178
             clear HB
             have HO_0 := n0_
             have HO_179000 := n1_
             have HO193 := n2_
             have BK177 := n3_
             have BK178 := n4_
             have HB := n5_
             clear n0_ n1_ n2_ n3_ n4_ n5_
             obtain ⟨Ao82, co82, eo82⟩ := Kd.R_slice HO_179000.out
             (first | subst eo82 | (injection eo82 with f1_ f2_ f3_; have f4_ := f1_.symm; have f5_ := f3_.symm; clear f1_ f2_ f3_; subst f4_; subst f5_))
             refine start_ (n := 7) (S := fun w' => w'.cell? ⟨gb178, 0, none⟩ = some (.slice Ao82 x179000_5.length co82) ∧ w'.cell? ⟨gb178, 1, none⟩ = some (.bool x179001_6) ∧ w'.cell? ⟨gb178, 2, none⟩ = some (.bool x179002_20) ∧ w'.cell? ⟨gb178, 3, none⟩ = some (.slice Ao78 y191.length co78)) (ds := []) #[false, false, false, false, false, false, false] (by kernel_rfl) rfl rfl ⟨(blk_cell BK178.out 0).trans rfl, (blk_cell BK178.out 1).trans rfl, (blk_cell BK178.out 2).trans rfl, (blk_cell BK178.out 3).trans rfl⟩ (fun hHeld => ?_)
             generalize w80.drew = w81 at HO_0 HO_179000 HO193 BK177 BK178 HB hHeld ⊢
             refine pure_ (i := 1) (N := some 98) (v := ?_) (a' := ?_) #[false, true, false, false, false, false, false] rfl rfl (by kernel_rfl) (fun _ _ _ h => h) (Or.inl ⟨by rfl, ?_⟩) ?_ ?_
             rotate_left
             ·intro w'
              go_simp
              with_reducible rfl
             rotate_left
             ·simp only [Act.put, List.setIfInBounds_toArray, List.set_cons_zero, List.set_cons_succ, i64_w, i32_w]
              rfl
             refine take_ (i := 0) (N := some 97) (v := ?_) (a' := ?_) #[true, true, false, false, false, false, false] rfl rfl (by kernel_rfl) (fun _ _ _ h => h) (Or.inl ⟨by rfl, ?_⟩) hHeld ?_ ?_
             rotate_left
             ·rintro w' ⟨s0, s1, s2, s3⟩
              go_simp
              with_reducible rfl
             rotate_left
             ·simp only [Act.put, List.setIfInBounds_toArray, List.set_cons_zero, List.set_cons_succ, i64_w, i32_w]
              rfl
             refine take_ (i := 2) (N := some 99) (v := ?_) (a' := ?_) #[true, true, true, false, false, false, false] rfl rfl (by kernel_rfl) (fun _ _ _ h => h) (Or.inl ⟨by rfl, ?_⟩) hHeld ?_ ?_
             rotate_left
             ·rintro w' ⟨s0, s1, s2, s3⟩
              go_simp
              with_reducible rfl
             rotate_left
             ·simp only [Act.put, List.setIfInBounds_toArray, List.set_cons_zero, List.set_cons_succ, i64_w, i32_w]
              rfl
             refine pure_ (i := 3) (N := some 100) (v := ?_) (a' := ?_) #[true, true, true, true, false, false, false] rfl rfl (by kernel_rfl) (fun _ _ _ h => h) (Or.inl ⟨by rfl, ?_⟩) ?_ ?_
             rotate_left
             ·intro w'
              go_simp
              with_reducible rfl
             rotate_left
             ·simp only [Act.put, List.setIfInBounds_toArray, List.set_cons_zero, List.set_cons_succ, i64_w, i32_w]
              rfl
             refine pure_ (i := 4) (N := some 101) (v := ?_) (a' := ?_) #[true, true, true, true, true, false, false] rfl rfl (by kernel_rfl) (fun _ _ _ h => h) (Or.inl ⟨by rfl, ?_⟩) ?_ ?_
             rotate_left
             ·intro w'
              go_simp
              with_reducible rfl
             rotate_left
             ·simp only [Act.put, List.setIfInBounds_toArray, List.set_cons_zero, List.set_cons_succ, i64_w, i32_w]
              rfl
             refine one_ (i := 5) (N := none) #[true, true, true, true, true, true, false] rfl rfl (by kernel_rfl) (by decide) (fun K hK => ?_)
             have hs83 : w81.cell? ⟨gb177, 0, none⟩ = some (.slice none 0 0) := (blk_cell BK177.out 0).trans rfl
             have hfs83 := blk_frozen BK177.out 0
             have hns83_1 := NB178_177.out
             have hms83_1 := NB177_178.out
             have hs84 : w81.cell? ⟨gb177, 1, none⟩ = some (.bool x178001_5) := (blk_cell BK177.out 1).trans rfl
             have hfs84 := blk_frozen BK177.out 1
             have hns84_1 := NB178_177.out
             have hms84_1 := NB177_178.out
             have hs85 : w81.cell? ⟨gb177, 2, none⟩ = some (.bool x178002_5) := (blk_cell BK177.out 2).trans rfl
             have hfs85 := blk_frozen BK177.out 2
             have hns85_1 := NB178_177.out
             have hms85_1 := NB177_178.out
             have hs86 : w81.cell? ⟨gb177, 3, none⟩ = some (.slice none 0 0) := (blk_cell BK177.out 3).trans rfl
             have hfs86 := blk_frozen BK177.out 3
             have hns86_1 := NB178_177.out
             have hms86_1 := NB177_178.out
             refine skip_ (w1 := ?_) (by rfl) rfl ?_ ?_
             rotate_left
             ·go_simp
              rfl
             refine hK.out _ _ ⟨((cell_far (p := ⟨gb177, _, none⟩) NB178_177.out _).trans (((cell_far (p := ⟨gb177, _, none⟩) NB178_177.out _).trans (((cell_far (p := ⟨gb177, _, none⟩) NB178_177.out _).trans (((cell_far (p := ⟨gb177, _, none⟩) NB178_177.out _).trans (hHeld.1)))))))), ((cell_far (p := ⟨gb177, _, none⟩) NB178_177.out _).trans (((cell_far (p := ⟨gb177, _, none⟩) NB178_177.out _).trans (((cell_far (p := ⟨gb177, _, none⟩) NB178_177.out _).trans (((cell_far (p := ⟨gb177, _, none⟩) NB178_177.out _).trans (hHeld.2.1)))))))), ((cell_far (p := ⟨gb177, _, none⟩) NB178_177.out _).trans (((cell_far (p := ⟨gb177, _, none⟩) NB178_177.out _).trans (((cell_far (p := ⟨gb177, _, none⟩) NB178_177.out _).trans (((cell_far (p := ⟨gb177, _, none⟩) NB178_177.out _).trans (hHeld.2.2.1)))))))), ((cell_far (p := ⟨gb177, _, none⟩) NB178_177.out _).trans (((cell_far (p := ⟨gb177, _, none⟩) NB178_177.out _).trans (((cell_far (p := ⟨gb177, _, none⟩) NB178_177.out _).trans (((cell_far (p := ⟨gb177, _, none⟩) NB178_177.out _).trans (hHeld.2.2.2))))))))⟩ (fun hHeld => ?_)
             clear hK K
             refine pure_ (i := 6) (N := some 3) (v := ?_) (a' := ?_) #[true, true, true, true, true, true, true] rfl rfl (by kernel_rfl) (fun _ _ _ h => h) (Or.inl ⟨by rfl, ?_⟩) ?_ ?_
             rotate_left
             ·intro w'
              go_simp
              with_reducible rfl
             rotate_left
             ·simp only [Act.put, List.setIfInBounds_toArray, List.set_cons_zero, List.set_cons_succ, i64_w, i32_w]
              rfl
             refine done_ (by kernel_rfl) ?_
             try go_wp2
             refine bodyPost_ret (results_ct rfl _ _ gb177 66 #[.slice Ao82 x179000_5.length co82, .bool x179001_6, .bool x179002_20, .slice Ao78 y191.length co78] (0, 0) _ rfl (by (with_reducible repeat (first | refine blk_drewN ?_ _ | refine blk_drew ?_ | refine blk_alloc ?_ _)); refine blk_put (cs := #[.slice Ao82 x179000_5.length co82, .bool x179001_6, .bool x179002_20, .slice none 0 0]) ?_ 3 _ rfl; (with_reducible repeat (first | refine blk_drewN ?_ _ | refine blk_drew ?_ | refine blk_alloc ?_ _)); refine blk_put (cs := #[.slice Ao82 x179000_5.length co82, .bool x179001_6, .bool x178002_5, .slice none 0 0]) ?_ 2 _ rfl; (with_reducible repeat (first | refine blk_drewN ?_ _ | refine blk_drew ?_ | refine blk_alloc ?_ _)); refine blk_put (cs := #[.slice Ao82 x179000_5.length co82, .bool x178001_5, .bool x178002_5, .slice none 0 0]) ?_ 1 _ rfl; (with_reducible repeat (first | refine blk_drewN ?_ _ | refine blk_drew ?_ | refine blk_alloc ?_ _)); refine blk_put (cs := #[.slice none 0 0, .bool x178001_5, .bool x178002_5, .slice none 0 0]) ?_ 0 _ rfl; (with_reducible repeat (first | refine blk_drewN ?_ _ | refine blk_drew ?_ | refine blk_alloc ?_ _)); exact BK177.out) Tryd.underlying66 rfl (by kernel_rfl)) rfl ?_
             exact ⟨.slice Ao82 x179000_5.length co82, .slice Ao78 y191.length co78, by first | rfl | (simp; done) | (simp; omega), by (with_reducible repeat (first | apply Kd.R_alloc | apply Kd.R_drewN | apply Kd.R_drew)); exact Kd.R_mono (Kd.R_far (p := ⟨gb177, 3, none⟩) (Kd.R_far (p := ⟨gb177, 2, none⟩) (Kd.R_far (p := ⟨gb177, 1, none⟩) (Kd.R_far (p := ⟨gb177, 0, none⟩) (Kd.R_types HO_179000.out BK177.out (by decide)) (fun _ hk => hk.2) (.slice Ao82 x179000_5.length co82)) (fun _ hk => hk.2) (.bool x179001_6)) (fun _ hk => hk.2) (.bool x179002_20)) (fun _ hk => hk.2) (.slice Ao78 y191.length co78)) (fun _ hk => ⟨hk.1.1, hk.1.2⟩), by (with_reducible repeat (first | apply Kd.R_alloc | apply Kd.R_drewN | apply Kd.R_drew)); exact Kd.R_mono (Kd.R_far (p := ⟨gb177, 3, none⟩) (Kd.R_far (p := ⟨gb177, 2, none⟩) (Kd.R_far (p := ⟨gb177, 1, none⟩) (Kd.R_far (p := ⟨gb177, 0, none⟩) (Kd.R_types HO193.out BK177.out (by decide)) (fun _ hk => hk.2) (.slice Ao82 x179000_5.length co82)) (fun _ hk => hk.2) (.bool x179001_6)) (fun _ hk => hk.2) (.bool x179002_20)) (fun _ hk => hk.2) (.slice Ao78 y191.length co78)) (fun _ hk => ⟨hk.1.1, hk.1.2⟩), by repeat (first | (with_reducible first | exact HB.out | apply below_alloc | apply pw_below_drewN | apply below_drew1 | refine below_set ?_ GE177.out | refine below_set ?_ GE178.out) | exact HB.out)⟩
            ·rw [if_neg c73] at H
             exact absurd H (by simp)
end Go.Proofs.YtenhfmlkdcfbbaaDoor.PHyphenPoints
