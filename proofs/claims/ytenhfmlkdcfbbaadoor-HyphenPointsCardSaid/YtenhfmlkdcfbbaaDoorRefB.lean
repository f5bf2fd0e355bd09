/- law21: the reference's Nodes and Levels, walked on the set in memory. -/
import Derived.Test.YtenhfmlkdcfbbaaDoorRefA
namespace Go.Proofs.YtenhfmlkdcfbbaaDoor.PHyphenPoints
open Go.RowKit Go.Proofs.YtenhfmlkdcfbbaaDoorW.PrintWords Go.Proofs.YtenhfmlkdcfbbaaDoorW.PrintLast Go.Proofs.YtenhfmlkdcfbbaaDoorW.PrintMore
attribute [local go_sem] max2_int min2_int max_two min_two max_three min_three max_four min_four
set_option linter.unusedVariables false
set_option linter.unusedSimpArgs false
mutual
def colophonref21_Set_Nodes.l0 : Nat → List (S66) → Int → Int → Option (Int)
 | 0, _, _, _ => none
 | k + 1, x0, x3, x4 => if x4 < (x0.length : Int) then (if 0 ≤ x4 then ((colophonref21_pattern_spelled.f ((rd_T66 x0 x4).f0) ((rd_T66 x0 x4).f1) ((rd_T66 x0 x4).f2) ((rd_T66 x0 x4).f3)).bind fun t129 => (colophonref21_Set_Nodes.l1 k x0 x3 x4 t129 1)) else (none)) else (some x3)
def colophonref21_Set_Nodes.l1 : Nat → List (S66) → Int → Int → List Int → Int → Option (Int)
 | 0, _, _, _, _, _ => none
 | k + 1, x0, x3, x4, x5, x6 => if x6 ≤ (x5.length : Int) then (colophonref21_Set_Nodes.l2 k x0 x3 x4 x5 x6 true 0) else (colophonref21_Set_Nodes.l0 k x0 x3 (wrap64 (x4 + 1)))
def colophonref21_Set_Nodes.l2 : Nat → List (S66) → Int → Int → List Int → Int → Bool → Int → Option (Int)
 | 0, _, _, _, _, _, _, _ => none
 | k + 1, x0, x3, x4, x5, x6, x7, x8 => if x8 < x4 then (colophonref21_Set_Nodes.j3 k x0 x3 x4 x5 x6 x7 x8 x7) else (colophonref21_Set_Nodes.j3 k x0 x3 x4 x5 x6 x7 x8 false)
def colophonref21_Set_Nodes.j3 : Nat → List (S66) → Int → Int → List Int → Int → Bool → Int → Bool → Option (Int)
 | 0, _, _, _, _, _, _, _, _ => none
 | k + 1, x0, x3, x4, x5, x6, x7, x8, x39 => if x39 = true then (if 0 ≤ x6 then (if x6 ≤ (x5.length : Int) then (if 0 ≤ x8 then (if x8 < (x0.length : Int) then ((colophonref21_pattern_spelled.f ((rd_T66 x0 x8).f0) ((rd_T66 x0 x8).f1) ((rd_T66 x0 x8).f2) ((rd_T66 x0 x8).f3)).bind fun t137 => ((colophonref21_fits.f k (x5.take (x6 : Int).toNat) t137 0).bind fun t140 => (colophonref21_Set_Nodes.l2 k x0 x3 x4 x5 x6 (!t140) (wrap64 (x8 + 1))))) else (none)) else (none)) else (none)) else (none)) else (if x7 = true then (colophonref21_Set_Nodes.l1 k x0 (wrap64 (x3 + 1)) x4 x5 (wrap64 (x6 + 1))) else (colophonref21_Set_Nodes.l1 k x0 x3 x4 x5 (wrap64 (x6 + 1))))
end
def colophonref21_Set_Nodes.f (k : Nat) (l0 : List (S66)) : Option (Int) := if 1 = 0 then (some 0) else (colophonref21_Set_Nodes.l0 k l0 1 0)
noncomputable def colophonref21_Set_Nodes.T15 := rtab .any (opsOf Tryd.f14 15)
def colophonref21_Set_Nodes.B15 : List Nat := [0, 0, 3, 0, 8, 24, 56, 0, 248, 504, 1016, 2047, 4095, 8191]
mutual
def colophonref21_Set_Levels.j0 : Nat → List (S66) → List Int → Bool → Option (List Int)
 | 0, _, _, _ => none
 | k + 1, x0, x1, x17 => if x17 = true then (some ([] : List Int)) else ((colophonref04_Lowers.f k x1).bind fun t265 => (if 0 ≤ (wrap64 ((t265.length : Int) + 1)) then (if (wrap64 ((t265.length : Int) + 1) : Int).toNat ≤ 35184372088832 then (colophonref21_Set_Levels.l0 k x0 t265 (List.replicate (wrap64 ((t265.length : Int) + 1) : Int).toNat 0) 0) else (none)) else (none)))
def colophonref21_Set_Levels.l0 : Nat → List (S66) → List Int → List Int → Int → Option (List Int)
 | 0, _, _, _, _ => none
 | k + 1, x0, x5, x6, x7 => if x7 < (x0.length : Int) then (if 0 ≤ x7 then (colophonref21_Set_Levels.l1 k x0 x5 x6 x7 0 ((rd_T66 x0 x7).f0) ((rd_T66 x0 x7).f1) ((rd_T66 x0 x7).f2) ((rd_T66 x0 x7).f3)) else (none)) else (some x6)
def colophonref21_Set_Levels.l1 : Nat → List (S66) → List Int → List Int → Int → Int → List Int → Bool → Bool → List Int → Option (List Int)
 | 0, _, _, _, _, _, _, _, _, _ => none
 | k + 1, x0, x5, x6, x7, x9, x273000, x273001, x273002, x273003 => if (wrap64 (x9 + (x273000.length : Int))) ≤ (x5.length : Int) then ((colophonref21_fits.f k x273000 x5 x9).bind fun t273 => (if t273 = true then (if x273001 = true then (if x9 = 0 then (if x273002 = true then (colophonref21_Set_Levels.j3 k x0 x5 x6 x7 x9 ((wrap64 (x9 + (x273000.length : Int))) != (x5.length : Int)) x273000 x273001 x273002 x273003) else (colophonref21_Set_Levels.j3 k x0 x5 x6 x7 x9 false x273000 x273001 x273002 x273003)) else (colophonref21_Set_Levels.j3 k x0 x5 x6 x7 x9 true x273000 x273001 x273002 x273003)) else (if x273002 = true then (colophonref21_Set_Levels.j3 k x0 x5 x6 x7 x9 ((wrap64 (x9 + (x273000.length : Int))) != (x5.length : Int)) x273000 x273001 x273002 x273003) else (colophonref21_Set_Levels.j3 k x0 x5 x6 x7 x9 false x273000 x273001 x273002 x273003))) else (colophonref21_Set_Levels.j3 k x0 x5 x6 x7 x9 true x273000 x273001 x273002 x273003))) else (colophonref21_Set_Levels.l0 k x0 x5 x6 (wrap64 (x7 + 1)))
def colophonref21_Set_Levels.j3 : Nat → List (S66) → List Int → List Int → Int → Int → Bool → List Int → Bool → Bool → List Int → Option (List Int)
 | 0, _, _, _, _, _, _, _, _, _, _ => none
 | k + 1, x0, x5, x6, x7, x9, x77, x273000, x273001, x273002, x273003 => if x77 = true then (colophonref21_Set_Levels.l1 k x0 x5 x6 x7 (wrap64 (x9 + 1)) x273000 x273001 x273002 x273003) else (colophonref21_Set_Levels.l2 k x0 x5 x6 x7 x9 0 x273000 x273001 x273002 x273003)
def colophonref21_Set_Levels.l2 : Nat → List (S66) → List Int → List Int → Int → Int → Int → List Int → Bool → Bool → List Int → Option (List Int)
 | 0, _, _, _, _, _, _, _, _, _, _ => none
 | k + 1, x0, x5, x6, x7, x9, x10, x273000, x273001, x273002, x273003 => if x10 < (x273003.length : Int) then (if 0 ≤ (wrap64 (x9 + x10)) then (if (wrap64 (x9 + x10)) < (x6.length : Int) then (if 0 ≤ x10 then (colophonref21_Set_Levels.l2 k x0 x5 (x6.set ((wrap64 (x9 + x10)) : Int).toNat (mx (rd x6 (wrap64 (x9 + x10))) (rd x273003 x10))) x7 x9 (wrap64 (x10 + 1)) x273000 x273001 x273002 x273003) else (none)) else (none)) else (none)) else (colophonref21_Set_Levels.l1 k x0 x5 x6 x7 (wrap64 (x9 + 1)) x273000 x273001 x273002 x273003)
end
def colophonref21_Set_Levels.f (k : Nat) (l0 : List (S66)) (l1 : List Int) : Option (List Int) := if 1 = 0 then (colophonref21_Set_Levels.j0 k l0 l1 true) else ((colophonref21_may.f k l1).bind fun t264 => (colophonref21_Set_Levels.j0 k l0 l1 (!t264)))
theorem colophonref21_Set_Levels.mono_l : ∀ k, (∀ y0 y1 y2, LeO (colophonref21_Set_Levels.j0 k y0 y1 y2) (colophonref21_Set_Levels.j0 (k + 1) y0 y1 y2)) ∧ (∀ y0 y1 y2 y3, LeO (colophonref21_Set_Levels.l0 k y0 y1 y2 y3) (colophonref21_Set_Levels.l0 (k + 1) y0 y1 y2 y3)) ∧ (∀ y0 y1 y2 y3 y4 y5 y6 y7 y8, LeO (colophonref21_Set_Levels.l1 k y0 y1 y2 y3 y4 y5 y6 y7 y8) (colophonref21_Set_Levels.l1 (k + 1) y0 y1 y2 y3 y4 y5 y6 y7 y8)) ∧ (∀ y0 y1 y2 y3 y4 y5 y6 y7 y8 y9, LeO (colophonref21_Set_Levels.j3 k y0 y1 y2 y3 y4 y5 y6 y7 y8 y9) (colophonref21_Set_Levels.j3 (k + 1) y0 y1 y2 y3 y4 y5 y6 y7 y8 y9)) ∧ (∀ y0 y1 y2 y3 y4 y5 y6 y7 y8 y9, LeO (colophonref21_Set_Levels.l2 k y0 y1 y2 y3 y4 y5 y6 y7 y8 y9) (colophonref21_Set_Levels.l2 (k + 1) y0 y1 y2 y3 y4 y5 y6 y7 y8 y9))
 | 0 => ⟨fun _ _ _ r h => by simp [colophonref21_Set_Levels.j0] at h, fun _ _ _ _ r h => by simp [colophonref21_Set_Levels.l0] at h, fun _ _ _ _ _ _ _ _ _ r h => by simp [colophonref21_Set_Levels.l1] at h, fun _ _ _ _ _ _ _ _ _ _ r h => by simp [colophonref21_Set_Levels.j3] at h, fun _ _ _ _ _ _ _ _ _ _ r h => by simp [colophonref21_Set_Levels.l2] at h⟩
 | k + 1 => by
  obtain ⟨ih0, ih1, ih2, ih3, ih4⟩ := colophonref21_Set_Levels.mono_l k
  refine ⟨?_, ?_, ?_, ?_, ?_⟩
  ·intro y0 y1 y2
   unfold colophonref21_Set_Levels.j0
   repeat' first
   |(with_reducible exact ih0 _ _ _)
   |(with_reducible exact ih1 _ _ _ _)
   |(with_reducible exact ih2 _ _ _ _ _ _ _ _ _)
   |(with_reducible exact ih3 _ _ _ _ _ _ _ _ _ _)
   |(with_reducible exact ih4 _ _ _ _ _ _ _ _ _ _)
   |(with_reducible exact colophonref04_Lowers.mono _ _)
   |(with_reducible exact colophonref21_fits.mono _ _ _ _)
   |(with_reducible exact colophonref21_may.mono _ _)
   |(with_reducible exact LeO.refl _)
   |(with_reducible exact LeO.none _)
   |(with_reducible refine LeO.ite ?_ ?_)
   |(with_reducible refine LeO.bind ?_ (fun _ => ?_))
   | exact ih0 _ _ _
   | exact ih1 _ _ _ _
   | exact ih2 _ _ _ _ _ _ _ _ _
   | exact ih3 _ _ _ _ _ _ _ _ _ _
   | exact ih4 _ _ _ _ _ _ _ _ _ _
   | exact colophonref04_Lowers.mono _ _
   | exact colophonref21_fits.mono _ _ _ _
   | exact colophonref21_may.mono _ _
   | exact LeO.none _
   | refine LeO.ite ?_ ?_
   | refine LeO.bind ?_ (fun _ => ?_)
  ·intro y0 y1 y2 y3
   unfold colophonref21_Set_Levels.l0
   repeat' first
   |(with_reducible exact ih0 _ _ _)
   |(with_reducible exact ih1 _ _ _ _)
   |(with_reducible exact ih2 _ _ _ _ _ _ _ _ _)
   |(with_reducible exact ih3 _ _ _ _ _ _ _ _ _ _)
   |(with_reducible exact ih4 _ _ _ _ _ _ _ _ _ _)
   |(with_reducible exact colophonref04_Lowers.mono _ _)
   |(with_reducible exact colophonref21_fits.mono _ _ _ _)
   |(with_reducible exact colophonref21_may.mono _ _)
   |(with_reducible exact LeO.refl _)
   |(with_reducible exact LeO.none _)
   |(with_reducible refine LeO.ite ?_ ?_)
   |(with_reducible refine LeO.bind ?_ (fun _ => ?_))
   | exact ih0 _ _ _
   | exact ih1 _ _ _ _
   | exact ih2 _ _ _ _ _ _ _ _ _
   | exact ih3 _ _ _ _ _ _ _ _ _ _
   | exact ih4 _ _ _ _ _ _ _ _ _ _
   | exact colophonref04_Lowers.mono _ _
   | exact colophonref21_fits.mono _ _ _ _
   | exact colophonref21_may.mono _ _
   | exact LeO.none _
   | refine LeO.ite ?_ ?_
   | refine LeO.bind ?_ (fun _ => ?_)
  ·intro y0 y1 y2 y3 y4 y5 y6 y7 y8
   unfold colophonref21_Set_Levels.l1
   repeat' first
   |(with_reducible exact ih0 _ _ _)
   |(with_reducible exact ih1 _ _ _ _)
   |(with_reducible exact ih2 _ _ _ _ _ _ _ _ _)
   |(with_reducible exact ih3 _ _ _ _ _ _ _ _ _ _)
   |(with_reducible exact ih4 _ _ _ _ _ _ _ _ _ _)
   |(with_reducible exact colophonref04_Lowers.mono _ _)
   |(with_reducible exact colophonref21_fits.mono _ _ _ _)
   |(with_reducible exact colophonref21_may.mono _ _)
   |(with_reducible exact LeO.refl _)
   |(with_reducible exact LeO.none _)
   |(with_reducible refine LeO.ite ?_ ?_)
   |(with_reducible refine LeO.bind ?_ (fun _ => ?_))
   | exact ih0 _ _ _
   | exact ih1 _ _ _ _
   | exact ih2 _ _ _ _ _ _ _ _ _
   | exact ih3 _ _ _ _ _ _ _ _ _ _
   | exact ih4 _ _ _ _ _ _ _ _ _ _
   | exact colophonref04_Lowers.mono _ _
   | exact colophonref21_fits.mono _ _ _ _
   | exact colophonref21_may.mono _ _
   | exact LeO.none _
   | refine LeO.ite ?_ ?_
   | refine LeO.bind ?_ (fun _ => ?_)
  ·intro y0 y1 y2 y3 y4 y5 y6 y7 y8 y9
   unfold colophonref21_Set_Levels.j3
   repeat' first
   |(with_reducible exact ih0 _ _ _)
   |(with_reducible exact ih1 _ _ _ _)
   |(with_reducible exact ih2 _ _ _ _ _ _ _ _ _)
   |(with_reducible exact ih3 _ _ _ _ _ _ _ _ _ _)
   |(with_reducible exact ih4 _ _ _ _ _ _ _ _ _ _)
   |(with_reducible exact colophonref04_Lowers.mono _ _)
   |(with_reducible exact colophonref21_fits.mono _ _ _ _)
   |(with_reducible exact colophonref21_may.mono _ _)
   |(with_reducible exact LeO.refl _)
   |(with_reducible exact LeO.none _)
   |(with_reducible refine LeO.ite ?_ ?_)
   |(with_reducible refine LeO.bind ?_ (fun _ => ?_))
   | exact ih0 _ _ _
   | exact ih1 _ _ _ _
   | exact ih2 _ _ _ _ _ _ _ _ _
   | exact ih3 _ _ _ _ _ _ _ _ _ _
   | exact ih4 _ _ _ _ _ _ _ _ _ _
   | exact colophonref04_Lowers.mono _ _
   | exact colophonref21_fits.mono _ _ _ _
   | exact colophonref21_may.mono _ _
   | exact LeO.none _
   | refine LeO.ite ?_ ?_
   | refine LeO.bind ?_ (fun _ => ?_)
  ·intro y0 y1 y2 y3 y4 y5 y6 y7 y8 y9
   unfold colophonref21_Set_Levels.l2
   repeat' first
   |(with_reducible exact ih0 _ _ _)
   |(with_reducible exact ih1 _ _ _ _)
   |(with_reducible exact ih2 _ _ _ _ _ _ _ _ _)
   |(with_reducible exact ih3 _ _ _ _ _ _ _ _ _ _)
   |(with_reducible exact ih4 _ _ _ _ _ _ _ _ _ _)
   |(with_reducible exact colophonref04_Lowers.mono _ _)
   |(with_reducible exact colophonref21_fits.mono _ _ _ _)
   |(with_reducible exact colophonref21_may.mono _ _)
   |(with_reducible exact LeO.refl _)
   |(with_reducible exact LeO.none _)
   |(with_reducible refine LeO.ite ?_ ?_)
   |(with_reducible refine LeO.bind ?_ (fun _ => ?_))
   | exact ih0 _ _ _
   | exact ih1 _ _ _ _
   | exact ih2 _ _ _ _ _ _ _ _ _
   | exact ih3 _ _ _ _ _ _ _ _ _ _
   | exact ih4 _ _ _ _ _ _ _ _ _ _
   | exact colophonref04_Lowers.mono _ _
   | exact colophonref21_fits.mono _ _ _ _
   | exact colophonref21_may.mono _ _
   | exact LeO.none _
   | refine LeO.ite ?_ ?_
   | refine LeO.bind ?_ (fun _ => ?_)
theorem colophonref21_Set_Levels.mono : ∀ a0 a1 k, LeO (colophonref21_Set_Levels.f k a0 a1) (colophonref21_Set_Levels.f (k + 1) a0 a1) := by
 intro a0 a1 k
 obtain ⟨ih0, ih1, ih2, ih3, ih4⟩ := colophonref21_Set_Levels.mono_l k
 unfold colophonref21_Set_Levels.f
 repeat' first
   |(with_reducible exact ih0 _ _ _)
   |(with_reducible exact ih1 _ _ _ _)
   |(with_reducible exact ih2 _ _ _ _ _ _ _ _ _)
   |(with_reducible exact ih3 _ _ _ _ _ _ _ _ _ _)
   |(with_reducible exact ih4 _ _ _ _ _ _ _ _ _ _)
   |(with_reducible exact colophonref04_Lowers.mono _ _)
   |(with_reducible exact colophonref21_fits.mono _ _ _ _)
   |(with_reducible exact colophonref21_may.mono _ _)
   |(with_reducible exact LeO.refl _)
   |(with_reducible exact LeO.none _)
   |(with_reducible refine LeO.ite ?_ ?_)
   |(with_reducible refine LeO.bind ?_ (fun _ => ?_))
   | exact ih0 _ _ _
   | exact ih1 _ _ _ _
   | exact ih2 _ _ _ _ _ _ _ _ _
   | exact ih3 _ _ _ _ _ _ _ _ _ _
   | exact ih4 _ _ _ _ _ _ _ _ _ _
   | exact colophonref04_Lowers.mono _ _
   | exact colophonref21_fits.mono _ _ _ _
   | exact colophonref21_may.mono _ _
   | exact LeO.none _
   | refine LeO.ite ?_ ?_
   | refine LeO.bind ?_ (fun _ => ?_)
noncomputable def colophonref21_Set_Levels.T16 := rtab .any (opsOf Tryd.f18 16)
def colophonref21_Set_Levels.B16 : List Nat := [0, 0, 0, 6, 0, 0, 0, 96, 240, 496, 0, 1024, 0, 7168, 15360, 32752, 65535, 131071]
theorem colophonref21_Set_Levels.tab16 : rtab .any (opsOf Tryd.f18 16) = colophonref21_Set_Levels.T16 := by kernel_rfl
theorem colophonref21_Set_Levels.bits16 : waitsOk colophonref21_Set_Levels.T16.2 colophonref21_Set_Levels.B16 = true := by kernel_rfl
set_option maxHeartbeats 8000000 in
set_option maxRecDepth 100000 in
theorem colophonref21_Set_Levels.calls (k : Nat) (A0 : Option Addr) (c0 : Nat) (l0 : List (S66)) (A1 : Option Addr) (c1 : Nat) (l1 : List Int) (r : List Int) (w : World) (hr0 : Kd.C k66 w A0 l0.length l0) (hc0 : l0.length ≤ c0) (hr1 : Kd.C (Kd.int .i64) w A1 l1.length l1) (hc1 : l1.length ≤ c1) (h : colophonref21_Set_Levels.f k l0 l1 = some r) (Rb : Nat) (V2_ : Value) (hRb : w.heap[Rb]? = some (.cells #[.slice A0 l0.length c0, V2_] 62 (0, 0))) :
  Calls Tryd.prog 18 #[.pointer (some ⟨Rb, 0, none⟩), .slice A1 l1.length c1] w fun e w' => ∃ v0_ : Value, e = .returned (v0_) ∧ Kd.R (Kd.int .i64) 3 w' w.heap.size (fun _ => True) v0_ r ∧ Below w.heap.size w w' := by
 have hu66 := Tryd.underlying66
 have HR0 := Aside0.mk hr0
 have HC0 := Aside0.mk hc0
 clear hr0 hc0
 have HR1 := Aside0.mk hr1
 have HC1 := Aside0.mk hc1
 clear hr1 hc1
 have HB := Aside0.mk (Below.refl w.heap.size w)
 have HRB : Aside0 (∀ W, Below w.heap.size w W → W.cell? ⟨Rb, 0, none⟩ = some (.slice A0 l0.length c0)) := ⟨fun W hb => (blk_cell ((hb.block _ (blk_lt hRb)).trans hRb) 0).trans rfl⟩
 have HRh : Aside0 (∀ W, Below w.heap.size w W → W.heap[Rb]? = some (.cells #[.slice A0 l0.length c0, V2_] 62 (0, 0))) := ⟨fun W hb => (hb.block _ (blk_lt hRb)).trans hRb⟩
 clear hRb
 have hs0 := HRB.out w (Below.refl _ _)
 have hs1 := fun o => HRB.out _ (below_alloc (Below.refl w.heap.size w) o)
 have H : (if 1 = 0 then (colophonref21_Set_Levels.j0 k l0 l1 true) else ((colophonref21_may.f k l1).bind fun t264 => (colophonref21_Set_Levels.j0 k l0 l1 (!t264)))) = some r := h
 clear h
 have HC3 := Aside0.mk H
 clear H
 go_enter Tryd.func18, Tryd.ntmps18
 go_upto_region 1 with (fail)
 go_cut [17] (fun v17 wc => ∃ (kq : Nat) (x17_2 : Bool), v17 = .bool x17_2 ∧ Aside0 (colophonref21_Set_Levels.j0 kq l0 l1 x17_2 = some r) ∧ Aside0 (kq ≤ k) ∧ Aside0 (Below w.heap.size w wc))
 case first =>
  have H := HC3.out
  clear HC3
  by_cases c4 : 1 = 0
  ·exact absurd c4 (by decide)
  ·rw [if_neg c4] at H
   have c4b0 : (1 == 0) = false := beq_eq_false_iff_ne.mpr c4
   have c4b1 : (1 != 0) = true := bne_iff_ne.mpr c4
   (first | rw [c4b0] | (simp only [i64_w, i32_w]; rw [c4b0]) | skip)
   replace H := Option.bind_eq_some_iff.mp H
   obtain ⟨t264, A50, H⟩ := H
   replace H : (colophonref21_Set_Levels.j0 k l0 l1 (!t264)) = some r := H
   have A5 := Aside0.mk A50
   clear A50
   have H' := Aside0.mk H
   clear H
   go_wp2_with (first | (go_at_call 37; (with_reducible refine (colophonref21_may.calls k _ _ l1 t264 _ ?side1 ?side2 A5.out).mono ?_); (case side1 => repeat (first | exact (Kd.C_below HR1.out HB.out) | (with_reducible refine Kd.C_alloc ?_ _) | (with_reducible refine Kd.C_drewN ?_ _) | (with_reducible refine Kd.C_drew ?_))); (case side2 => exact HC1.out); rintro e w' ⟨rfl, ⟨nd, rfl⟩⟩))
   go_meet
   case rel => exact ⟨_, (!t264), (by first | rfl | (simp; done) | (simp [*]; done)), H', ⟨by first | omega | exact Nat.le_refl _⟩, ⟨by repeat (first | (with_reducible first | exact HB.out | apply below_alloc | apply pw_below_drewN | apply below_drew1) | exact HB.out)⟩⟩
 case rest =>
  clear HC3
  obtain ⟨kq, x17_2, rfl, HA, HJ2, HB⟩ := hcut
  have hs0 := HRB.out _ HB.out
  have hs1 := fun o => HRB.out _ (below_alloc HB.out o)
  cases kq with
  | zero => exact absurd HA.out (by simp [colophonref21_Set_Levels.j0])
  | succ kj2 =>
   have H := HA.out
   clear HA
   simp only [colophonref21_Set_Levels.j0] at H
   by_cases c6 : x17_2 = true
   ·subst c6
    have H1 : (some ([] : List Int)) = some r := by rw [if_pos rfl] at H; exact H
    clear H
    have H := H1
    clear H1
    obtain rfl := Option.some.inj H
    go_wp2
    go_ret
    exact ⟨_, by first | rfl | (simp [errW_none, errW_some] <;> rfl) | (simp [*, errW_none, errW_some] <;> rfl), by first | exact Kd.R_nil _ _ _ _ _ | exact Kd.N_nil _ _ _ _ _ | exact Kd.V_nil _ _ _ _ _ | exact Kd.Q_nil _ _ _ _ _ | exact Kd.S_nil _ _ _ _ _, by repeat (first | (with_reducible first | exact HB.out | apply below_alloc | apply pw_below_drewN | apply below_drew1) | exact HB.out)⟩
   ·replace c6 := Bool.eq_false_iff.mpr c6
    subst c6
    have H1 : ((colophonref04_Lowers.f kj2 l1).bind fun t265 => (if 0 ≤ (wrap64 ((t265.length : Int) + 1)) then (if (wrap64 ((t265.length : Int) + 1) : Int).toNat ≤ 35184372088832 then (colophonref21_Set_Levels.l0 kj2 l0 t265 (List.replicate (wrap64 ((t265.length : Int) + 1) : Int).toNat 0) 0) else (none)) else (none))) = some r := by rw [if_neg (show ¬ (false = true) by decide)] at H; exact H
    clear H
    have H := H1
    clear H1
    replace H := Option.bind_eq_some_iff.mp H
    obtain ⟨t265, A70, H⟩ := H
    replace H : (if 0 ≤ (wrap64 ((t265.length : Int) + 1)) then (if (wrap64 ((t265.length : Int) + 1) : Int).toNat ≤ 35184372088832 then (colophonref21_Set_Levels.l0 kj2 l0 t265 (List.replicate (wrap64 ((t265.length : Int) + 1) : Int).toNat 0) 0) else (none)) else (none)) = some r := H
    have A7 := Aside0.mk A70
    clear A70
    obtain ⟨ji8, hji8⟩ : ∃ j_ : Int, (wrap64 ((t265.length : Int) + 1)) = j_ := ⟨_, rfl⟩
    replace H : (if 0 ≤ (ji8) then (if (ji8 : Int).toNat ≤ 35184372088832 then (colophonref21_Set_Levels.l0 kj2 l0 t265 (List.replicate (ji8 : Int).toNat 0) 0) else (none)) else (none)) = some r := by first | (rw [hji8] at H; exact H) | (simp only [hji8] at H ⊢; exact H)
    (try rw [hji8] at A7)
    have hji8w : (IntKind.i64.wrap ((t265.length : Int) + 1)) = ji8 := (i64_w _).trans hji8
    by_cases c9 : 0 ≤ (ji8)
    ·rw [if_pos c9] at H
     have c9b0 := eq_true c9
     have c9b1 : decide (0 ≤ (ji8)) = true := decide_eq_true c9
     clear c9
     by_cases c10 : (ji8 : Int).toNat ≤ 35184372088832
     ·rw [if_pos c10] at H
      have c10b0 := eq_true c10
      have c10b1 : decide ((ji8 : Int).toNat ≤ 35184372088832) = true := decide_eq_true c10
      clear c10
      obtain ⟨y268, hy268⟩ : ∃ y_ : List Int, y_ = (List.replicate (ji8 : Int).toNat 0) := ⟨_, rfl⟩
      replace H : (colophonref21_Set_Levels.l0 kj2 l0 t265 y268 0) = some r := by first | (rw [hy268]; with_reducible exact H) | (have H2_ := (Option.bind_some _ _).symm.trans H; rw [hy268]; with_reducible exact H2_) | (have H2_ := (Option.bind_some _ _).symm.trans H; with_reducible exact H2_) | with_reducible exact H | (rw [hy268]; exact H) | exact H
      have Ny268 := Aside0.mk hy268
      clear hy268
      have H' := Aside0.mk H
      clear H
      go_wp2_with (first | ((with_reducible refine gate_callee (f := 38) rfl ?_); refine goesL_ (some 19) rfl rfl Tryd.func38 (by kernel_rfl) rfl #[.slice A1 l1.length c1] rfl (by (try simp only [List.map_toArray, List.map_cons, List.map_nil]); first | done | rfl | (simp only [List.length_drop, List.length_take]; rfl)) ?_; (with_reducible refine (colophonref04_Lowers.calls kj2 _ _ l1 t265 _ ?side1 ?side2 A7.out).mono ?_); (case side1 => repeat (first | exact (Kd.C_below HR1.out HB.out) | (with_reducible refine Kd.C_alloc ?_ _) | (with_reducible refine Kd.C_drewN ?_ _) | (with_reducible refine Kd.C_drew ?_))); (case side2 => exact HC1.out); rintro e w11 ⟨v266, rfl, ho0, hb⟩; refine ⟨_, rfl, ?_⟩; have n0_ := Aside0.mk (Kd.R_lower ho0 (below_size (by repeat (first | (with_reducible first | exact HB.out | apply below_alloc | apply pw_below_drewN | apply below_drew1) | exact HB.out)))); have n1_ := Aside0.mk (below_step (by repeat (first | (with_reducible first | exact HB.out | apply below_alloc | apply pw_below_drewN | apply below_drew1) | exact HB.out)) hb); clear HB; have HO267 := n0_; have HB := n1_; have hs0 := HRB.out _ HB.out; have hs1 := fun o => HRB.out _ (below_alloc HB.out o); clear n0_ n1_; (try clear hb); (try clear hb2); (try clear hk); (try clear hi); (try clear ho0); obtain ⟨Ao12, co12, eo12⟩ := Kd.R_slice HO267.out; subst eo12) | ((with_reducible refine gate_dst (N := 23) rfl ?_); (try (refine gate_guard (by rfl) ?_; dsimp only)); refine Kd.R_make (Kd.int .i64) _ 3 rfl (N := 23) rfl 22 _ _ rfl ji8 rfl rfl Tryd.underlying22 (.int .i64 0) 8 info3 rfl (by decide) (by omega) 0 (ok := fun _ => True) (okp := fun _ => True) rfl (fun _ hk => hk) trivial (of_decide_eq_true (by first | (with_reducible assumption) | assumption)) (Nat.le_trans (Nat.mul_le_mul_right _ (of_decide_eq_true (by first | (with_reducible assumption) | assumption) : ji8.toNat ≤ 35184372088832)) (by omega)) (Below.refl _ _) (Nat.le_refl _) ?_; intro v269 w13 ho14 hb hg_ hnew_; clear hg_ hnew_; (first | rw [← Ny268.out] at ho14 | (simp only [Int.reduceToNat] at ho14; rw [← Ny268.out] at ho14)); have n0_ := Aside0.mk (Kd.R_elder' (by (with_reducible repeat (first | apply Kd.R_alloc | apply Kd.R_drewN | apply Kd.R_drew)); exact HO267.out) (Kd.R_base ho14) hb); have n1_ := Aside0.mk (Kd.R_lower (Kd.R_new' ho14 (Kd.R_lt (by (with_reducible repeat (first | apply Kd.R_alloc | apply Kd.R_drewN | apply Kd.R_drew)); exact HO267.out))) (below_size (by repeat (first | (with_reducible first | exact HB.out | apply below_alloc | apply pw_below_drewN | apply below_drew1) | exact HB.out)))); have n2_ := Aside0.mk (below_step (by repeat (first | (with_reducible first | exact HB.out | apply below_alloc | apply pw_below_drewN | apply below_drew1) | exact HB.out)) hb); clear HO267; clear HB; have HO267 := n0_; have HO270 := n1_; have HB := n2_; have hs0 := HRB.out _ HB.out; have hs1 := fun o => HRB.out _ (below_alloc HB.out o); clear n0_ n1_ n2_; clear hb ho14))
      go_loopg [7] kj2 (fun kq v7 w' => ∃ (x6_2 : List Int) (x7_2 : Int), v7 = .int .i64 x7_2 ∧ Aside0 (colophonref21_Set_Levels.l0 kq l0 t265 x6_2 x7_2 = some r) ∧ Aside0 (kq ≤ kj2) ∧ Aside0 (Kd.R (Kd.int .i64) 3 w' w.heap.size (fun k_ => some k_ ≠ (v269 : Value).ownBlock) (.slice Ao12 t265.length co12) t265) ∧ Aside0 (Kd.R (Kd.int .i64) 3 w' w.heap.size (fun k_ => some k_ ≠ ((.slice Ao12 t265.length co12) : Value).ownBlock) v269 x6_2) ∧ Aside0 (Below w.heap.size w w'))
      case atStart => exact ⟨(y268), (0), (by first | rfl | (simp; done) | (simp [*]; done)), H', ⟨Nat.le_refl _⟩, ⟨by (with_reducible repeat (first | apply Kd.R_alloc | apply Kd.R_drewN | apply Kd.R_drew)); exact Kd.R_mono HO267.out (fun _ hk => hk.2)⟩, ⟨by (with_reducible repeat (first | apply Kd.R_alloc | apply Kd.R_drewN | apply Kd.R_drew)); exact Kd.R_mono HO270.out (fun _ hk => hk.2)⟩, ⟨by repeat (first | (with_reducible first | exact HB.out | apply below_alloc | apply pw_below_drewN | apply below_drew1) | exact HB.out)⟩⟩
      case round =>
       clear H'
       obtain ⟨x6_2, x7_2, rfl, HA, HK2, HO_5, HO_6, HB⟩ := hrel
       have hs0 := HRB.out _ HB.out
       have hs1 := fun o => HRB.out _ (below_alloc HB.out o)
       cases gk with
       | zero => exact absurd HA.out (by simp [colophonref21_Set_Levels.l0])
       | succ k2 =>
        have H := HA.out
        clear HA
        simp only [colophonref21_Set_Levels.l0] at H
        by_cases c15 : x7_2 < (l0.length : Int)
        ·rw [if_pos c15] at H
         have c15b0 : decide (x7_2 < (l0.length : Int)) = true := decide_eq_true c15
         clear c15
         by_cases c16 : 0 ≤ x7_2
         ·rw [if_pos c16] at H
          have c16b0 : decide (0 ≤ x7_2) = true := decide_eq_true c16
          clear c16
          have H' := Aside0.mk H
          clear H
          have p271 : 0 ≤ (x7_2 : Int) := of_decide_eq_true (by first | (with_reducible assumption) | assumption)
          have q271 : x7_2 < (l0.length : Int) := of_decide_eq_true (by first | (with_reducible assumption) | assumption)
          obtain ⟨ad271, A271_0, c271_0, A271_3, c271_3, e271, hx271_0, hx271_1, hx271_2, hx271_3, hl271_0, hi271_0, hl271_3, hi271_3⟩ := at_T66 HR0.out x7_2 p271 q271
          cases e271
          replace hx271_0 := (HB.out.cell (World.block_lt_of_cell? w _ hx271_0)).trans hx271_0
          replace hx271_1 := (HB.out.cell (World.block_lt_of_cell? w _ hx271_1)).trans hx271_1
          replace hx271_2 := (HB.out.cell (World.block_lt_of_cell? w _ hx271_2)).trans hx271_2
          replace hx271_3 := (HB.out.cell (World.block_lt_of_cell? w _ hx271_3)).trans hx271_3
          have HR271_0 := Aside0.mk hi271_0
          have HC271_0 := Aside0.mk hl271_0
          clear hi271_0 hl271_0
          have HR271_3 := Aside0.mk hi271_3
          have HC271_3 := Aside0.mk hl271_3
          clear hi271_3 hl271_3
          replace p271 := eq_true p271
          replace q271 := eq_true q271
          go_wp2_with (first | ((with_reducible refine gate_dst (N := 8) rfl ?_); (try (refine gate_guard (by rfl) ?_; dsimp only)); refine box_event ?hg (N := 8) ?hd (cs := #[.slice none 0 0, .bool false, .bool false, .slice none 0 0]) (t := 66) ?hr ?_; (case hd => rfl); (case hg => rfl); (case hr => first | (go_simp; done) | (go_simp; rfl)); intro gb272 hg w17 hbox hb; have n0_ := Aside0.mk (Kd.R_below (by (with_reducible repeat (first | apply Kd.R_alloc | apply Kd.R_drewN | apply Kd.R_drew)); exact HO_5.out) hb); have n1_ := Aside0.mk (Kd.R_below (by (with_reducible repeat (first | apply Kd.R_alloc | apply Kd.R_drewN | apply Kd.R_drew)); exact HO_6.out) hb); have n2_ := Aside0.mk (below_step (by repeat (first | (with_reducible first | exact HB.out | apply below_alloc | apply pw_below_drewN | apply below_drew1) | exact HB.out)) hb); have n3_ := Aside0.mk (hbox); have n4_ := Aside0.mk ((by rw [hg]; exact (below_size (by repeat (first | (with_reducible first | exact HB.out | apply below_alloc | apply pw_below_drewN | apply below_drew1) | exact HB.out))) : w.heap.size ≤ gb272)); have n5_ := Aside0.mk ((by rw [hg]; exact (below_size (by repeat (first | (with_reducible first | exact HB.out | apply below_alloc | apply pw_below_drewN | apply below_drew1) | exact HB.out))) : w.heap.size ≤ gb272)); clear HO_5; clear HO_6; clear HB; have HO_5 := n0_; have HO_6 := n1_; have HB := n2_; have hs0 := HRB.out _ HB.out; have hs1 := fun o => HRB.out _ (below_alloc HB.out o); have BK272 := n3_; have GW272 := n4_; have GE272 := n5_; clear n0_ n1_ n2_ n3_ n4_ n5_; clear hb hbox hg; have hcz18_0 : w17.cell? ⟨gb272, 0, none⟩ = some (.slice none 0 0) := (blk_cell BK272.out 0).trans rfl; have hcz18_1 : w17.cell? ⟨gb272, 1, none⟩ = some (.bool false) := (blk_cell BK272.out 1).trans rfl; have hcz18_2 : w17.cell? ⟨gb272, 2, none⟩ = some (.bool false) := (blk_cell BK272.out 2).trans rfl; have hcz18_3 : w17.cell? ⟨gb272, 3, none⟩ = some (.slice none 0 0) := (blk_cell BK272.out 3).trans rfl; have hfz18_0 := blk_frozen BK272.out 0; have hfz18_1 := blk_frozen BK272.out 1; have hfz18_2 := blk_frozen BK272.out 2; have hfz18_3 := blk_frozen BK272.out 3))
          generalize (Value.agg #[.slice A271_0 ((rd_T66 l0 x7_2).f0).length c271_0, .bool ((rd_T66 l0 x7_2).f1), .bool ((rd_T66 l0 x7_2).f2), .slice A271_3 ((rd_T66 l0 x7_2).f3).length c271_3]) = vagg_
          go_loopg [9] k2 (fun kq v9 w' => ∃ (x6_3 : List Int) (x9_3 : Int), v9 = .int .i64 x9_3 ∧ Aside0 (colophonref21_Set_Levels.l1 kq l0 t265 x6_3 x7_2 x9_3 ((rd_T66 l0 x7_2).f0) ((rd_T66 l0 x7_2).f1) ((rd_T66 l0 x7_2).f2) ((rd_T66 l0 x7_2).f3) = some r) ∧ Aside0 (kq ≤ k2) ∧ Aside0 (Kd.R (Kd.int .i64) 3 w' w.heap.size (fun k_ => some k_ ≠ (v269 : Value).ownBlock) (.slice Ao12 t265.length co12) t265) ∧ Aside0 (Kd.R (Kd.int .i64) 3 w' w.heap.size (fun k_ => some k_ ≠ ((.slice Ao12 t265.length co12) : Value).ownBlock) v269 x6_3) ∧ Aside0 (w'.heap[gb272]? = some (.cells #[(.slice A271_0 ((rd_T66 l0 x7_2).f0).length c271_0), .bool ((rd_T66 l0 x7_2).f1), .bool ((rd_T66 l0 x7_2).f2), (.slice A271_3 ((rd_T66 l0 x7_2).f3).length c271_3)] 66 (0, 0))) ∧ Aside0 (Below w.heap.size w w'))
          case atStart => exact ⟨(x6_2), (0), (by first | rfl | (simp; done) | (simp [*]; done)), H', ⟨Nat.le_refl _⟩, ⟨by (with_reducible repeat (first | apply Kd.R_alloc | apply Kd.R_drewN | apply Kd.R_drew)); exact Kd.R_mono (Kd.R_far (p := ⟨gb272, 3, none⟩) (Kd.R_far (p := ⟨gb272, 2, none⟩) (Kd.R_far (p := ⟨gb272, 1, none⟩) (Kd.R_far (p := ⟨gb272, 0, none⟩) (Kd.R_types HO_5.out BK272.out (by decide)) (fun _ hk => hk.2) (.slice A271_0 ((rd_T66 l0 x7_2).f0).length c271_0)) (fun _ hk => hk.2) (.bool ((rd_T66 l0 x7_2).f1))) (fun _ hk => hk.2) (.bool ((rd_T66 l0 x7_2).f2))) (fun _ hk => hk.2) (.slice A271_3 ((rd_T66 l0 x7_2).f3).length c271_3)) (fun _ hk => hk.1)⟩, ⟨by (with_reducible repeat (first | apply Kd.R_alloc | apply Kd.R_drewN | apply Kd.R_drew)); exact Kd.R_mono (Kd.R_far (p := ⟨gb272, 3, none⟩) (Kd.R_far (p := ⟨gb272, 2, none⟩) (Kd.R_far (p := ⟨gb272, 1, none⟩) (Kd.R_far (p := ⟨gb272, 0, none⟩) (Kd.R_types HO_6.out BK272.out (by decide)) (fun _ hk => hk.2) (.slice A271_0 ((rd_T66 l0 x7_2).f0).length c271_0)) (fun _ hk => hk.2) (.bool ((rd_T66 l0 x7_2).f1))) (fun _ hk => hk.2) (.bool ((rd_T66 l0 x7_2).f2))) (fun _ hk => hk.2) (.slice A271_3 ((rd_T66 l0 x7_2).f3).length c271_3)) (fun _ hk => hk.1)⟩, ⟨by (with_reducible repeat (first | refine blk_drewN ?_ _ | refine blk_drew ?_ | refine blk_alloc ?_ _)); refine blk_put (cs := #[.slice A271_0 ((rd_T66 l0 x7_2).f0).length c271_0, .bool ((rd_T66 l0 x7_2).f1), .bool ((rd_T66 l0 x7_2).f2), .slice none 0 0]) ?_ 3 _ rfl; (with_reducible repeat (first | refine blk_drewN ?_ _ | refine blk_drew ?_ | refine blk_alloc ?_ _)); refine blk_put (cs := #[.slice A271_0 ((rd_T66 l0 x7_2).f0).length c271_0, .bool ((rd_T66 l0 x7_2).f1), .bool false, .slice none 0 0]) ?_ 2 _ rfl; (with_reducible repeat (first | refine blk_drewN ?_ _ | refine blk_drew ?_ | refine blk_alloc ?_ _)); refine blk_put (cs := #[.slice A271_0 ((rd_T66 l0 x7_2).f0).length c271_0, .bool false, .bool false, .slice none 0 0]) ?_ 1 _ rfl; (with_reducible repeat (first | refine blk_drewN ?_ _ | refine blk_drew ?_ | refine blk_alloc ?_ _)); refine blk_put (cs := #[.slice none 0 0, .bool false, .bool false, .slice none 0 0]) ?_ 0 _ rfl; (with_reducible repeat (first | refine blk_drewN ?_ _ | refine blk_drew ?_ | refine blk_alloc ?_ _)); exact BK272.out⟩, ⟨by repeat (first | (with_reducible first | exact HB.out | apply below_alloc | apply pw_below_drewN | apply below_drew1 | refine below_set ?_ GE272.out) | exact HB.out)⟩⟩
          case round =>
           clear H'
           obtain ⟨x6_3, x9_3, rfl, HA, HK3, HO_5, HO_6, BK272, HB⟩ := hrel
           have hs0 := HRB.out _ HB.out
           have hs1 := fun o => HRB.out _ (below_alloc HB.out o)
           cases gk with
           | zero => exact absurd HA.out (by simp [colophonref21_Set_Levels.l1])
           | succ k3 =>
            have H := HA.out
            clear HA
            simp only [colophonref21_Set_Levels.l1] at H
            by_cases c19 : (wrap64 (x9_3 + (((rd_T66 l0 x7_2).f0).length : Int))) ≤ (t265.length : Int)
            ·rw [if_pos c19] at H
             have c19b0 : decide ((wrap64 (x9_3 + (((rd_T66 l0 x7_2).f0).length : Int))) ≤ (t265.length : Int)) = true := decide_eq_true c19
             clear c19
             have HC20 := Aside0.mk H
             clear H
             have hcz21_0 : wr.cell? ⟨gb272, 0, none⟩ = some (.slice A271_0 ((rd_T66 l0 x7_2).f0).length c271_0) := (blk_cell BK272.out 0).trans rfl
             have hcz21_1 : wr.cell? ⟨gb272, 1, none⟩ = some (.bool ((rd_T66 l0 x7_2).f1)) := (blk_cell BK272.out 1).trans rfl
             have hcz21_2 : wr.cell? ⟨gb272, 2, none⟩ = some (.bool ((rd_T66 l0 x7_2).f2)) := (blk_cell BK272.out 2).trans rfl
             have hcz21_3 : wr.cell? ⟨gb272, 3, none⟩ = some (.slice A271_3 ((rd_T66 l0 x7_2).f3).length c271_3) := (blk_cell BK272.out 3).trans rfl
             have hfz21_0 := blk_frozen BK272.out 0
             have hfz21_1 := blk_frozen BK272.out 1
             have hfz21_2 := blk_frozen BK272.out 2
             have hfz21_3 := blk_frozen BK272.out 3
             go_upto_region 12 with (fail)
             go_cut [77] (fun v77 wc => ∃ (kq : Nat) (x77_19 : Bool), v77 = .bool x77_19 ∧ Aside0 (colophonref21_Set_Levels.j3 kq l0 t265 x6_3 x7_2 x9_3 x77_19 ((rd_T66 l0 x7_2).f0) ((rd_T66 l0 x7_2).f1) ((rd_T66 l0 x7_2).f2) ((rd_T66 l0 x7_2).f3) = some r) ∧ Aside0 (kq ≤ k3) ∧ Aside0 (Kd.R (Kd.int .i64) 3 wc w.heap.size (fun k_ => some k_ ≠ (v269 : Value).ownBlock) (.slice Ao12 t265.length co12) t265) ∧ Aside0 (Kd.R (Kd.int .i64) 3 wc w.heap.size (fun k_ => some k_ ≠ ((.slice Ao12 t265.length co12) : Value).ownBlock) v269 x6_3) ∧ Aside0 (wc.heap[gb272]? = some (.cells #[(.slice A271_0 ((rd_T66 l0 x7_2).f0).length c271_0), .bool ((rd_T66 l0 x7_2).f1), .bool ((rd_T66 l0 x7_2).f2), (.slice A271_3 ((rd_T66 l0 x7_2).f3).length c271_3)] 66 (0, 0))) ∧ Aside0 (Below w.heap.size w wc))
             case first =>
              have H := HC20.out
              clear HC20
              replace H := Option.bind_eq_some_iff.mp H
              obtain ⟨t273, A220, H⟩ := H
              replace H : (if t273 = true then (if ((rd_T66 l0 x7_2).f1) = true then (if x9_3 = 0 then (if ((rd_T66 l0 x7_2).f2) = true then (colophonref21_Set_Levels.j3 k3 l0 t265 x6_3 x7_2 x9_3 ((wrap64 (x9_3 + (((rd_T66 l0 x7_2).f0).length : Int))) != (t265.length : Int)) ((rd_T66 l0 x7_2).f0) ((rd_T66 l0 x7_2).f1) ((rd_T66 l0 x7_2).f2) ((rd_T66 l0 x7_2).f3)) else (colophonref21_Set_Levels.j3 k3 l0 t265 x6_3 x7_2 x9_3 false ((rd_T66 l0 x7_2).f0) ((rd_T66 l0 x7_2).f1) ((rd_T66 l0 x7_2).f2) ((rd_T66 l0 x7_2).f3))) else (colophonref21_Set_Levels.j3 k3 l0 t265 x6_3 x7_2 x9_3 true ((rd_T66 l0 x7_2).f0) ((rd_T66 l0 x7_2).f1) ((rd_T66 l0 x7_2).f2) ((rd_T66 l0 x7_2).f3))) else (if ((rd_T66 l0 x7_2).f2) = true then (colophonref21_Set_Levels.j3 k3 l0 t265 x6_3 x7_2 x9_3 ((wrap64 (x9_3 + (((rd_T66 l0 x7_2).f0).length : Int))) != (t265.length : Int)) ((rd_T66 l0 x7_2).f0) ((rd_T66 l0 x7_2).f1) ((rd_T66 l0 x7_2).f2) ((rd_T66 l0 x7_2).f3)) else (colophonref21_Set_Levels.j3 k3 l0 t265 x6_3 x7_2 x9_3 false ((rd_T66 l0 x7_2).f0) ((rd_T66 l0 x7_2).f1) ((rd_T66 l0 x7_2).f2) ((rd_T66 l0 x7_2).f3)))) else (colophonref21_Set_Levels.j3 k3 l0 t265 x6_3 x7_2 x9_3 true ((rd_T66 l0 x7_2).f0) ((rd_T66 l0 x7_2).f1) ((rd_T66 l0 x7_2).f2) ((rd_T66 l0 x7_2).f3))) = some r := H
              have A22 := Aside0.mk A220
              clear A220
              by_cases c23 : t273 = true
              ·subst c23
               have H1 : (if ((rd_T66 l0 x7_2).f1) = true then (if x9_3 = 0 then (if ((rd_T66 l0 x7_2).f2) = true then (colophonref21_Set_Levels.j3 k3 l0 t265 x6_3 x7_2 x9_3 ((wrap64 (x9_3 + (((rd_T66 l0 x7_2).f0).length : Int))) != (t265.length : Int)) ((rd_T66 l0 x7_2).f0) ((rd_T66 l0 x7_2).f1) ((rd_T66 l0 x7_2).f2) ((rd_T66 l0 x7_2).f3)) else (colophonref21_Set_Levels.j3 k3 l0 t265 x6_3 x7_2 x9_3 false ((rd_T66 l0 x7_2).f0) ((rd_T66 l0 x7_2).f1) ((rd_T66 l0 x7_2).f2) ((rd_T66 l0 x7_2).f3))) else (colophonref21_Set_Levels.j3 k3 l0 t265 x6_3 x7_2 x9_3 true ((rd_T66 l0 x7_2).f0) ((rd_T66 l0 x7_2).f1) ((rd_T66 l0 x7_2).f2) ((rd_T66 l0 x7_2).f3))) else (if ((rd_T66 l0 x7_2).f2) = true then (colophonref21_Set_Levels.j3 k3 l0 t265 x6_3 x7_2 x9_3 ((wrap64 (x9_3 + (((rd_T66 l0 x7_2).f0).length : Int))) != (t265.length : Int)) ((rd_T66 l0 x7_2).f0) ((rd_T66 l0 x7_2).f1) ((rd_T66 l0 x7_2).f2) ((rd_T66 l0 x7_2).f3)) else (colophonref21_Set_Levels.j3 k3 l0 t265 x6_3 x7_2 x9_3 false ((rd_T66 l0 x7_2).f0) ((rd_T66 l0 x7_2).f1) ((rd_T66 l0 x7_2).f2) ((rd_T66 l0 x7_2).f3)))) = some r := by rw [if_pos rfl] at H; exact H
               clear H
               have H := H1
               clear H1
               by_cases c24 : ((rd_T66 l0 x7_2).f1) = true
               ·rw [if_pos c24] at H
                have c24b0 : ((rd_T66 l0 x7_2).f1) = true := c24
                clear c24
                (first | rw [c24b0] | (simp only [i64_w, i32_w]; rw [c24b0]) | skip)
                by_cases c25 : x9_3 = 0
                ·rw [if_pos c25] at H
                 have c25b0 : (x9_3 == 0) = true := beq_iff_eq.mpr c25
                 have c25b1 : (x9_3 != 0) = false := bne_eq_false_iff_eq.mpr c25
                 clear c25
                 by_cases c26 : ((rd_T66 l0 x7_2).f2) = true
                 ·rw [if_pos c26] at H
                  have c26b0 : ((rd_T66 l0 x7_2).f2) = true := c26
                  clear c26
                  have H' := Aside0.mk H
                  clear H
                  have hcz27_0 : wr.cell? ⟨gb272, 0, none⟩ = some (.slice A271_0 ((rd_T66 l0 x7_2).f0).length c271_0) := (blk_cell BK272.out 0).trans rfl
                  have hcz27_1 : wr.cell? ⟨gb272, 1, none⟩ = some (.bool ((rd_T66 l0 x7_2).f1)) := (blk_cell BK272.out 1).trans rfl
                  have hcz27_2 : wr.cell? ⟨gb272, 2, none⟩ = some (.bool ((rd_T66 l0 x7_2).f2)) := (blk_cell BK272.out 2).trans rfl
                  have hcz27_3 : wr.cell? ⟨gb272, 3, none⟩ = some (.slice A271_3 ((rd_T66 l0 x7_2).f3).length c271_3) := (blk_cell BK272.out 3).trans rfl
                  have hfz27_0 := blk_frozen BK272.out 0
                  have hfz27_1 := blk_frozen BK272.out 1
                  have hfz27_2 := blk_frozen BK272.out 2
                  have hfz27_3 := blk_frozen BK272.out 3
                  go_wp2_with (first | ((with_reducible refine gate_callee (f := 34) rfl ?_); refine goesL_ (some 54) rfl rfl Tryd.func34 (by kernel_rfl) rfl #[.slice A271_0 ((rd_T66 l0 x7_2).f0).length c271_0, .slice Ao12 t265.length co12, .int .i64 x9_3] rfl (by (try simp only [List.map_toArray, List.map_cons, List.map_nil]); first | done | rfl | (simp only [List.length_drop, List.length_take]; rfl)) ?_; (with_reducible refine (colophonref21_fits.calls k3 _ _ ((rd_T66 l0 x7_2).f0) _ _ t265 x9_3 true _ ?side1 ?side2 ?side3 ?side4 A22.out).mono ?_); (case side1 => repeat (first | exact (Kd.C_below HR271_0.out HB.out) | (with_reducible refine Kd.C_alloc ?_ _) | (with_reducible refine Kd.C_drewN ?_ _) | (with_reducible refine Kd.C_drew ?_))); (case side2 => exact HC271_0.out); (case side3 => repeat (first | exact (Kd.R_reads' HO_5.out).2.2 | (with_reducible refine Kd.C_alloc ?_ _) | (with_reducible refine Kd.C_drewN ?_ _) | (with_reducible refine Kd.C_drew ?_))); (case side4 => exact (Kd.R_reads' HO_5.out).2.1); rintro e w' ⟨rfl, ⟨nd, rfl⟩⟩; refine ⟨_, rfl, ?_⟩))
                  go_meet
                  case rel => exact ⟨_, (((wrap64 (x9_3 + (((rd_T66 l0 x7_2).f0).length : Int))) != (t265.length : Int))), (by first | rfl | (simp; done) | (simp [*]; done)), H', ⟨by have := HJ2.out; have := HK2.out; have := HK3.out; first | omega | exact Nat.le_refl _⟩, ⟨by (with_reducible repeat (first | apply Kd.R_alloc | apply Kd.R_drewN | apply Kd.R_drew)); exact HO_5.out⟩, ⟨by (with_reducible repeat (first | apply Kd.R_alloc | apply Kd.R_drewN | apply Kd.R_drew)); exact HO_6.out⟩, ⟨by (with_reducible repeat (first | refine blk_drewN ?_ _ | refine blk_drew ?_ | refine blk_alloc ?_ _)); exact BK272.out⟩, ⟨by repeat (first | (with_reducible first | exact HB.out | apply below_alloc | apply pw_below_drewN | apply below_drew1 | refine below_set ?_ GE272.out) | exact HB.out)⟩⟩
                 ·rw [if_neg c26] at H
                  have c26b0 : ((rd_T66 l0 x7_2).f2) = false := by simpa using c26
                  clear c26
                  have H' := Aside0.mk H
                  clear H
                  have hcz28_0 : wr.cell? ⟨gb272, 0, none⟩ = some (.slice A271_0 ((rd_T66 l0 x7_2).f0).length c271_0) := (blk_cell BK272.out 0).trans rfl
                  have hcz28_1 : wr.cell? ⟨gb272, 1, none⟩ = some (.bool ((rd_T66 l0 x7_2).f1)) := (blk_cell BK272.out 1).trans rfl
                  have hcz28_2 : wr.cell? ⟨gb272, 2, none⟩ = some (.bool ((rd_T66 l0 x7_2).f2)) := (blk_cell BK272.out 2).trans rfl
                  have hcz28_3 : wr.cell? ⟨gb272, 3, none⟩ = some (.slice A271_3 ((rd_T66 l0 x7_2).f3).length c271_3) := (blk_cell BK272.out 3).trans rfl
                  have hfz28_0 := blk_frozen BK272.out 0
                  have hfz28_1 := blk_frozen BK272.out 1
                  have hfz28_2 := blk_frozen BK272.out 2
                  have hfz28_3 := blk_frozen BK272.out 3
                  go_wp2_with (first | ((with_reducible refine gate_callee (f := 34) rfl ?_); refine goesL_ (some 54) rfl rfl Tryd.func34 (by kernel_rfl) rfl #[.slice A271_0 ((rd_T66 l0 x7_2).f0).length c271_0, .slice Ao12 t265.length co12, .int .i64 x9_3] rfl (by (try simp only [List.map_toArray, List.map_cons, List.map_nil]); first | done | rfl | (simp only [List.length_drop, List.length_take]; rfl)) ?_; (with_reducible refine (colophonref21_fits.calls k3 _ _ ((rd_T66 l0 x7_2).f0) _ _ t265 x9_3 true _ ?side1 ?side2 ?side3 ?side4 A22.out).mono ?_); (case side1 => repeat (first | exact (Kd.C_below HR271_0.out HB.out) | (with_reducible refine Kd.C_alloc ?_ _) | (with_reducible refine Kd.C_drewN ?_ _) | (with_reducible refine Kd.C_drew ?_))); (case side2 => exact HC271_0.out); (case side3 => repeat (first | exact (Kd.R_reads' HO_5.out).2.2 | (with_reducible refine Kd.C_alloc ?_ _) | (with_reducible refine Kd.C_drewN ?_ _) | (with_reducible refine Kd.C_drew ?_))); (case side4 => exact (Kd.R_reads' HO_5.out).2.1); rintro e w' ⟨rfl, ⟨nd, rfl⟩⟩; refine ⟨_, rfl, ?_⟩))
                  go_meet
                  case rel => exact ⟨_, (false), (by first | rfl | (simp; done) | (simp [*]; done)), H', ⟨by have := HJ2.out; have := HK2.out; have := HK3.out; first | omega | exact Nat.le_refl _⟩, ⟨by (with_reducible repeat (first | apply Kd.R_alloc | apply Kd.R_drewN | apply Kd.R_drew)); exact HO_5.out⟩, ⟨by (with_reducible repeat (first | apply Kd.R_alloc | apply Kd.R_drewN | apply Kd.R_drew)); exact HO_6.out⟩, ⟨by (with_reducible repeat (first | refine blk_drewN ?_ _ | refine blk_drew ?_ | refine blk_alloc ?_ _)); exact BK272.out⟩, ⟨by repeat (first | (with_reducible first | exact HB.out | apply below_alloc | apply pw_below_drewN | apply below_drew1 | refine below_set ?_ GE272.out) | exact HB.out)⟩⟩
                ·rw [if_neg c25] at H
                 have c25b0 : (x9_3 == 0) = false := beq_eq_false_iff_ne.mpr c25
                 have c25b1 : (x9_3 != 0) = true := bne_iff_ne.mpr c25
                 have H' := Aside0.mk H
                 clear H
                 have hcz29_0 : wr.cell? ⟨gb272, 0, none⟩ = some (.slice A271_0 ((rd_T66 l0 x7_2).f0).length c271_0) := (blk_cell BK272.out 0).trans rfl
                 have hcz29_1 : wr.cell? ⟨gb272, 1, none⟩ = some (.bool ((rd_T66 l0 x7_2).f1)) := (blk_cell BK272.out 1).trans rfl
                 have hcz29_2 : wr.cell? ⟨gb272, 2, none⟩ = some (.bool ((rd_T66 l0 x7_2).f2)) := (blk_cell BK272.out 2).trans rfl
                 have hcz29_3 : wr.cell? ⟨gb272, 3, none⟩ = some (.slice A271_3 ((rd_T66 l0 x7_2).f3).length c271_3) := (blk_cell BK272.out 3).trans rfl
                 have hfz29_0 := blk_frozen BK272.out 0
                 have hfz29_1 := blk_frozen BK272.out 1
                 have hfz29_2 := blk_frozen BK272.out 2
                 have hfz29_3 := blk_frozen BK272.out 3
                 go_wp2_with (first | ((with_reducible refine gate_callee (f := 34) rfl ?_); refine goesL_ (some 54) rfl rfl Tryd.func34 (by kernel_rfl) rfl #[.slice A271_0 ((rd_T66 l0 x7_2).f0).length c271_0, .slice Ao12 t265.length co12, .int .i64 x9_3] rfl (by (try simp only [List.map_toArray, List.map_cons, List.map_nil]); first | done | rfl | (simp only [List.length_drop, List.length_take]; rfl)) ?_; (with_reducible refine (colophonref21_fits.calls k3 _ _ ((rd_T66 l0 x7_2).f0) _ _ t265 x9_3 true _ ?side1 ?side2 ?side3 ?side4 A22.out).mono ?_); (case side1 => repeat (first | exact (Kd.C_below HR271_0.out HB.out) | (with_reducible refine Kd.C_alloc ?_ _) | (with_reducible refine Kd.C_drewN ?_ _) | (with_reducible refine Kd.C_drew ?_))); (case side2 => exact HC271_0.out); (case side3 => repeat (first | exact (Kd.R_reads' HO_5.out).2.2 | (with_reducible refine Kd.C_alloc ?_ _) | (with_reducible refine Kd.C_drewN ?_ _) | (with_reducible refine Kd.C_drew ?_))); (case side4 => exact (Kd.R_reads' HO_5.out).2.1); rintro e w' ⟨rfl, ⟨nd, rfl⟩⟩; refine ⟨_, rfl, ?_⟩))
                 go_meet
                 case rel => exact ⟨_, (true), (by first | rfl | (simp; done) | (simp [*]; done)), H', ⟨by have := HJ2.out; have := HK2.out; have := HK3.out; first | omega | exact Nat.le_refl _⟩, ⟨by (with_reducible repeat (first | apply Kd.R_alloc | apply Kd.R_drewN | apply Kd.R_drew)); exact HO_5.out⟩, ⟨by (with_reducible repeat (first | apply Kd.R_alloc | apply Kd.R_drewN | apply Kd.R_drew)); exact HO_6.out⟩, ⟨by (with_reducible repeat (first | refine blk_drewN ?_ _ | refine blk_drew ?_ | refine blk_alloc ?_ _)); exact BK272.out⟩, ⟨by repeat (first | (with_reducible first | exact HB.out | apply below_alloc | apply pw_below_drewN | apply below_drew1 | refine below_set ?_ GE272.out) | exact HB.out)⟩⟩
               ·rw [if_neg c24] at H
                have c24b0 : ((rd_T66 l0 x7_2).f1) = false := by simpa using c24
                clear c24
                (first | rw [c24b0] | (simp only [i64_w, i32_w]; rw [c24b0]) | skip)
                by_cases c30 : ((rd_T66 l0 x7_2).f2) = true
                ·rw [if_pos c30] at H
                 have c30b0 : ((rd_T66 l0 x7_2).f2) = true := c30
                 clear c30
                 have H' := Aside0.mk H
                 clear H
                 have hcz31_0 : wr.cell? ⟨gb272, 0, none⟩ = some (.slice A271_0 ((rd_T66 l0 x7_2).f0).length c271_0) := (blk_cell BK272.out 0).trans rfl
                 have hcz31_1 : wr.cell? ⟨gb272, 1, none⟩ = some (.bool ((rd_T66 l0 x7_2).f1)) := (blk_cell BK272.out 1).trans rfl
                 have hcz31_2 : wr.cell? ⟨gb272, 2, none⟩ = some (.bool ((rd_T66 l0 x7_2).f2)) := (blk_cell BK272.out 2).trans rfl
                 have hcz31_3 : wr.cell? ⟨gb272, 3, none⟩ = some (.slice A271_3 ((rd_T66 l0 x7_2).f3).length c271_3) := (blk_cell BK272.out 3).trans rfl
                 have hfz31_0 := blk_frozen BK272.out 0
                 have hfz31_1 := blk_frozen BK272.out 1
                 have hfz31_2 := blk_frozen BK272.out 2
                 have hfz31_3 := blk_frozen BK272.out 3
                 go_wp2_with (first | ((with_reducible refine gate_callee (f := 34) rfl ?_); refine goesL_ (some 54) rfl rfl Tryd.func34 (by kernel_rfl) rfl #[.slice A271_0 ((rd_T66 l0 x7_2).f0).length c271_0, .slice Ao12 t265.length co12, .int .i64 x9_3] rfl (by (try simp only [List.map_toArray, List.map_cons, List.map_nil]); first | done | rfl | (simp only [List.length_drop, List.length_take]; rfl)) ?_; (with_reducible refine (colophonref21_fits.calls k3 _ _ ((rd_T66 l0 x7_2).f0) _ _ t265 x9_3 true _ ?side1 ?side2 ?side3 ?side4 A22.out).mono ?_); (case side1 => repeat (first | exact (Kd.C_below HR271_0.out HB.out) | (with_reducible refine Kd.C_alloc ?_ _) | (with_reducible refine Kd.C_drewN ?_ _) | (with_reducible refine Kd.C_drew ?_))); (case side2 => exact HC271_0.out); (case side3 => repeat (first | exact (Kd.R_reads' HO_5.out).2.2 | (with_reducible refine Kd.C_alloc ?_ _) | (with_reducible refine Kd.C_drewN ?_ _) | (with_reducible refine Kd.C_drew ?_))); (case side4 => exact (Kd.R_reads' HO_5.out).2.1); rintro e w' ⟨rfl, ⟨nd, rfl⟩⟩; refine ⟨_, rfl, ?_⟩))
                 go_meet
                 case rel => exact ⟨_, (((wrap64 (x9_3 + (((rd_T66 l0 x7_2).f0).length : Int))) != (t265.length : Int))), (by first | rfl | (simp; done) | (simp [*]; done)), H', ⟨by have := HJ2.out; have := HK2.out; have := HK3.out; first | omega | exact Nat.le_refl _⟩, ⟨by (with_reducible repeat (first | apply Kd.R_alloc | apply Kd.R_drewN | apply Kd.R_drew)); exact HO_5.out⟩, ⟨by (with_reducible repeat (first | apply Kd.R_alloc | apply Kd.R_drewN | apply Kd.R_drew)); exact HO_6.out⟩, ⟨by (with_reducible repeat (first | refine blk_drewN ?_ _ | refine blk_drew ?_ | refine blk_alloc ?_ _)); exact BK272.out⟩, ⟨by repeat (first | (with_reducible first | exact HB.out | apply below_alloc | apply pw_below_drewN | apply below_drew1 | refine below_set ?_ GE272.out) | exact HB.out)⟩⟩
                ·rw [if_neg c30] at H
                 have c30b0 : ((rd_T66 l0 x7_2).f2) = false := by simpa using c30
                 clear c30
                 have H' := Aside0.mk H
                 clear H
                 have hcz32_0 : wr.cell? ⟨gb272, 0, none⟩ = some (.slice A271_0 ((rd_T66 l0 x7_2).f0).length c271_0) := (blk_cell BK272.out 0).trans rfl
                 have hcz32_1 : wr.cell? ⟨gb272, 1, none⟩ = some (.bool ((rd_T66 l0 x7_2).f1)) := (blk_cell BK272.out 1).trans rfl
                 have hcz32_2 : wr.cell? ⟨gb272, 2, none⟩ = some (.bool ((rd_T66 l0 x7_2).f2)) := (blk_cell BK272.out 2).trans rfl
                 have hcz32_3 : wr.cell? ⟨gb272, 3, none⟩ = some (.slice A271_3 ((rd_T66 l0 x7_2).f3).length c271_3) := (blk_cell BK272.out 3).trans rfl
                 have hfz32_0 := blk_frozen BK272.out 0
                 have hfz32_1 := blk_frozen BK272.out 1
                 have hfz32_2 := blk_frozen BK272.out 2
                 have hfz32_3 := blk_frozen BK272.out 3
                 go_wp2_with (first | ((with_reducible refine gate_callee (f := 34) rfl ?_); refine goesL_ (some 54) rfl rfl Tryd.func34 (by kernel_rfl) rfl #[.slice A271_0 ((rd_T66 l0 x7_2).f0).length c271_0, .slice Ao12 t265.length co12, .int .i64 x9_3] rfl (by (try simp only [List.map_toArray, List.map_cons, List.map_nil]); first | done | rfl | (simp only [List.length_drop, List.length_take]; rfl)) ?_; (with_reducible refine (colophonref21_fits.calls k3 _ _ ((rd_T66 l0 x7_2).f0) _ _ t265 x9_3 true _ ?side1 ?side2 ?side3 ?side4 A22.out).mono ?_); (case side1 => repeat (first | exact (Kd.C_below HR271_0.out HB.out) | (with_reducible refine Kd.C_alloc ?_ _) | (with_reducible refine Kd.C_drewN ?_ _) | (with_reducible refine Kd.C_drew ?_))); (case side2 => exact HC271_0.out); (case side3 => repeat (first | exact (Kd.R_reads' HO_5.out).2.2 | (with_reducible refine Kd.C_alloc ?_ _) | (with_reducible refine Kd.C_drewN ?_ _) | (with_reducible refine Kd.C_drew ?_))); (case side4 => exact (Kd.R_reads' HO_5.out).2.1); rintro e w' ⟨rfl, ⟨nd, rfl⟩⟩; refine ⟨_, rfl, ?_⟩))
                 go_meet
                 case rel => exact ⟨_, (false), (by first | rfl | (simp; done) | (simp [*]; done)), H', ⟨by have := HJ2.out; have := HK2.out; have := HK3.out; first | omega | exact Nat.le_refl _⟩, ⟨by (with_reducible repeat (first | apply Kd.R_alloc | apply Kd.R_drewN | apply Kd.R_drew)); exact HO_5.out⟩, ⟨by (with_reducible repeat (first | apply Kd.R_alloc | apply Kd.R_drewN | apply Kd.R_drew)); exact HO_6.out⟩, ⟨by (with_reducible repeat (first | refine blk_drewN ?_ _ | refine blk_drew ?_ | refine blk_alloc ?_ _)); exact BK272.out⟩, ⟨by repeat (first | (with_reducible first | exact HB.out | apply below_alloc | apply pw_below_drewN | apply below_drew1 | refine below_set ?_ GE272.out) | exact HB.out)⟩⟩
              ·replace c23 := Bool.eq_false_iff.mpr c23
               subst c23
               have H1 : (colophonref21_Set_Levels.j3 k3 l0 t265 x6_3 x7_2 x9_3 true ((rd_T66 l0 x7_2).f0) ((rd_T66 l0 x7_2).f1) ((rd_T66 l0 x7_2).f2) ((rd_T66 l0 x7_2).f3)) = some r := by rw [if_neg (show ¬ (false = true) by decide)] at H; exact H
               clear H
               have H := H1
               clear H1
               have H' := Aside0.mk H
               clear H
               have hcz33_0 : wr.cell? ⟨gb272, 0, none⟩ = some (.slice A271_0 ((rd_T66 l0 x7_2).f0).length c271_0) := (blk_cell BK272.out 0).trans rfl
               have hcz33_1 : wr.cell? ⟨gb272, 1, none⟩ = some (.bool ((rd_T66 l0 x7_2).f1)) := (blk_cell BK272.out 1).trans rfl
               have hcz33_2 : wr.cell? ⟨gb272, 2, none⟩ = some (.bool ((rd_T66 l0 x7_2).f2)) := (blk_cell BK272.out 2).trans rfl
               have hcz33_3 : wr.cell? ⟨gb272, 3, none⟩ = some (.slice A271_3 ((rd_T66 l0 x7_2).f3).length c271_3) := (blk_cell BK272.out 3).trans rfl
               have hfz33_0 := blk_frozen BK272.out 0
               have hfz33_1 := blk_frozen BK272.out 1
               have hfz33_2 := blk_frozen BK272.out 2
               have hfz33_3 := blk_frozen BK272.out 3
               go_wp2_with (first | ((with_reducible refine gate_callee (f := 34) rfl ?_); refine goesL_ (some 54) rfl rfl Tryd.func34 (by kernel_rfl) rfl #[.slice A271_0 ((rd_T66 l0 x7_2).f0).length c271_0, .slice Ao12 t265.length co12, .int .i64 x9_3] rfl (by (try simp only [List.map_toArray, List.map_cons, List.map_nil]); first | done | rfl | (simp only [List.length_drop, List.length_take]; rfl)) ?_; (with_reducible refine (colophonref21_fits.calls k3 _ _ ((rd_T66 l0 x7_2).f0) _ _ t265 x9_3 false _ ?side1 ?side2 ?side3 ?side4 A22.out).mono ?_); (case side1 => repeat (first | exact (Kd.C_below HR271_0.out HB.out) | (with_reducible refine Kd.C_alloc ?_ _) | (with_reducible refine Kd.C_drewN ?_ _) | (with_reducible refine Kd.C_drew ?_))); (case side2 => exact HC271_0.out); (case side3 => repeat (first | exact (Kd.R_reads' HO_5.out).2.2 | (with_reducible refine Kd.C_alloc ?_ _) | (with_reducible refine Kd.C_drewN ?_ _) | (with_reducible refine Kd.C_drew ?_))); (case side4 => exact (Kd.R_reads' HO_5.out).2.1); rintro e w' ⟨rfl, ⟨nd, rfl⟩⟩; refine ⟨_, rfl, ?_⟩))
               go_meet
               case rel => exact ⟨_, (true), (by first | rfl | (simp; done) | (simp [*]; done)), H', ⟨by have := HJ2.out; have := HK2.out; have := HK3.out; first | omega | exact Nat.le_refl _⟩, ⟨by (with_reducible repeat (first | apply Kd.R_alloc | apply Kd.R_drewN | apply Kd.R_drew)); exact HO_5.out⟩, ⟨by (with_reducible repeat (first | apply Kd.R_alloc | apply Kd.R_drewN | apply Kd.R_drew)); exact HO_6.out⟩, ⟨by (with_reducible repeat (first | refine blk_drewN ?_ _ | refine blk_drew ?_ | refine blk_alloc ?_ _)); exact BK272.out⟩, ⟨by repeat (first | (with_reducible first | exact HB.out | apply below_alloc | apply pw_below_drewN | apply below_drew1 | refine below_set ?_ GE272.out) | exact HB.out)⟩⟩
             case rest =>
              clear HC20
              obtain ⟨kq, x77_19, rfl, HA, HJ19, HO_5, HO_6, BK272, HB⟩ := hcut
              have hs0 := HRB.out _ HB.out
              have hs1 := fun o => HRB.out _ (below_alloc HB.out o)
              cases kq with
              | zero => exact absurd HA.out (by simp [colophonref21_Set_Levels.j3])
              | succ kj19 =>
               have H := HA.out
               clear HA
               simp only [colophonref21_Set_Levels.j3] at H
               by_cases c34 : x77_19 = true
               ·subst c34
                have H1 : (colophonref21_Set_Levels.l1 kj19 l0 t265 x6_3 x7_2 (wrap64 (x9_3 + 1)) ((rd_T66 l0 x7_2).f0) ((rd_T66 l0 x7_2).f1) ((rd_T66 l0 x7_2).f2) ((rd_T66 l0 x7_2).f3)) = some r := by rw [if_pos rfl] at H; exact H
                clear H
                have H := H1
                clear H1
                have H' := Aside0.mk H
                clear H
                go_wp2
                go_roundg kj19
                case measure => have := HJ2.out; have := HK2.out; have := HK3.out; have := HJ19.out; omega
                case rel => exact ⟨(x6_3), (wrap64 (x9_3 + 1)), (by first | rfl | (simp; done) | (simp [*]; done)), H', ⟨by have := HJ2.out; have := HK2.out; have := HK3.out; have := HJ19.out; omega⟩, ⟨by (with_reducible repeat (first | apply Kd.R_alloc | apply Kd.R_drewN | apply Kd.R_drew)); exact HO_5.out⟩, ⟨by (with_reducible repeat (first | apply Kd.R_alloc | apply Kd.R_drewN | apply Kd.R_drew)); exact HO_6.out⟩, ⟨by (with_reducible repeat (first | refine blk_drewN ?_ _ | refine blk_drew ?_ | refine blk_alloc ?_ _)); exact BK272.out⟩, ⟨by repeat (first | (with_reducible first | exact HB.out | apply below_alloc | apply pw_below_drewN | apply below_drew1 | refine below_set ?_ GE272.out) | exact HB.out)⟩⟩
               ·replace c34 := Bool.eq_false_iff.mpr c34
                subst c34
                have H1 : (colophonref21_Set_Levels.l2 kj19 l0 t265 x6_3 x7_2 x9_3 0 ((rd_T66 l0 x7_2).f0) ((rd_T66 l0 x7_2).f1) ((rd_T66 l0 x7_2).f2) ((rd_T66 l0 x7_2).f3)) = some r := by rw [if_neg (show ¬ (false = true) by decide)] at H; exact H
                clear H
                have H := H1
                clear H1
                have H' := Aside0.mk H
                clear H
                go_wp2
                go_loopg [10] kj19 (fun kq v10 w' => ∃ (x6_5 : List Int) (x10_5 : Int), v10 = .int .i64 x10_5 ∧ Aside0 (colophonref21_Set_Levels.l2 kq l0 t265 x6_5 x7_2 x9_3 x10_5 ((rd_T66 l0 x7_2).f0) ((rd_T66 l0 x7_2).f1) ((rd_T66 l0 x7_2).f2) ((rd_T66 l0 x7_2).f3) = some r) ∧ Aside0 (kq ≤ kj19) ∧ Aside0 (Kd.R (Kd.int .i64) 3 w' w.heap.size (fun k_ => some k_ ≠ (v269 : Value).ownBlock) (.slice Ao12 t265.length co12) t265) ∧ Aside0 (Kd.R (Kd.int .i64) 3 w' w.heap.size (fun k_ => some k_ ≠ ((.slice Ao12 t265.length co12) : Value).ownBlock) v269 x6_5) ∧ Aside0 (w'.heap[gb272]? = some (.cells #[(.slice A271_0 ((rd_T66 l0 x7_2).f0).length c271_0), .bool ((rd_T66 l0 x7_2).f1), .bool ((rd_T66 l0 x7_2).f2), (.slice A271_3 ((rd_T66 l0 x7_2).f3).length c271_3)] 66 (0, 0))) ∧ Aside0 (Below w.heap.size w w'))
                case atStart => exact ⟨(x6_3), (0), (by first | rfl | (simp; done) | (simp [*]; done)), H', ⟨Nat.le_refl _⟩, ⟨by (with_reducible repeat (first | apply Kd.R_alloc | apply Kd.R_drewN | apply Kd.R_drew)); exact HO_5.out⟩, ⟨by (with_reducible repeat (first | apply Kd.R_alloc | apply Kd.R_drewN | apply Kd.R_drew)); exact HO_6.out⟩, ⟨by (with_reducible repeat (first | refine blk_drewN ?_ _ | refine blk_drew ?_ | refine blk_alloc ?_ _)); exact BK272.out⟩, ⟨by repeat (first | (with_reducible first | exact HB.out | apply below_alloc | apply pw_below_drewN | apply below_drew1 | refine below_set ?_ GE272.out) | exact HB.out)⟩⟩
                case round =>
                 clear H'
                 obtain ⟨x6_5, x10_5, rfl, HA, HK5, HO_5, HO_6, BK272, HB⟩ := hrel
                 have hs0 := HRB.out _ HB.out
                 have hs1 := fun o => HRB.out _ (below_alloc HB.out o)
                 cases gk with
                 | zero => exact absurd HA.out (by simp [colophonref21_Set_Levels.l2])
                 | succ k5 =>
                  have H := HA.out
                  clear HA
                  simp only [colophonref21_Set_Levels.l2] at H
                  by_cases c35 : x10_5 < (((rd_T66 l0 x7_2).f3).length : Int)
                  ·rw [if_pos c35] at H
                   have c35b0 : decide (x10_5 < (((rd_T66 l0 x7_2).f3).length : Int)) = true := decide_eq_true c35
                   clear c35
                   obtain ⟨ji36, hji36⟩ : ∃ j_ : Int, (wrap64 (x9_3 + x10_5)) = j_ := ⟨_, rfl⟩
                   replace H : (if 0 ≤ (ji36) then (if (ji36) < (x6_5.length : Int) then (if 0 ≤ x10_5 then (colophonref21_Set_Levels.l2 k5 l0 t265 (x6_5.set ((ji36) : Int).toNat (mx (rd x6_5 (ji36)) (rd ((rd_T66 l0 x7_2).f3) x10_5))) x7_2 x9_3 (wrap64 (x10_5 + 1)) ((rd_T66 l0 x7_2).f0) ((rd_T66 l0 x7_2).f1) ((rd_T66 l0 x7_2).f2) ((rd_T66 l0 x7_2).f3)) else (none)) else (none)) else (none)) = some r := by first | (rw [hji36] at H; exact H) | (simp only [hji36] at H ⊢; exact H)
                   have hji36w : (IntKind.i64.wrap (x9_3 + x10_5)) = ji36 := (i64_w _).trans hji36
                   by_cases c37 : 0 ≤ (ji36)
                   ·rw [if_pos c37] at H
                    have c37b0 : decide (0 ≤ (ji36)) = true := decide_eq_true c37
                    clear c37
                    by_cases c38 : (ji36) < (x6_5.length : Int)
                    ·rw [if_pos c38] at H
                     have c38b0 : decide ((ji36) < (x6_5.length : Int)) = true := decide_eq_true c38
                     clear c38
                     by_cases c39 : 0 ≤ x10_5
                     ·rw [if_pos c39] at H
                      have c39b0 : decide (0 ≤ x10_5) = true := decide_eq_true c39
                      clear c39
                      obtain ⟨ji40, hji40⟩ : ∃ j_ : Int, (mx (rd x6_5 (ji36)) (rd ((rd_T66 l0 x7_2).f3) x10_5)) = j_ := ⟨_, rfl⟩
                      replace H : (colophonref21_Set_Levels.l2 k5 l0 t265 (x6_5.set ((ji36) : Int).toNat (ji40)) x7_2 x9_3 (wrap64 (x10_5 + 1)) ((rd_T66 l0 x7_2).f0) ((rd_T66 l0 x7_2).f1) ((rd_T66 l0 x7_2).f2) ((rd_T66 l0 x7_2).f3)) = some r := by first | (rw [hji40] at H; exact H) | (simp only [hji40] at H ⊢; exact H)
                      have hji40_ : (if (rd x6_5 (ji36)) < (rd ((rd_T66 l0 x7_2).f3) x10_5) then (rd ((rd_T66 l0 x7_2).f3) x10_5) else (rd x6_5 (ji36))) = ji40 := hji40
                      obtain ⟨y276, hy276⟩ : ∃ y_ : List Int, y_ = (x6_5.set ((ji36) : Int).toNat (ji40)) := ⟨_, rfl⟩
                      replace H : (colophonref21_Set_Levels.l2 k5 l0 t265 y276 x7_2 x9_3 (wrap64 (x10_5 + 1)) ((rd_T66 l0 x7_2).f0) ((rd_T66 l0 x7_2).f1) ((rd_T66 l0 x7_2).f2) ((rd_T66 l0 x7_2).f3)) = some r := by first | (rw [hy276]; with_reducible exact H) | (have H2_ := (Option.bind_some _ _).symm.trans H; rw [hy276]; with_reducible exact H2_) | (have H2_ := (Option.bind_some _ _).symm.trans H; with_reducible exact H2_) | with_reducible exact H | (rw [hy276]; exact H) | exact H
                      have Ny276 := Aside0.mk hy276
                      clear hy276
                      have H' := Aside0.mk H
                      clear H
                      have hcz42_0 : wr.cell? ⟨gb272, 0, none⟩ = some (.slice A271_0 ((rd_T66 l0 x7_2).f0).length c271_0) := (blk_cell BK272.out 0).trans rfl
                      have hcz42_1 : wr.cell? ⟨gb272, 1, none⟩ = some (.bool ((rd_T66 l0 x7_2).f1)) := (blk_cell BK272.out 1).trans rfl
                      have hcz42_2 : wr.cell? ⟨gb272, 2, none⟩ = some (.bool ((rd_T66 l0 x7_2).f2)) := (blk_cell BK272.out 2).trans rfl
                      have hcz42_3 : wr.cell? ⟨gb272, 3, none⟩ = some (.slice A271_3 ((rd_T66 l0 x7_2).f3).length c271_3) := (blk_cell BK272.out 3).trans rfl
                      have hfz42_0 := blk_frozen BK272.out 0
                      have hfz42_1 := blk_frozen BK272.out 1
                      have hfz42_2 := blk_frozen BK272.out 2
                      have hfz42_3 := blk_frozen BK272.out 3
                      try go_wp2
                      have n0_ := Aside0.mk (Kd.R_drew HO_5.out)
                      have n1_ := Aside0.mk (Kd.R_drew HO_6.out)
                      have n2_ := Aside0.mk (blk_drew BK272.out)
                      have n3_ := Aside0.mk (below_drew1 HB.out)
                      clear HO_5
                      clear HO_6
                      clear BK272
                      clear HB
                      have HO_5 := n0_
                      have HO_6 := n1_
                      have BK272 := n2_
                      have HB := n3_
                      have hs0 := HRB.out _ HB.out
                      have hs1 := fun o => HRB.out _ (below_alloc HB.out o)
                      clear n0_ n1_ n2_ n3_
                      obtain ⟨Ao44, co44, eo44⟩ := Kd.R_slice HO_6.out
                      (first | subst eo44 | (injection eo44 with f1_ f2_ f3_; have f4_ := f1_.symm; have f5_ := f3_.symm; clear f1_ f2_ f3_; subst f4_; subst f5_))
                      have p274 : 0 ≤ ((ji36) : Int) := of_decide_eq_true (by first | (with_reducible assumption) | assumption)
                      have q274 : (ji36) < (x6_5.length : Int) := of_decide_eq_true (by first | (with_reducible assumption) | assumption)
                      obtain ⟨ad274, e274, hx274_0⟩ := Kd.at_int (Kd.R_reads' HO_6.out).2.2 (ji36) p274 q274
                      cases e274
                      replace p274 := eq_true p274
                      replace q274 := eq_true q274
                      have p275 : 0 ≤ (x10_5 : Int) := of_decide_eq_true (by first | (with_reducible assumption) | assumption)
                      have q275 : x10_5 < (((rd_T66 l0 x7_2).f3).length : Int) := of_decide_eq_true (by first | (with_reducible assumption) | assumption)
                      obtain ⟨ad275, e275, hx275_0⟩ := Kd.at_int HR271_3.out x10_5 p275 q275
                      have hw275_0 := hx275_0
                      cases e275
                      replace hx275_0 := (HB.out.cell (World.block_lt_of_cell? w _ hx275_0)).trans hx275_0
                      replace p275 := eq_true p275
                      replace q275 := eq_true q275
                      have p41 : 0 ≤ ((ji36) : Int) := of_decide_eq_true (by first | (with_reducible assumption) | assumption)
                      have q41 : ((ji36) : Int) < ((x6_5.length : Int) : Int) := of_decide_eq_true (by first | (with_reducible assumption) | assumption)
                      obtain ⟨go41, co41, eo41, gb41, gl41, cl41, HG41⟩ := Kd.R_form HO_6.out (by omega)
                      (first | cases eo41 | (injection eo41 with ea_ en_ ec_; (first | subst ea_ | (injection ea_ with ea_; subst ea_)); subst ec_; clear en_))
                      have GB41 := Aside0.mk gb41
                      have GG41 := Aside0.mk HG41
                      clear gb41 gl41 HG41
                      (first | simp only [add_plain] at hx274_0 | skip)
                      obtain ⟨hx41_0, hf41_0⟩ := Kd.R_celln 0 HO_6.out ((ji36) : Int) p41 q41
                      replace p41 := eq_true p41
                      replace q41 := eq_true q41
                      have HP45 := Kd.R_putn HO_6.out ((ji36) : Int) ji40
                      rw [← Ny276.out] at HP45
                      have HQ45 := Aside0.mk HP45
                      clear HP45
                      refine start_ (n := 18) (S := fun w' => w'.cell? ⟨gb272, 0, none⟩ = some (.slice A271_0 ((rd_T66 l0 x7_2).f0).length c271_0) ∧ w'.cell? ⟨gb272, 1, none⟩ = some (.bool ((rd_T66 l0 x7_2).f1)) ∧ w'.cell? ⟨gb272, 2, none⟩ = some (.bool ((rd_T66 l0 x7_2).f2)) ∧ w'.cell? ⟨gb272, 3, none⟩ = some (.slice (some ad275) ((rd_T66 l0 x7_2).f3).length c271_3) ∧ w'.cell? ⟨go41, ((ji36)).toNat, none⟩ = some (.int .i64 (rd x6_5 (ji36))) ∧ w'.cell? (ad275.add (x10_5).toNat) = some (.int .i64 (rd ((rd_T66 l0 x7_2).f3) x10_5))) (ds := [17]) #[false, false, false, false, false, false, false, false, false, false, false, false, false, false, false, false, false, false] (by kernel_rfl) rfl rfl ⟨(blk_cell BK272.out 0).trans rfl, (blk_cell BK272.out 1).trans rfl, (blk_cell BK272.out 2).trans rfl, (blk_cell BK272.out 3).trans rfl, hx274_0, ((HB.out.cell (World.block_lt_of_cell? w _ hw275_0)).trans hw275_0)⟩ (fun hHeld => ?_); refine with_tabW colophonref21_Set_Levels.tab16 colophonref21_Set_Levels.bits16 (fun HT_ HW_ => ?_)
                      generalize wr.drew = w43 at HO_5 HO_6 BK272 HB GG41 HQ45 hf41_0 hx274_0 hx275_0 hx41_0 hHeld ⊢
                      refine pure_ (i := 0) (N := some 85) (v := ?_) (a' := ?_) #[true, false, false, false, false, false, false, false, false, false, false, false, false, false, false, false, false, false] rfl rfl (any_of HT_.out (by kernel_rfl)) (fun _ _ _ h => h) (Or.inl ⟨by rfl, ?_⟩) ?_ ?_
                      rotate_left
                      ·intro w'
                       go_simp
                       with_reducible rfl
                      rotate_left
                      ·simp only [Act.put, List.setIfInBounds_toArray, List.set_cons_zero, List.set_cons_succ, i64_w, i32_w]
                       rfl
                      refine pure_ (i := 1) (N := some 86) (v := ?_) (a' := ?_) #[true, true, false, false, false, false, false, false, false, false, false, false, false, false, false, false, false, false] rfl rfl (any_of HT_.out (by kernel_rfl)) (fun _ _ _ h => h) (Or.inl ⟨by rfl, ?_⟩) ?_ ?_
                      rotate_left
                      ·intro w'
                       go_simp
                       with_reducible rfl
                      rotate_left
                      ·simp only [Act.put, List.setIfInBounds_toArray, List.set_cons_zero, List.set_cons_succ, i64_w, i32_w]
                       rfl
                      refine pure_ (i := 2) (N := some 87) (v := ?_) (a' := ?_) #[true, true, true, false, false, false, false, false, false, false, false, false, false, false, false, false, false, false] rfl rfl (any_of HT_.out (by kernel_rfl)) (fun _ _ _ h => h) (Or.inl ⟨by rfl, ?_⟩) ?_ ?_
                      rotate_left
                      ·intro w'
                       go_simp
                       with_reducible rfl
                      rotate_left
                      ·simp only [Act.put, List.setIfInBounds_toArray, List.set_cons_zero, List.set_cons_succ, i64_w, i32_w]
                       rfl
                      refine pure_ (i := 3) (N := some 88) (v := ?_) (a' := ?_) #[true, true, true, true, false, false, false, false, false, false, false, false, false, false, false, false, false, false] rfl rfl (any_of HT_.out (by kernel_rfl)) (fun _ _ _ h => h) (Or.inl ⟨by rfl, ?_⟩) ?_ ?_
                      rotate_left
                      ·intro w'
                       go_simp
                       with_reducible rfl
                      rotate_left
                      ·simp only [Act.put, List.setIfInBounds_toArray, List.set_cons_zero, List.set_cons_succ, i64_w, i32_w]
                       rfl
                      refine pure_ (i := 4) (N := some 89) (v := ?_) (a' := ?_) #[true, true, true, true, true, false, false, false, false, false, false, false, false, false, false, false, false, false] rfl rfl (any_of HT_.out (by kernel_rfl)) (fun _ _ _ h => h) (Or.inl ⟨by rfl, ?_⟩) ?_ ?_
                      rotate_left
                      ·intro w'
                       go_simp
                       with_reducible rfl
                      rotate_left
                      ·simp only [Act.put, List.setIfInBounds_toArray, List.set_cons_zero, List.set_cons_succ, i64_w, i32_w]
                       rfl
                      refine pure_ (i := 5) (N := some 90) (v := ?_) (a' := ?_) #[true, true, true, true, true, true, false, false, false, false, false, false, false, false, false, false, false, false] rfl rfl (any_of HT_.out (by kernel_rfl)) (fun _ _ _ h => h) (Or.inl ⟨by rfl, ?_⟩) ?_ ?_
                      rotate_left
                      ·intro w'
                       go_simp
                       with_reducible rfl
                      rotate_left
                      ·simp only [Act.put, List.setIfInBounds_toArray, List.set_cons_zero, List.set_cons_succ, i64_w, i32_w]
                       rfl
                      refine pure_ (i := 6) (N := some 91) (v := ?_) (a' := ?_) #[true, true, true, true, true, true, true, false, false, false, false, false, false, false, false, false, false, false] rfl rfl (any_of HT_.out (by kernel_rfl)) (fun _ _ _ h => h) (Or.inl ⟨by rfl, ?_⟩) ?_ ?_
                      rotate_left
                      ·intro w'
                       go_simp
                       with_reducible rfl
                      rotate_left
                      ·simp only [Act.put, List.setIfInBounds_toArray, List.set_cons_zero, List.set_cons_succ, i64_w, i32_w]
                       rfl
                      refine pure_ (i := 7) (N := some 92) (v := ?_) (a' := ?_) #[true, true, true, true, true, true, true, true, false, false, false, false, false, false, false, false, false, false] rfl rfl (any_of HT_.out (by kernel_rfl)) (fun _ _ _ h => h) (Or.inl ⟨by rfl, ?_⟩) ?_ ?_
                      rotate_left
                      ·intro w'
                       go_simp
                       with_reducible rfl
                      rotate_left
                      ·simp only [Act.put, List.setIfInBounds_toArray, List.set_cons_zero, List.set_cons_succ, i64_w, i32_w]
                       rfl
                      refine pure_ (i := 8) (N := some 93) (v := ?_) (a' := ?_) #[true, true, true, true, true, true, true, true, true, false, false, false, false, false, false, false, false, false] rfl rfl (any_of HT_.out (by kernel_rfl)) (fun _ _ _ h => h) (Or.inl ⟨by rfl, ?_⟩) ?_ ?_
                      rotate_left
                      ·intro w'
                       go_simp
                       with_reducible rfl
                      rotate_left
                      ·simp only [Act.put, List.setIfInBounds_toArray, List.set_cons_zero, List.set_cons_succ, i64_w, i32_w]
                       rfl
                      refine pure_ (i := 10) (N := some 95) (v := ?_) (a' := ?_) #[true, true, true, true, true, true, true, true, true, false, true, false, false, false, false, false, false, false] rfl rfl (any_of HT_.out (by kernel_rfl)) (fun _ _ _ h => h) (Or.inl ⟨by rfl, ?_⟩) ?_ ?_
                      rotate_left
                      ·intro w'
                       go_simp
                       with_reducible rfl
                      rotate_left
                      ·simp only [Act.put, List.setIfInBounds_toArray, List.set_cons_zero, List.set_cons_succ, i64_w, i32_w]
                       rfl
                      refine pure_ (i := 12) (N := some 97) (v := ?_) (a' := ?_) #[true, true, true, true, true, true, true, true, true, false, true, false, true, false, false, false, false, false] rfl rfl (any_of HT_.out (by kernel_rfl)) (fun _ _ _ h => h) (Or.inl ⟨by rfl, ?_⟩) ?_ ?_
                      rotate_left
                      ·intro w'
                       go_simp
                       with_reducible rfl
                      rotate_left
                      ·simp only [Act.put, List.setIfInBounds_toArray, List.set_cons_zero, List.set_cons_succ, i64_w, i32_w]
                       rfl
                      refine take_ (i := 9) (N := some 94) (v := ?_) (a' := ?_) #[true, true, true, true, true, true, true, true, true, true, true, false, true, false, false, false, false, false] rfl rfl (take_ofW HT_.out HW_.out (by kernel_rfl)) (fun _ _ _ h => h) (Or.inl ⟨by rfl, ?_⟩) hHeld ?_ ?_
                      rotate_left
                      ·rintro w' ⟨s0, s1, s2, s3, s4, s5⟩
                       go_simp
                       with_reducible rfl
                      rotate_left
                      ·simp only [Act.put, List.setIfInBounds_toArray, List.set_cons_zero, List.set_cons_succ, i64_w, i32_w]
                       rfl
                      refine take_ (i := 11) (N := some 96) (v := ?_) (a' := ?_) #[true, true, true, true, true, true, true, true, true, true, true, true, true, false, false, false, false, false] rfl rfl (take_ofW HT_.out HW_.out (by kernel_rfl)) (fun _ _ _ h => h) (Or.inl ⟨by rfl, ?_⟩) hHeld ?_ ?_
                      rotate_left
                      ·rintro w' ⟨s0, s1, s2, s3, s4, s5⟩
                       go_simp
                       with_reducible rfl
                      rotate_left
                      ·simp only [Act.put, List.setIfInBounds_toArray, List.set_cons_zero, List.set_cons_succ, i64_w, i32_w]
                       rfl
                      refine pure_ (i := 13) (N := some 98) (v := ?_) (a' := ?_) #[true, true, true, true, true, true, true, true, true, true, true, true, true, true, false, false, false, false] rfl rfl (any_of HT_.out (by kernel_rfl)) (fun _ _ _ h => h) (Or.inl ⟨by rfl, ?_⟩) ?_ ?_
                      rotate_left
                      ·intro w'
                       go_simp
                       with_reducible rfl
                      rotate_left
                      ·simp only [Act.put, List.setIfInBounds_toArray, List.set_cons_zero, List.set_cons_succ, i64_w, i32_w]
                       rfl
                      refine take_ (i := 14) (N := some 99) (v := ?_) (a' := ?_) #[true, true, true, true, true, true, true, true, true, true, true, true, true, true, true, false, false, false] rfl rfl (take_ofW HT_.out HW_.out (by kernel_rfl)) (fun _ _ _ h => h) (Or.inl ⟨by rfl, ?_⟩) hHeld ?_ ?_
                      rotate_left
                      ·rintro w' ⟨s0, s1, s2, s3, s4, s5⟩
                       go_simp
                       with_reducible rfl
                      rotate_left
                      ·simp only [Act.put, List.setIfInBounds_toArray, List.set_cons_zero, List.set_cons_succ, i64_w, i32_w]
                       rfl
                      refine pure_ (i := 15) (N := some 100) (v := ?_) (a' := ?_) #[true, true, true, true, true, true, true, true, true, true, true, true, true, true, true, true, false, false] rfl rfl (any_of HT_.out (by kernel_rfl)) (fun _ _ _ h => h) (Or.inl ⟨by rfl, ?_⟩) ?_ ?_
                      rotate_left
                      ·intro w'
                       go_simp
                       with_reducible rfl
                      rotate_left
                      ·simp only [Act.put, List.setIfInBounds_toArray, List.set_cons_zero, List.set_cons_succ, i64_w, i32_w]
                       rfl
                      refine pure_ (i := 16) (N := some 101) (v := ?_) (a' := ?_) #[true, true, true, true, true, true, true, true, true, true, true, true, true, true, true, true, true, false] rfl rfl (any_of HT_.out (by kernel_rfl)) (fun _ _ _ h => h) (Or.inl ⟨by rfl, ?_⟩) ?_ ?_
                      rotate_left
                      ·intro w'
                       go_simp
                       with_reducible rfl
                      rotate_left
                      ·simp only [Act.put, List.setIfInBounds_toArray, List.set_cons_zero, List.set_cons_succ, i64_w, i32_w]
                       rfl
                      refine last_ (i := 17) (N := none) #[true, true, true, true, true, true, true, true, true, true, true, true, true, true, true, true, true, true] rfl rfl (one_of HT_.out (by kernel_rfl)) (by decide) (fun K hK => ?_)
                      refine skip_ (w1 := ?_) (by rfl) rfl ?_ ?_
                      rotate_left
                      ·go_simp
                       rfl
                      refine hK.out _ _ ?_
                      clear hK K
                      refine done_ (done_of HT_.out (by kernel_rfl)) ?_
                      try go_wp2
                      go_roundg k5
                      case measure => have := HJ2.out; have := HK2.out; have := HK3.out; have := HJ19.out; have := HK5.out; omega
                      case rel => exact ⟨(y276), (wrap64 (x10_5 + 1)), (by first | rfl | (simp; done) | (simp [*]; done)), H', ⟨by have := HJ2.out; have := HK2.out; have := HK3.out; have := HJ19.out; have := HK5.out; omega⟩, ⟨by (with_reducible repeat (first | apply Kd.R_alloc | apply Kd.R_drewN | apply Kd.R_drew)); exact Kd.R_mono (Kd.R_far (p := ⟨go41, ((ji36) : Int).toNat, none⟩) (Kd.R_mono HO_5.out (fun k_ hk => (⟨hk, fun e_ => hk (by rw [e_]; rfl)⟩ : _ ∧ k_ ≠ go41))) (fun _ hk => hk.2) (.int .i64 ji40)) (fun _ hk => hk.1)⟩, ⟨by (with_reducible repeat (first | apply Kd.R_alloc | apply Kd.R_drewN | apply Kd.R_drew)); exact HQ45.out⟩, ⟨by (with_reducible repeat (first | refine blk_drewN ?_ _ | refine blk_drew ?_ | refine blk_alloc ?_ _)); refine blk_far ?_ (by have h_ := Kd.R_ne HO_6.out BK272.out (by decide); intro e_; exact h_ (by rw [e_]; rfl)) _; (with_reducible repeat (first | refine blk_drewN ?_ _ | refine blk_drew ?_ | refine blk_alloc ?_ _)); exact BK272.out⟩, ⟨by repeat (first | (with_reducible first | exact HB.out | apply below_alloc | apply pw_below_drewN | apply below_drew1 | refine below_set ?_ GB41.out | refine below_set ?_ GE272.out) | exact HB.out)⟩⟩
                     ·rw [if_neg c39] at H
                      exact absurd H (by simp)
                    ·rw [if_neg c38] at H
                     exact absurd H (by simp)
                   ·rw [if_neg c37] at H
                    exact absurd H (by simp)
                  ·rw [if_neg c35] at H
                   have c35b0 : decide (x10_5 < (((rd_T66 l0 x7_2).f3).length : Int)) = false := decide_eq_false c35
                   clear c35
                   have H' := Aside0.mk H
                   clear H
                   have hcz46_0 : wr.cell? ⟨gb272, 0, none⟩ = some (.slice A271_0 ((rd_T66 l0 x7_2).f0).length c271_0) := (blk_cell BK272.out 0).trans rfl
                   have hcz46_1 : wr.cell? ⟨gb272, 1, none⟩ = some (.bool ((rd_T66 l0 x7_2).f1)) := (blk_cell BK272.out 1).trans rfl
                   have hcz46_2 : wr.cell? ⟨gb272, 2, none⟩ = some (.bool ((rd_T66 l0 x7_2).f2)) := (blk_cell BK272.out 2).trans rfl
                   have hcz46_3 : wr.cell? ⟨gb272, 3, none⟩ = some (.slice A271_3 ((rd_T66 l0 x7_2).f3).length c271_3) := (blk_cell BK272.out 3).trans rfl
                   have hfz46_0 := blk_frozen BK272.out 0
                   have hfz46_1 := blk_frozen BK272.out 1
                   have hfz46_2 := blk_frozen BK272.out 2
                   have hfz46_3 := blk_frozen BK272.out 3
                   go_wp2
                   go_roundg k5
                   case measure => have := HJ2.out; have := HK2.out; have := HK3.out; have := HJ19.out; have := HK5.out; omega
                   case rel => exact ⟨(x6_5), (wrap64 (x9_3 + 1)), (by first | rfl | (simp; done) | (simp [*]; done)), H', ⟨by have := HJ2.out; have := HK2.out; have := HK3.out; have := HJ19.out; have := HK5.out; omega⟩, ⟨by (with_reducible repeat (first | apply Kd.R_alloc | apply Kd.R_drewN | apply Kd.R_drew)); exact HO_5.out⟩, ⟨by (with_reducible repeat (first | apply Kd.R_alloc | apply Kd.R_drewN | apply Kd.R_drew)); exact HO_6.out⟩, ⟨by (with_reducible repeat (first | refine blk_drewN ?_ _ | refine blk_drew ?_ | refine blk_alloc ?_ _)); exact BK272.out⟩, ⟨by repeat (first | (with_reducible first | exact HB.out | apply below_alloc | apply pw_below_drewN | apply below_drew1 | refine below_set ?_ GE272.out) | exact HB.out)⟩⟩
            ·rw [if_neg c19] at H
             have c19b0 : decide ((wrap64 (x9_3 + (((rd_T66 l0 x7_2).f0).length : Int))) ≤ (t265.length : Int)) = false := decide_eq_false c19
             clear c19
             have H' := Aside0.mk H
             clear H
             have hcz47_0 : wr.cell? ⟨gb272, 0, none⟩ = some (.slice A271_0 ((rd_T66 l0 x7_2).f0).length c271_0) := (blk_cell BK272.out 0).trans rfl
             have hcz47_1 : wr.cell? ⟨gb272, 1, none⟩ = some (.bool ((rd_T66 l0 x7_2).f1)) := (blk_cell BK272.out 1).trans rfl
             have hcz47_2 : wr.cell? ⟨gb272, 2, none⟩ = some (.bool ((rd_T66 l0 x7_2).f2)) := (blk_cell BK272.out 2).trans rfl
             have hcz47_3 : wr.cell? ⟨gb272, 3, none⟩ = some (.slice A271_3 ((rd_T66 l0 x7_2).f3).length c271_3) := (blk_cell BK272.out 3).trans rfl
             have hfz47_0 := blk_frozen BK272.out 0
             have hfz47_1 := blk_frozen BK272.out 1
             have hfz47_2 := blk_frozen BK272.out 2
             have hfz47_3 := blk_frozen BK272.out 3
             go_wp2
             go_roundg k3
             case measure => have := HJ2.out; have := HK2.out; have := HK3.out; omega
             case rel => exact ⟨(x6_3), (wrap64 (x7_2 + 1)), (by first | rfl | (simp; done) | (simp [*]; done)), H', ⟨by have := HJ2.out; have := HK2.out; have := HK3.out; omega⟩, ⟨by (with_reducible repeat (first | apply Kd.R_alloc | apply Kd.R_drewN | apply Kd.R_drew)); exact HO_5.out⟩, ⟨by (with_reducible repeat (first | apply Kd.R_alloc | apply Kd.R_drewN | apply Kd.R_drew)); exact HO_6.out⟩, ⟨by repeat (first | (with_reducible first | exact HB.out | apply below_alloc | apply pw_below_drewN | apply below_drew1 | refine below_set ?_ GE272.out) | exact HB.out)⟩⟩
         ·rw [if_neg c16] at H
          exact absurd H (by simp)
        ·rw [if_neg c15] at H
         have c15b0 : decide (x7_2 < (l0.length : Int)) = false := decide_eq_false c15
         clear c15
         obtain rfl := Option.some.inj H
         go_wp2
         go_ret
         exact ⟨_, by first | rfl | (simp [errW_none, errW_some] <;> rfl) | (simp only [← hji8]; first | rfl | (simp [errW_none, errW_some] <;> rfl)) | (simp [*, errW_none, errW_some] <;> rfl), by (with_reducible repeat (first | apply Kd.R_alloc | apply Kd.R_drewN | apply Kd.R_drew)); exact Kd.R_mono HO_6.out (fun _ hk => trivial), by repeat (first | (with_reducible first | exact HB.out | apply below_alloc | apply pw_below_drewN | apply below_drew1) | exact HB.out)⟩
     ·rw [if_neg c10] at H
      exact absurd H (by simp)
    ·rw [if_neg c9] at H
     exact absurd H (by simp)
end Go.Proofs.YtenhfmlkdcfbbaaDoor.PHyphenPoints
