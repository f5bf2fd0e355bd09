-- Written by a copy of the print that this session has turned (wip/tools/patchprint.py): arrays as records.
import Derived.Test.YtpembifnjlekdaaPStyleAllx0
import Derived.Test.YtpembifnjlekdaaPStyleAllx11
namespace Go.Proofs.Ytpembifnjlekdaa.PStyleAll
open Go.RowKit Go.Proofs.YtpembifnjlekdaaW.PrintWords Go.Proofs.YtpembifnjlekdaaW.PrintLast Go.Proofs.YtpembifnjlekdaaW.PrintMore
attribute [local go_sem] max2_int min2_int max_two min_two max_three min_three max_four min_four   -- for this text's walks alone
set_option linter.unusedVariables false
set_option linter.unusedSimpArgs false

/-! ### colophonref20_Facts: function 25 -/
mutual
def colophonref20_Facts.l0 : Nat → ByteArray → Int → Int → ByteArray → ByteArray → List ByteArray → Option (ByteArray × ByteArray × List ByteArray)
  | 0, _, _, _, _, _, _ => none
  | k + 1, x4, x6, x7, x257000, x257001, x257002 => if x7 ≤ (x4.size : Int) then (if x7 = (x4.size : Int) then (colophonref20_Facts.j1 k x4 x6 x7 true x257000 x257001 x257002) else (if 0 ≤ x7 then (if x7 < (x4.size : Int) then (colophonref20_Facts.j1 k x4 x6 x7 ((bt x4 x7) == 32) x257000 x257001 x257002) else (none)) else (none))) else (some (x257000, x257001, x257002))
def colophonref20_Facts.j1 : Nat → ByteArray → Int → Int → Bool → ByteArray → ByteArray → List ByteArray → Option (ByteArray × ByteArray × List ByteArray)
  | 0, _, _, _, _, _, _, _ => none
  | k + 1, x4, x6, x7, x37, x257000, x257001, x257002 => if x37 = true then (if x7 > x6 then (if 0 ≤ x6 then (if x6 ≤ x7 then (if x7 ≤ (x4.size : Int) then (if x257002.length < 8796093022208 then (colophonref20_Facts.l0 k x4 (wrap64 (x7 + 1)) (wrap64 (x7 + 1)) x257000 x257001 (x257002 ++ [x4.extract (x6 : Int).toNat (x7 : Int).toNat])) else (none)) else (none)) else (none)) else (none)) else (colophonref20_Facts.l0 k x4 (wrap64 (x7 + 1)) (wrap64 (x7 + 1)) x257000 x257001 x257002)) else (colophonref20_Facts.l0 k x4 x6 (wrap64 (x7 + 1)) x257000 x257001 x257002)
end
def colophonref20_Facts.f (k : Nat) (a0_0 : ByteArray) (a0_1 : ByteArray) (l0_2 : List (S82)) (l0_3 : List (S52)) (a0_4 : Int) : Option (ByteArray × ByteArray × List ByteArray) := (colophonref18_Attr.f k a0_0 a0_1 l0_2 l0_3 a0_4 (⟨#[105, 100]⟩ : ByteArray)).bind fun bt257 => ((colophonref18_Attr.f k a0_0 a0_1 l0_2 l0_3 a0_4 (⟨#[99, 108, 97, 115, 115]⟩ : ByteArray)).bind fun bt259 => (colophonref20_Facts.l0 k bt259.1 0 0 a0_0 bt257.1 ([] : List ByteArray)))
theorem colophonref20_Facts.mono_l : ∀ k, (∀ y0 y1 y2 y3 y4 y5, LeO (colophonref20_Facts.l0 k y0 y1 y2 y3 y4 y5) (colophonref20_Facts.l0 (k + 1) y0 y1 y2 y3 y4 y5)) ∧ (∀ y0 y1 y2 y3 y4 y5 y6, LeO (colophonref20_Facts.j1 k y0 y1 y2 y3 y4 y5 y6) (colophonref20_Facts.j1 (k + 1) y0 y1 y2 y3 y4 y5 y6))
  | 0 => ⟨fun _ _ _ _ _ _ r h => by simp [colophonref20_Facts.l0] at h, fun _ _ _ _ _ _ _ r h => by simp [colophonref20_Facts.j1] at h⟩
  | k + 1 => by
    obtain ⟨ih0, ih1⟩ := colophonref20_Facts.mono_l k
    refine ⟨?_, ?_⟩
    · intro y0 y1 y2 y3 y4 y5
      unfold colophonref20_Facts.l0
      repeat' first
      | (with_reducible exact ih0 _ _ _ _ _ _)
      | (with_reducible exact ih1 _ _ _ _ _ _ _)
      | (with_reducible exact colophonref18_Attr.mono _ _ _ _ _ _ _)
      | (with_reducible exact LeO.refl _)
      | (with_reducible exact LeO.none _)
      | (with_reducible refine LeO.ite ?_ ?_)
      | (with_reducible refine LeO.bind ?_ (fun _ => ?_))
      | exact ih0 _ _ _ _ _ _
      | exact ih1 _ _ _ _ _ _ _
      | exact colophonref18_Attr.mono _ _ _ _ _ _ _
      | exact LeO.none _
      | refine LeO.ite ?_ ?_
      | refine LeO.bind ?_ (fun _ => ?_)
    · intro y0 y1 y2 y3 y4 y5 y6
      unfold colophonref20_Facts.j1
      repeat' first
      | (with_reducible exact ih0 _ _ _ _ _ _)
      | (with_reducible exact ih1 _ _ _ _ _ _ _)
      | (with_reducible exact colophonref18_Attr.mono _ _ _ _ _ _ _)
      | (with_reducible exact LeO.refl _)
      | (with_reducible exact LeO.none _)
      | (with_reducible refine LeO.ite ?_ ?_)
      | (with_reducible refine LeO.bind ?_ (fun _ => ?_))
      | exact ih0 _ _ _ _ _ _
      | exact ih1 _ _ _ _ _ _ _
      | exact colophonref18_Attr.mono _ _ _ _ _ _ _
      | exact LeO.none _
      | refine LeO.ite ?_ ?_
      | refine LeO.bind ?_ (fun _ => ?_)
theorem colophonref20_Facts.mono : ∀ a0 a1 a2 a3 a4 k, LeO (colophonref20_Facts.f k a0 a1 a2 a3 a4) (colophonref20_Facts.f (k + 1) a0 a1 a2 a3 a4) := by
  intro a0 a1 a2 a3 a4 k
  obtain ⟨ih0, ih1⟩ := colophonref20_Facts.mono_l k
  unfold colophonref20_Facts.f
  repeat' first
      | (with_reducible exact ih0 _ _ _ _ _ _)
      | (with_reducible exact ih1 _ _ _ _ _ _ _)
      | (with_reducible exact colophonref18_Attr.mono _ _ _ _ _ _ _)
      | (with_reducible exact LeO.refl _)
      | (with_reducible exact LeO.none _)
      | (with_reducible refine LeO.ite ?_ ?_)
      | (with_reducible refine LeO.bind ?_ (fun _ => ?_))
      | exact ih0 _ _ _ _ _ _
      | exact ih1 _ _ _ _ _ _ _
      | exact colophonref18_Attr.mono _ _ _ _ _ _ _
      | exact LeO.none _
      | refine LeO.ite ?_ ?_
      | refine LeO.bind ?_ (fun _ => ?_)
def colophonref20_Facts.T10 : Bool × List (List Nat × List Nat) := (true, [([], []), ([0], [0]), ([], []), ([], []), ([], []), ([2, 3, 4], [2, 3, 4]), ([5], [5]), ([1, 6], [1, 6]), ([0, 1, 2, 3, 4, 5, 6, 7], []), ([8, 7, 7, 0, 1, 2, 3, 4, 5, 6, 7], [7, 8])])
def colophonref20_Facts.B10 : List Nat := [0, 1, 0, 0, 0, 28, 60, 127, 255, 511]
theorem colophonref20_Facts.tab10 : rtab .any (opsOf Try.f25 10) = colophonref20_Facts.T10 := by kernel_rfl
theorem colophonref20_Facts.bits10 : waitsOk colophonref20_Facts.T10.2 colophonref20_Facts.B10 = true := by kernel_rfl
set_option maxHeartbeats 8000000 in
set_option maxRecDepth 100000 in
theorem colophonref20_Facts.calls (k : Nat) (a0_0 : ByteArray) (a0_1 : ByteArray) (A0_2 : Option Addr) (c0_2 : Nat) (l0_2 : List (S82)) (A0_3 : Option Addr) (c0_3 : Nat) (l0_3 : List (S52)) (a0_4 : Int) (r1 : ByteArray) (r2 : ByteArray) (r3 : List ByteArray) (w : World) (hr0_2 : Kd.C k82 w A0_2 l0_2.length l0_2) (hc0_2 : l0_2.length ≤ c0_2) (hr0_3 : Kd.C k52 w A0_3 l0_3.length l0_3) (hc0_3 : l0_3.length ≤ c0_3) (h : colophonref20_Facts.f k a0_0 a0_1 l0_2 l0_3 a0_4 = some (r1, r2, r3)) :
    Calls Try.prog 25 #[.agg #[.string a0_0, .string a0_1, .slice A0_2 l0_2.length c0_2, .slice A0_3 l0_3.length c0_3, .int .i64 a0_4]] w fun e w' => ∃ v2_ : Value, e = .returned (.agg #[.string r1, .string r2, v2_]) ∧ Kd.R Kd.string 9 w' w.heap.size (fun _ => True) v2_ r3 ∧ Below w.heap.size w w' := by
  have hu52 := Try.underlying52
  have hu56 := Try.underlying56
  have HR0_2 := Aside0.mk hr0_2
  have HC0_2 := Aside0.mk hc0_2
  clear hr0_2 hc0_2
  have HR0_3 := Aside0.mk hr0_3
  have HC0_3 := Aside0.mk hc0_3
  clear hr0_3 hc0_3
  have HB := Aside0.mk (Below.refl w.heap.size w)
  have H : ((colophonref18_Attr.f k a0_0 a0_1 l0_2 l0_3 a0_4 (⟨#[105, 100]⟩ : ByteArray)).bind fun bt257 => ((colophonref18_Attr.f k a0_0 a0_1 l0_2 l0_3 a0_4 (⟨#[99, 108, 97, 115, 115]⟩ : ByteArray)).bind fun bt259 => (colophonref20_Facts.l0 k bt259.1 0 0 a0_0 bt257.1 ([] : List ByteArray)))) = some (r1, r2, r3) := h
  clear h
  replace H := Option.bind_eq_some_iff.mp H
  obtain ⟨⟨t257, t258⟩, A20, H⟩ := H
  replace H : ((colophonref18_Attr.f k a0_0 a0_1 l0_2 l0_3 a0_4 (⟨#[99, 108, 97, 115, 115]⟩ : ByteArray)).bind fun bt259 => (colophonref20_Facts.l0 k bt259.1 0 0 a0_0 t257 ([] : List ByteArray))) = some (r1, r2, r3) := H
  have A2 := Aside0.mk A20
  clear A20
  replace H := Option.bind_eq_some_iff.mp H
  obtain ⟨⟨t259, t260⟩, A30, H⟩ := H
  replace H : (colophonref20_Facts.l0 k t259 0 0 a0_0 t257 ([] : List ByteArray)) = some (r1, r2, r3) := H
  have A3 := Aside0.mk A30
  clear A30
  have H' := Aside0.mk H
  clear H
  go_enter Try.func25, Try.ntmps25
  go_wp2_with (first | ((with_reducible refine gate_dst (N := 1) rfl ?_); refine box_event ?hg (N := 1) ?hd (cs := #[.string a0_0, .string a0_1, .slice A0_2 l0_2.length c0_2, .slice A0_3 l0_3.length c0_3, .int .i64 a0_4]) (t := 52) ?hr ?_; (case hd => rfl); (case hg => rfl); (case hr => first | (go_simp; done) | (go_simp; rfl)); intro gb254 hg w4 hbox hb; have n0_ := Aside0.mk (below_step (by repeat (first | (with_reducible first | exact HB.out | apply below_alloc | apply pw_below_drewN | apply below_drew1) | exact HB.out)) hb); have n1_ := Aside0.mk (hbox); have n2_ := Aside0.mk ((by rw [hg]; exact (below_size (by repeat (first | (with_reducible first | exact HB.out | apply below_alloc | apply pw_below_drewN | apply below_drew1) | exact HB.out))) : w.heap.size ≤ gb254)); have n3_ := Aside0.mk ((by rw [hg]; exact (below_size (by repeat (first | (with_reducible first | exact HB.out | apply below_alloc | apply pw_below_drewN | apply below_drew1) | exact HB.out))) : w.heap.size ≤ gb254)); clear HB; have HB := n0_; have BK254 := n1_; have GW254 := n2_; have GE254 := n3_; clear n0_ n1_ n2_ n3_; clear hb hbox hg) | ((with_reducible refine gate_dst (N := 2) rfl ?_); refine box_event ?hg (N := 2) ?hd (cs := #[.string (⟨#[]⟩ : ByteArray), .string (⟨#[]⟩ : ByteArray), .slice none 0 0]) (t := 56) ?hr ?_; (case hd => rfl); (case hg => rfl); (case hr => first | (go_simp; done) | (go_simp; rfl)); intro gb255 hg w5 hbox hb; have n0_ := Aside0.mk (blk_below (g := gb254) (o := .cells #[.string a0_0, .string a0_1, .slice A0_2 l0_2.length c0_2, .slice A0_3 l0_3.length c0_3, .int .i64 a0_4] 52 (0, 0)) (by (with_reducible repeat (first | refine blk_drewN ?_ _ | refine blk_drew ?_ | refine blk_alloc ?_ _)); exact BK254.out) hb); have n1_ := Aside0.mk (below_step (by repeat (first | (with_reducible first | exact HB.out | apply below_alloc | apply pw_below_drewN | apply below_drew1 | refine below_set ?_ GE254.out) | exact HB.out)) hb); have n2_ := Aside0.mk (hbox); have n3_ := Aside0.mk ((by rw [hg]; exact (below_size (by repeat (first | (with_reducible first | exact HB.out | apply below_alloc | apply pw_below_drewN | apply below_drew1 | refine below_set ?_ GE254.out) | exact HB.out))) : w.heap.size ≤ gb255)); have n4_ := Aside0.mk ((by rw [hg]; exact (below_size (by repeat (first | (with_reducible first | exact HB.out | apply below_alloc | apply pw_below_drewN | apply below_drew1 | refine below_set ?_ GE254.out) | exact HB.out))) : w.heap.size ≤ gb255)); have n5_ := Aside0.mk ((by rw [hg]; exact Nat.ne_of_lt (blk_lt (g := gb254) (o := .cells #[.string a0_0, .string a0_1, .slice A0_2 l0_2.length c0_2, .slice A0_3 l0_3.length c0_3, .int .i64 a0_4] 52 (0, 0)) (by (with_reducible repeat (first | refine blk_drewN ?_ _ | refine blk_drew ?_ | refine blk_alloc ?_ _)); exact BK254.out)) : gb254 ≠ gb255)); have n6_ := Aside0.mk ((by rw [hg]; exact Nat.ne_of_gt (blk_lt (g := gb254) (o := .cells #[.string a0_0, .string a0_1, .slice A0_2 l0_2.length c0_2, .slice A0_3 l0_3.length c0_3, .int .i64 a0_4] 52 (0, 0)) (by (with_reducible repeat (first | refine blk_drewN ?_ _ | refine blk_drew ?_ | refine blk_alloc ?_ _)); exact BK254.out)) : gb255 ≠ gb254)); clear BK254; clear HB; have BK254 := n0_; have HB := n1_; have BK255 := n2_; have GW255 := n3_; have GE255 := n4_; have NB254_255 := n5_; have NB255_254 := n6_; clear n0_ n1_ n2_ n3_ n4_ n5_ n6_; clear hb hbox hg; have hnb6 := NB254_255.out; have hnc6 := NB255_254.out; have hcz7_0 : w5.cell? ⟨gb254, 0, none⟩ = some (.string a0_0) := (blk_cell BK254.out 0).trans rfl; have hcz7_1 : w5.cell? ⟨gb254, 1, none⟩ = some (.string a0_1) := (blk_cell BK254.out 1).trans rfl; have hcz7_2 : w5.cell? ⟨gb254, 2, none⟩ = some (.slice A0_2 l0_2.length c0_2) := (blk_cell BK254.out 2).trans rfl; have hcz7_3 : w5.cell? ⟨gb254, 3, none⟩ = some (.slice A0_3 l0_3.length c0_3) := (blk_cell BK254.out 3).trans rfl; have hcz7_4 : w5.cell? ⟨gb254, 4, none⟩ = some (.int .i64 a0_4) := (blk_cell BK254.out 4).trans rfl; have hfz7_0 := blk_frozen BK254.out 0; have hfz7_1 := blk_frozen BK254.out 1; have hfz7_2 := blk_frozen BK254.out 2; have hfz7_3 := blk_frozen BK254.out 3; have hfz7_4 := blk_frozen BK254.out 4) | ((with_reducible refine gate_dst (N := 3) rfl ?_); refine box_event ?hg (N := 3) ?hd (cs := #[.string (⟨#[]⟩ : ByteArray), .string (⟨#[]⟩ : ByteArray), .slice none 0 0]) (t := 56) ?hr ?_; (case hd => rfl); (case hg => rfl); (case hr => first | (go_simp; done) | (go_simp; rfl)); intro gb256 hg w8 hbox hb; have n0_ := Aside0.mk (blk_below (g := gb254) (o := .cells #[.string a0_0, .string a0_1, .slice A0_2 l0_2.length c0_2, .slice A0_3 l0_3.length c0_3, .int .i64 a0_4] 52 (0, 0)) (by (with_reducible repeat (first | refine blk_drewN ?_ _ | refine blk_drew ?_ | refine blk_alloc ?_ _)); exact BK254.out) hb); have n1_ := Aside0.mk (blk_below (g := gb255) (o := .cells #[.string (⟨#[]⟩ : ByteArray), .string (⟨#[]⟩ : ByteArray), .slice none 0 0] 56 (0, 0)) (by (with_reducible repeat (first | refine blk_drewN ?_ _ | refine blk_drew ?_ | refine blk_alloc ?_ _)); exact BK255.out) hb); have n2_ := Aside0.mk (below_step (by repeat (first | (with_reducible first | exact HB.out | apply below_alloc | apply pw_below_drewN | apply below_drew1 | refine below_set ?_ GE254.out | refine below_set ?_ GE255.out) | exact HB.out)) hb); have n3_ := Aside0.mk (hbox); have n4_ := Aside0.mk ((by rw [hg]; exact (below_size (by repeat (first | (with_reducible first | exact HB.out | apply below_alloc | apply pw_below_drewN | apply below_drew1 | refine below_set ?_ GE254.out | refine below_set ?_ GE255.out) | exact HB.out))) : w.heap.size ≤ gb256)); have n5_ := Aside0.mk ((by rw [hg]; exact (below_size (by repeat (first | (with_reducible first | exact HB.out | apply below_alloc | apply pw_below_drewN | apply below_drew1 | refine below_set ?_ GE254.out | refine below_set ?_ GE255.out) | exact HB.out))) : w.heap.size ≤ gb256)); have n6_ := Aside0.mk ((by rw [hg]; exact Nat.ne_of_lt (blk_lt (g := gb254) (o := .cells #[.string a0_0, .string a0_1, .slice A0_2 l0_2.length c0_2, .slice A0_3 l0_3.length c0_3, .int .i64 a0_4] 52 (0, 0)) (by (with_reducible repeat (first | refine blk_drewN ?_ _ | refine blk_drew ?_ | refine blk_alloc ?_ _)); exact BK254.out)) : gb254 ≠ gb256)); have n7_ := Aside0.mk ((by rw [hg]; exact Nat.ne_of_gt (blk_lt (g := gb254) (o := .cells #[.string a0_0, .string a0_1, .slice A0_2 l0_2.length c0_2, .slice A0_3 l0_3.length c0_3, .int .i64 a0_4] 52 (0, 0)) (by (with_reducible repeat (first | refine blk_drewN ?_ _ | refine blk_drew ?_ | refine blk_alloc ?_ _)); exact BK254.out)) : gb256 ≠ gb254)); have n8_ := Aside0.mk ((by rw [hg]; exact Nat.ne_of_lt (blk_lt (g := gb255) (o := .cells #[.string (⟨#[]⟩ : ByteArray), .string (⟨#[]⟩ : ByteArray), .slice none 0 0] 56 (0, 0)) (by (with_reducible repeat (first | refine blk_drewN ?_ _ | refine blk_drew ?_ | refine blk_alloc ?_ _)); exact BK255.out)) : gb255 ≠ gb256)); have n9_ := Aside0.mk ((by rw [hg]; exact Nat.ne_of_gt (blk_lt (g := gb255) (o := .cells #[.string (⟨#[]⟩ : ByteArray), .string (⟨#[]⟩ : ByteArray), .slice none 0 0] 56 (0, 0)) (by (with_reducible repeat (first | refine blk_drewN ?_ _ | refine blk_drew ?_ | refine blk_alloc ?_ _)); exact BK255.out)) : gb256 ≠ gb255)); clear BK254; clear BK255; clear HB; have BK254 := n0_; have BK255 := n1_; have HB := n2_; have BK256 := n3_; have GW256 := n4_; have GE256 := n5_; have NB254_256 := n6_; have NB256_254 := n7_; have NB255_256 := n8_; have NB256_255 := n9_; clear n0_ n1_ n2_ n3_ n4_ n5_ n6_ n7_ n8_ n9_; clear hb hbox hg; have hnb9 := NB256_254.out; have hnc9 := NB254_256.out; have hnb10 := NB256_255.out; have hnc10 := NB255_256.out; have hcz11_0 : w8.cell? ⟨gb256, 0, none⟩ = some (.string (⟨#[]⟩ : ByteArray)) := (blk_cell BK256.out 0).trans rfl; have hcz11_1 : w8.cell? ⟨gb256, 1, none⟩ = some (.string (⟨#[]⟩ : ByteArray)) := (blk_cell BK256.out 1).trans rfl; have hcz11_2 : w8.cell? ⟨gb256, 2, none⟩ = some (.slice none 0 0) := (blk_cell BK256.out 2).trans rfl; have hfz11_0 := blk_frozen BK256.out 0; have hfz11_1 := blk_frozen BK256.out 1; have hfz11_2 := blk_frozen BK256.out 2; have hcz12_0 : w8.cell? ⟨gb254, 0, none⟩ = some (.string a0_0) := (blk_cell BK254.out 0).trans rfl; have hcz12_1 : w8.cell? ⟨gb254, 1, none⟩ = some (.string a0_1) := (blk_cell BK254.out 1).trans rfl; have hcz12_2 : w8.cell? ⟨gb254, 2, none⟩ = some (.slice A0_2 l0_2.length c0_2) := (blk_cell BK254.out 2).trans rfl; have hcz12_3 : w8.cell? ⟨gb254, 3, none⟩ = some (.slice A0_3 l0_3.length c0_3) := (blk_cell BK254.out 3).trans rfl; have hcz12_4 : w8.cell? ⟨gb254, 4, none⟩ = some (.int .i64 a0_4) := (blk_cell BK254.out 4).trans rfl; have hfz12_0 := blk_frozen BK254.out 0; have hfz12_1 := blk_frozen BK254.out 1; have hfz12_2 := blk_frozen BK254.out 2; have hfz12_3 := blk_frozen BK254.out 3; have hfz12_4 := blk_frozen BK254.out 4) | ((with_reducible refine gate_callee (f := 45) rfl ?_); refine goesL_ (some 13) rfl rfl Try.func45 (by kernel_rfl) rfl #[.agg #[.string a0_0, .string a0_1, .slice A0_2 l0_2.length c0_2, .slice A0_3 l0_3.length c0_3, .int .i64 a0_4], .string (⟨#[105, 100]⟩ : ByteArray)] rfl (by (try simp only [List.map_toArray, List.map_cons, List.map_nil]); first | done | rfl | (simp only [List.length_drop, List.length_take]; rfl)) ?_; (with_reducible refine (colophonref18_Attr.calls k a0_0 a0_1 _ _ l0_2 _ _ l0_3 a0_4 (⟨#[105, 100]⟩ : ByteArray) t257 t258 _ ?side1 ?side2 ?side3 ?side4 A2.out).mono ?_); (case side1 => exact Kd.C_below HR0_2.out (by repeat (first | (with_reducible first | exact HB.out | apply below_alloc | apply pw_below_drewN | apply below_drew1 | refine below_set ?_ GE254.out | refine below_set ?_ GE255.out | refine below_set ?_ GE256.out) | exact HB.out))); (case side2 => exact HC0_2.out); (case side3 => exact Kd.C_below HR0_3.out (by repeat (first | (with_reducible first | exact HB.out | apply below_alloc | apply pw_below_drewN | apply below_drew1 | refine below_set ?_ GE254.out | refine below_set ?_ GE255.out | refine below_set ?_ GE256.out) | exact HB.out))); (case side4 => exact HC0_3.out); rintro e w13 ⟨rfl, hb⟩; refine ⟨_, rfl, ?_⟩; have n0_ := Aside0.mk (blk_below (g := gb254) (o := .cells #[.string a0_0, .string a0_1, .slice A0_2 l0_2.length c0_2, .slice A0_3 l0_3.length c0_3, .int .i64 a0_4] 52 (0, 0)) (by (with_reducible repeat (first | refine blk_drewN ?_ _ | refine blk_drew ?_ | refine blk_alloc ?_ _)); refine blk_far ?_ NB254_256.out _; (with_reducible repeat (first | refine blk_drewN ?_ _ | refine blk_drew ?_ | refine blk_alloc ?_ _)); refine blk_far ?_ NB254_256.out _; (with_reducible repeat (first | refine blk_drewN ?_ _ | refine blk_drew ?_ | refine blk_alloc ?_ _)); refine blk_far ?_ NB254_256.out _; (with_reducible repeat (first | refine blk_drewN ?_ _ | refine blk_drew ?_ | refine blk_alloc ?_ _)); exact BK254.out) hb); have n1_ := Aside0.mk (blk_below (g := gb255) (o := .cells #[.string (⟨#[]⟩ : ByteArray), .string (⟨#[]⟩ : ByteArray), .slice none 0 0] 56 (0, 0)) (by (with_reducible repeat (first | refine blk_drewN ?_ _ | refine blk_drew ?_ | refine blk_alloc ?_ _)); refine blk_far ?_ NB255_256.out _; (with_reducible repeat (first | refine blk_drewN ?_ _ | refine blk_drew ?_ | refine blk_alloc ?_ _)); refine blk_far ?_ NB255_256.out _; (with_reducible repeat (first | refine blk_drewN ?_ _ | refine blk_drew ?_ | refine blk_alloc ?_ _)); refine blk_far ?_ NB255_256.out _; (with_reducible repeat (first | refine blk_drewN ?_ _ | refine blk_drew ?_ | refine blk_alloc ?_ _)); exact BK255.out) hb); have n2_ := Aside0.mk (blk_below (g := gb256) (o := .cells #[.string a0_0, .string (⟨#[]⟩ : ByteArray), .slice none 0 0] 56 (0, 0)) (by (with_reducible repeat (first | refine blk_drewN ?_ _ | refine blk_drew ?_ | refine blk_alloc ?_ _)); refine blk_put (cs := #[.string a0_0, .string (⟨#[]⟩ : ByteArray), .slice none 0 0]) ?_ 2 _ rfl; (with_reducible repeat (first | refine blk_drewN ?_ _ | refine blk_drew ?_ | refine blk_alloc ?_ _)); refine blk_put (cs := #[.string a0_0, .string (⟨#[]⟩ : ByteArray), .slice none 0 0]) ?_ 1 _ rfl; (with_reducible repeat (first | refine blk_drewN ?_ _ | refine blk_drew ?_ | refine blk_alloc ?_ _)); refine blk_put (cs := #[.string (⟨#[]⟩ : ByteArray), .string (⟨#[]⟩ : ByteArray), .slice none 0 0]) ?_ 0 _ rfl; (with_reducible repeat (first | refine blk_drewN ?_ _ | refine blk_drew ?_ | refine blk_alloc ?_ _)); exact BK256.out) hb); have n3_ := Aside0.mk (below_step (by repeat (first | (with_reducible first | exact HB.out | apply below_alloc | apply pw_below_drewN | apply below_drew1 | refine below_set ?_ GE254.out | refine below_set ?_ GE255.out | refine below_set ?_ GE256.out) | exact HB.out)) hb); clear BK254; clear BK255; clear BK256; clear HB; have BK254 := n0_; have BK255 := n1_; have BK256 := n2_; have HB := n3_; clear n0_ n1_ n2_ n3_; (try clear hb); (try clear hb2); (try clear hk); (try clear hi); have hcz14_0 : w13.cell? ⟨gb256, 0, none⟩ = some (.string a0_0) := (blk_cell BK256.out 0).trans rfl; have hcz14_1 : w13.cell? ⟨gb256, 1, none⟩ = some (.string (⟨#[]⟩ : ByteArray)) := (blk_cell BK256.out 1).trans rfl; have hcz14_2 : w13.cell? ⟨gb256, 2, none⟩ = some (.slice none 0 0) := (blk_cell BK256.out 2).trans rfl; have hfz14_0 := blk_frozen BK256.out 0; have hfz14_1 := blk_frozen BK256.out 1; have hfz14_2 := blk_frozen BK256.out 2; have hcz15_0 : w13.cell? ⟨gb254, 0, none⟩ = some (.string a0_0) := (blk_cell BK254.out 0).trans rfl; have hcz15_1 : w13.cell? ⟨gb254, 1, none⟩ = some (.string a0_1) := (blk_cell BK254.out 1).trans rfl; have hcz15_2 : w13.cell? ⟨gb254, 2, none⟩ = some (.slice A0_2 l0_2.length c0_2) := (blk_cell BK254.out 2).trans rfl; have hcz15_3 : w13.cell? ⟨gb254, 3, none⟩ = some (.slice A0_3 l0_3.length c0_3) := (blk_cell BK254.out 3).trans rfl; have hcz15_4 : w13.cell? ⟨gb254, 4, none⟩ = some (.int .i64 a0_4) := (blk_cell BK254.out 4).trans rfl; have hfz15_0 := blk_frozen BK254.out 0; have hfz15_1 := blk_frozen BK254.out 1; have hfz15_2 := blk_frozen BK254.out 2; have hfz15_3 := blk_frozen BK254.out 3; have hfz15_4 := blk_frozen BK254.out 4) | ((with_reducible refine gate_callee (f := 45) rfl ?_); refine goesL_ (some 19) rfl rfl Try.func45 (by kernel_rfl) rfl #[.agg #[.string a0_0, .string a0_1, .slice A0_2 l0_2.length c0_2, .slice A0_3 l0_3.length c0_3, .int .i64 a0_4], .string (⟨#[99, 108, 97, 115, 115]⟩ : ByteArray)] rfl (by (try simp only [List.map_toArray, List.map_cons, List.map_nil]); first | done | rfl | (simp only [List.length_drop, List.length_take]; rfl)) ?_; (with_reducible refine (colophonref18_Attr.calls k a0_0 a0_1 _ _ l0_2 _ _ l0_3 a0_4 (⟨#[99, 108, 97, 115, 115]⟩ : ByteArray) t259 t260 _ ?side1 ?side2 ?side3 ?side4 A3.out).mono ?_); (case side1 => exact Kd.C_below HR0_2.out (by repeat (first | (with_reducible first | exact HB.out | apply below_alloc | apply pw_below_drewN | apply below_drew1 | refine below_set ?_ GE254.out | refine below_set ?_ GE255.out | refine below_set ?_ GE256.out) | exact HB.out))); (case side2 => exact HC0_2.out); (case side3 => exact Kd.C_below HR0_3.out (by repeat (first | (with_reducible first | exact HB.out | apply below_alloc | apply pw_below_drewN | apply below_drew1 | refine below_set ?_ GE254.out | refine below_set ?_ GE255.out | refine below_set ?_ GE256.out) | exact HB.out))); (case side4 => exact HC0_3.out); rintro e w16 ⟨rfl, hb⟩; refine ⟨_, rfl, ?_⟩; have n0_ := Aside0.mk (blk_below (g := gb254) (o := .cells #[.string a0_0, .string a0_1, .slice A0_2 l0_2.length c0_2, .slice A0_3 l0_3.length c0_3, .int .i64 a0_4] 52 (0, 0)) (by (with_reducible repeat (first | refine blk_drewN ?_ _ | refine blk_drew ?_ | refine blk_alloc ?_ _)); refine blk_far ?_ NB254_256.out _; (with_reducible repeat (first | refine blk_drewN ?_ _ | refine blk_drew ?_ | refine blk_alloc ?_ _)); exact BK254.out) hb); have n1_ := Aside0.mk (blk_below (g := gb255) (o := .cells #[.string (⟨#[]⟩ : ByteArray), .string (⟨#[]⟩ : ByteArray), .slice none 0 0] 56 (0, 0)) (by (with_reducible repeat (first | refine blk_drewN ?_ _ | refine blk_drew ?_ | refine blk_alloc ?_ _)); refine blk_far ?_ NB255_256.out _; (with_reducible repeat (first | refine blk_drewN ?_ _ | refine blk_drew ?_ | refine blk_alloc ?_ _)); exact BK255.out) hb); have n2_ := Aside0.mk (blk_below (g := gb256) (o := .cells #[.string a0_0, .string t257, .slice none 0 0] 56 (0, 0)) (by (with_reducible repeat (first | refine blk_drewN ?_ _ | refine blk_drew ?_ | refine blk_alloc ?_ _)); refine blk_put (cs := #[.string a0_0, .string (⟨#[]⟩ : ByteArray), .slice none 0 0]) ?_ 1 _ rfl; (with_reducible repeat (first | refine blk_drewN ?_ _ | refine blk_drew ?_ | refine blk_alloc ?_ _)); exact BK256.out) hb); have n3_ := Aside0.mk (below_step (by repeat (first | (with_reducible first | exact HB.out | apply below_alloc | apply pw_below_drewN | apply below_drew1 | refine below_set ?_ GE254.out | refine below_set ?_ GE255.out | refine below_set ?_ GE256.out) | exact HB.out)) hb); clear BK254; clear BK255; clear BK256; clear HB; have BK254 := n0_; have BK255 := n1_; have BK256 := n2_; have HB := n3_; clear n0_ n1_ n2_ n3_; (try clear hb); (try clear hb2); (try clear hk); (try clear hi)))
  go_loopg [6, 7] k (fun kq v6 v7 w' => ∃ (x6_1 : Int) (x7_1 : Int) (x257002_1 : List ByteArray) (u257002 : Value), v6 = .int .i64 x6_1 ∧ v7 = .int .i64 x7_1 ∧ Aside0 (colophonref20_Facts.l0 kq t259 x6_1 x7_1 a0_0 t257 x257002_1 = some (r1, r2, r3)) ∧ Aside0 (kq ≤ k) ∧ Aside0 (Kd.R Kd.string 9 w' w.heap.size (fun _ => True) u257002 x257002_1) ∧ Aside0 (w'.heap[gb254]? = some (.cells #[.string a0_0, .string a0_1, (.slice A0_2 l0_2.length c0_2), (.slice A0_3 l0_3.length c0_3), .int .i64 a0_4] 52 (0, 0))) ∧ Aside0 (w'.heap[gb255]? = some (.cells #[.string (⟨#[]⟩ : ByteArray), .string (⟨#[]⟩ : ByteArray), (.slice none 0 0)] 56 (0, 0))) ∧ Aside0 (w'.heap[gb256]? = some (.cells #[.string a0_0, .string t257, u257002] 56 (0, 0))) ∧ Aside0 (Below w.heap.size w w'))
  case atStart => exact ⟨(0), (0), (([] : List ByteArray)), (.slice none 0 0), (by first | rfl | (simp; done) | (simp [*]; done)), (by first | rfl | (simp; done) | (simp [*]; done)), H', ⟨Nat.le_refl _⟩, ⟨by first | exact Kd.R_nil _ _ _ _ _ | exact Kd.N_nil _ _ _ _ _ | exact Kd.V_nil _ _ _ _ _ | exact Kd.Q_nil _ _ _ _ _ | exact Kd.S_nil _ _ _ _ _⟩, ⟨by (with_reducible repeat (first | refine blk_drewN ?_ _ | refine blk_drew ?_ | refine blk_alloc ?_ _)); exact BK254.out⟩, ⟨by (with_reducible repeat (first | refine blk_drewN ?_ _ | refine blk_drew ?_ | refine blk_alloc ?_ _)); exact BK255.out⟩, ⟨by (with_reducible repeat (first | refine blk_drewN ?_ _ | refine blk_drew ?_ | refine blk_alloc ?_ _)); exact BK256.out⟩, ⟨by repeat (first | (with_reducible first | exact HB.out | apply below_alloc | apply pw_below_drewN | apply below_drew1 | refine below_set ?_ GE254.out | refine below_set ?_ GE255.out | refine below_set ?_ GE256.out) | exact HB.out)⟩⟩
  case round =>
    clear H'
    try clear c1
    try clear c2
    try clear p2
    try clear c4
    try clear c6
    try clear c9
    try clear c10
    try clear hcz11_0
    try clear hcz11_1
    try clear hcz11_2
    try clear hcz12_0
    try clear hcz12_1
    try clear hcz12_2
    try clear hcz12_3
    try clear hcz12_4
    try clear hcz14_0
    try clear hcz14_1
    try clear hcz14_2
    try clear hcz15_0
    try clear hcz15_1
    try clear hcz15_2
    try clear hcz15_3
    try clear hcz15_4
    try clear hcz7_0
    try clear hcz7_1
    try clear hcz7_2
    try clear hcz7_3
    try clear hcz7_4
    try clear hfz11_0
    try clear hfz11_1
    try clear hfz11_2
    try clear hfz12_0
    try clear hfz12_1
    try clear hfz12_2
    try clear hfz12_3
    try clear hfz12_4
    try clear hfz14_0
    try clear hfz14_1
    try clear hfz14_2
    try clear hfz15_0
    try clear hfz15_1
    try clear hfz15_2
    try clear hfz15_3
    try clear hfz15_4
    try clear hfz7_0
    try clear hfz7_1
    try clear hfz7_2
    try clear hfz7_3
    try clear hfz7_4
    obtain ⟨x6_1, x7_1, x257002_1, u257002, rfl, rfl, HA, HK1, HO_257002, BK254, BK255, BK256, HB⟩ := hrel
    cases gk with
    | zero => exact absurd HA.out (by simp [colophonref20_Facts.l0])
    | succ k1 =>
      have H := HA.out
      clear HA
      simp only [colophonref20_Facts.l0] at H
      by_cases c17 : x7_1 ≤ (t259.size : Int)
      · rw [if_pos c17] at H
        have c17b0 : decide (x7_1 ≤ (t259.size : Int)) = true := decide_eq_true c17
        clear c17
        have HC18 := Aside0.mk H
        clear H
        go_upto_region 8 with (fail)
        go_cut [37] (fun v37 wc => ∃ (kq : Nat) (x37_17 : Bool), v37 = .bool x37_17 ∧ Aside0 (colophonref20_Facts.j1 kq t259 x6_1 x7_1 x37_17 a0_0 t257 x257002_1 = some (r1, r2, r3)) ∧ Aside0 (kq ≤ k1) ∧ Aside0 (Kd.R Kd.string 9 wc w.heap.size (fun _ => True) u257002 x257002_1) ∧ Aside0 (wc.heap[gb254]? = some (.cells #[.string a0_0, .string a0_1, (.slice A0_2 l0_2.length c0_2), (.slice A0_3 l0_3.length c0_3), .int .i64 a0_4] 52 (0, 0))) ∧ Aside0 (wc.heap[gb255]? = some (.cells #[.string (⟨#[]⟩ : ByteArray), .string (⟨#[]⟩ : ByteArray), (.slice none 0 0)] 56 (0, 0))) ∧ Aside0 (wc.heap[gb256]? = some (.cells #[.string a0_0, .string t257, u257002] 56 (0, 0))) ∧ Aside0 (Below w.heap.size w wc))
        case first =>
          have H := HC18.out
          clear HC18
          by_cases c19 : x7_1 = (t259.size : Int)
          · rw [if_pos c19] at H
            have c19b0 : (x7_1 == (t259.size : Int)) = true := beq_iff_eq.mpr c19
            have c19b1 : (x7_1 != (t259.size : Int)) = false := bne_eq_false_iff_eq.mpr c19
            clear c19
            (first | rw [c19b0] | (simp only [i64_w, i32_w]; rw [c19b0]) | skip)
            have H' := Aside0.mk H
            clear H
            go_wp2
            go_meet
            case rel => exact ⟨_, (true), (by first | rfl | (simp; done) | (simp [*]; done)), H', ⟨by have := HK1.out; first | omega | exact Nat.le_refl _⟩, ⟨by (with_reducible repeat (first | apply Kd.R_alloc | apply Kd.R_drewN | apply Kd.R_drew)); exact HO_257002.out⟩, ⟨by (with_reducible repeat (first | refine blk_drewN ?_ _ | refine blk_drew ?_ | refine blk_alloc ?_ _)); exact BK254.out⟩, ⟨by (with_reducible repeat (first | refine blk_drewN ?_ _ | refine blk_drew ?_ | refine blk_alloc ?_ _)); exact BK255.out⟩, ⟨by (with_reducible repeat (first | refine blk_drewN ?_ _ | refine blk_drew ?_ | refine blk_alloc ?_ _)); exact BK256.out⟩, ⟨by repeat (first | (with_reducible first | exact HB.out | apply below_alloc | apply pw_below_drewN | apply below_drew1 | refine below_set ?_ GE254.out | refine below_set ?_ GE255.out | refine below_set ?_ GE256.out) | exact HB.out)⟩⟩
          · rw [if_neg c19] at H
            have c19b0 : (x7_1 == (t259.size : Int)) = false := beq_eq_false_iff_ne.mpr c19
            have c19b1 : (x7_1 != (t259.size : Int)) = true := bne_iff_ne.mpr c19
            (first | rw [c19b0] | (simp only [i64_w, i32_w]; rw [c19b0]) | skip)
            by_cases c20 : 0 ≤ x7_1
            · rw [if_pos c20] at H
              have c20b0 : decide (0 ≤ x7_1) = true := decide_eq_true c20
              clear c20
              by_cases c21 : x7_1 < (t259.size : Int)
              · rw [if_pos c21] at H
                have c21b0 : decide (x7_1 < (t259.size : Int)) = true := decide_eq_true c21
                clear c21
                have H' := Aside0.mk H
                clear H
                have p22 : 0 ≤ (x7_1 : Int) := of_decide_eq_true (by first | (with_reducible assumption) | assumption)
                have q22 : x7_1 < (t259.size : Int) := of_decide_eq_true (by first | (with_reducible assumption) | assumption)
                have hx22 := bt_at t259 x7_1
                replace p22 := eq_true p22
                replace q22 := eq_true q22
                go_wp2
                go_meet
                case rel => exact ⟨_, (((bt t259 x7_1) == 32)), (by first | rfl | (simp; done) | (simp [*]; done)), H', ⟨by have := HK1.out; first | omega | exact Nat.le_refl _⟩, ⟨by (with_reducible repeat (first | apply Kd.R_alloc | apply Kd.R_drewN | apply Kd.R_drew)); exact HO_257002.out⟩, ⟨by (with_reducible repeat (first | refine blk_drewN ?_ _ | refine blk_drew ?_ | refine blk_alloc ?_ _)); exact BK254.out⟩, ⟨by (with_reducible repeat (first | refine blk_drewN ?_ _ | refine blk_drew ?_ | refine blk_alloc ?_ _)); exact BK255.out⟩, ⟨by (with_reducible repeat (first | refine blk_drewN ?_ _ | refine blk_drew ?_ | refine blk_alloc ?_ _)); exact BK256.out⟩, ⟨by repeat (first | (with_reducible first | exact HB.out | apply below_alloc | apply pw_below_drewN | apply below_drew1 | refine below_set ?_ GE254.out | refine below_set ?_ GE255.out | refine below_set ?_ GE256.out) | exact HB.out)⟩⟩
              · rw [if_neg c21] at H
                exact absurd H (by simp)
            · rw [if_neg c20] at H
              exact absurd H (by simp)
        case rest =>
          clear HC18
          try clear c1
          try clear c2
          try clear p2
          try clear q2
          try clear hx2
          try clear c4
          try clear c6
          try clear c9
          try clear c10
          try clear c17
          try clear c17b0
          try clear c19
          try clear c19b0
          try clear c19b1
          try clear c20
          try clear c20b0
          try clear c21
          try clear c21b0
          try clear p22
          try clear q22
          try clear hx22
          try clear hcz11_0
          try clear hcz11_1
          try clear hcz11_2
          try clear hcz12_0
          try clear hcz12_1
          try clear hcz12_2
          try clear hcz12_3
          try clear hcz12_4
          try clear hcz14_0
          try clear hcz14_1
          try clear hcz14_2
          try clear hcz15_0
          try clear hcz15_1
          try clear hcz15_2
          try clear hcz15_3
          try clear hcz15_4
          try clear hcz7_0
          try clear hcz7_1
          try clear hcz7_2
          try clear hcz7_3
          try clear hcz7_4
          try clear hfz11_0
          try clear hfz11_1
          try clear hfz11_2
          try clear hfz12_0
          try clear hfz12_1
          try clear hfz12_2
          try clear hfz12_3
          try clear hfz12_4
          try clear hfz14_0
          try clear hfz14_1
          try clear hfz14_2
          try clear hfz15_0
          try clear hfz15_1
          try clear hfz15_2
          try clear hfz15_3
          try clear hfz15_4
          try clear hfz7_0
          try clear hfz7_1
          try clear hfz7_2
          try clear hfz7_3
          try clear hfz7_4
          try clear p2
          try clear p22
          try clear q22
          obtain ⟨kq, x37_17, rfl, HA, HJ17, HO_257002, BK254, BK255, BK256, HB⟩ := hcut
          cases kq with
          | zero => exact absurd HA.out (by simp [colophonref20_Facts.j1])
          | succ kj17 =>
            have H := HA.out
            clear HA
            simp only [colophonref20_Facts.j1] at H
            by_cases c23 : x37_17 = true
            · subst c23
              have H1 : (if x7_1 > x6_1 then (if 0 ≤ x6_1 then (if x6_1 ≤ x7_1 then (if x7_1 ≤ (t259.size : Int) then (if x257002_1.length < 8796093022208 then (colophonref20_Facts.l0 kj17 t259 (wrap64 (x7_1 + 1)) (wrap64 (x7_1 + 1)) a0_0 t257 (x257002_1 ++ [t259.extract (x6_1 : Int).toNat (x7_1 : Int).toNat])) else (none)) else (none)) else (none)) else (none)) else (colophonref20_Facts.l0 kj17 t259 (wrap64 (x7_1 + 1)) (wrap64 (x7_1 + 1)) a0_0 t257 x257002_1)) = some (r1, r2, r3) := by rw [if_pos rfl] at H; exact H
              clear H
              have H := H1
              clear H1
              by_cases c24 : x7_1 > x6_1
              · rw [if_pos c24] at H
                have c24b0 : decide (x6_1 < x7_1) = true := decide_eq_true c24
                clear c24
                by_cases c25 : 0 ≤ x6_1
                · rw [if_pos c25] at H
                  have c25b0 := eq_true c25
                  have c25b1 : decide (0 ≤ x6_1) = true := decide_eq_true c25
                  clear c25
                  by_cases c26 : x6_1 ≤ x7_1
                  · rw [if_pos c26] at H
                    have c26b0 := eq_true c26
                    have c26b1 : decide (x6_1 ≤ x7_1) = true := decide_eq_true c26
                    clear c26
                    by_cases c27 : x7_1 ≤ (t259.size : Int)
                    · rw [if_pos c27] at H
                      have c27b0 := eq_true c27
                      have c27b1 : decide (x7_1 ≤ (t259.size : Int)) = true := decide_eq_true c27
                      clear c27
                      by_cases c28 : x257002_1.length < 8796093022208
                      · rw [if_pos c28] at H
                        have LMc28 := Aside0.mk c28
                        clear c28
                        obtain ⟨y261, hy261⟩ : ∃ y_ : List ByteArray, y_ = (x257002_1 ++ [t259.extract (x6_1 : Int).toNat (x7_1 : Int).toNat]) := ⟨_, rfl⟩
                        replace H : (colophonref20_Facts.l0 kj17 t259 (wrap64 (x7_1 + 1)) (wrap64 (x7_1 + 1)) a0_0 t257 y261) = some (r1, r2, r3) := by first | (rw [hy261]; with_reducible exact H) | (have H2_ := (Option.bind_some _ _).symm.trans H; rw [hy261]; with_reducible exact H2_) | (have H2_ := (Option.bind_some _ _).symm.trans H; with_reducible exact H2_) | with_reducible exact H | (rw [hy261]; exact H) | exact H
                        have Ny261 := Aside0.mk hy261
                        clear hy261
                        have H' := Aside0.mk H
                        clear H
                        try go_wp2
                        have n0_ := Aside0.mk (Kd.R_drew HO_257002.out)
                        have n1_ := Aside0.mk (blk_drew BK254.out)
                        have n2_ := Aside0.mk (blk_drew BK255.out)
                        have n3_ := Aside0.mk (blk_drew BK256.out)
                        have n4_ := Aside0.mk (below_drew1 HB.out)
                        clear HO_257002
                        clear BK254
                        clear BK255
                        clear BK256
                        clear HB
                        have HO_257002 := n0_
                        have BK254 := n1_
                        have BK255 := n2_
                        have BK256 := n3_
                        have HB := n4_
                        clear n0_ n1_ n2_ n3_ n4_
                        refine start_ (n := 10) (S := fun w' => w'.cell? ⟨gb256, 0, none⟩ = some (.string a0_0) ∧ w'.cell? ⟨gb256, 1, none⟩ = some (.string t257) ∧ w'.cell? ⟨gb256, 2, none⟩ = some (u257002)) (ds := [9]) #[false, false, false, false, false, false, false, false, false, false] (by kernel_rfl) rfl rfl ⟨(blk_cell BK256.out 0).trans rfl, (blk_cell BK256.out 1).trans rfl, (blk_cell BK256.out 2).trans rfl⟩ (fun hHeld => ?_); refine with_tabW colophonref20_Facts.tab10 colophonref20_Facts.bits10 (fun HT_ HW_ => ?_)
                        generalize wc.drew = w29 at HO_257002 BK254 BK255 BK256 HB hHeld ⊢
                        refine pure_ (i := 0) (N := some 41) (v := ?_) (a' := ?_) #[true, false, false, false, false, false, false, false, false, false] rfl rfl (any_of HT_.out (by kernel_rfl)) (fun _ _ _ h => h) (Or.inl ⟨by rfl, ?_⟩) ?_ ?_
                        rotate_left
                        · intro w'
                          go_simp
                          with_reducible rfl
                        rotate_left
                        · simp only [Act.put, List.setIfInBounds_toArray, List.set_cons_zero, List.set_cons_succ, i64_w, i32_w]
                          rfl
                        refine pure_ (i := 2) (N := some 43) (v := ?_) (a' := ?_) #[true, false, true, false, false, false, false, false, false, false] rfl rfl (any_of HT_.out (by kernel_rfl)) (fun _ _ _ h => h) (Or.inl ⟨by rfl, ?_⟩) ?_ ?_
                        rotate_left
                        · intro w'
                          go_simp
                          with_reducible rfl
                        rotate_left
                        · simp only [Act.put, List.setIfInBounds_toArray, List.set_cons_zero, List.set_cons_succ, i64_w, i32_w]
                          rfl
                        refine pure_ (i := 3) (N := some 44) (v := ?_) (a' := ?_) #[true, false, true, true, false, false, false, false, false, false] rfl rfl (any_of HT_.out (by kernel_rfl)) (fun _ _ _ h => h) (Or.inl ⟨by rfl, ?_⟩) ?_ ?_
                        rotate_left
                        · intro w'
                          go_simp
                          with_reducible rfl
                        rotate_left
                        · simp only [Act.put, List.setIfInBounds_toArray, List.set_cons_zero, List.set_cons_succ, i64_w, i32_w]
                          rfl
                        refine pure_ (i := 4) (N := some 45) (v := ?_) (a' := ?_) #[true, false, true, true, true, false, false, false, false, false] rfl rfl (any_of HT_.out (by kernel_rfl)) (fun _ _ _ h => h) (Or.inl ⟨by rfl, ?_⟩) ?_ ?_
                        rotate_left
                        · intro w'
                          go_simp
                          with_reducible rfl
                        rotate_left
                        · simp only [Act.put, List.setIfInBounds_toArray, List.set_cons_zero, List.set_cons_succ, i64_w, i32_w]
                          rfl
                        refine pure_ (i := 5) (N := some 46) (v := ?_) (a' := ?_) #[true, false, true, true, true, true, false, false, false, false] rfl rfl (any_of HT_.out (by kernel_rfl)) (fun _ _ _ h => h) (Or.inl ⟨by rfl, ?_⟩) ?_ ?_
                        rotate_left
                        · intro w'
                          go_simp
                          with_reducible rfl
                        rotate_left
                        · simp only [Act.put, List.setIfInBounds_toArray, List.set_cons_zero, List.set_cons_succ, i64_w, i32_w]
                          rfl
                        refine take_ (i := 1) (N := some 42) (v := ?_) (a' := ?_) #[true, true, true, true, true, true, false, false, false, false] rfl rfl (take_ofW HT_.out HW_.out (by kernel_rfl)) (fun _ _ _ h => h) (Or.inl ⟨by rfl, ?_⟩) hHeld ?_ ?_
                        rotate_left
                        · rintro w' ⟨s0, s1, s2⟩
                          go_simp
                          with_reducible rfl
                        rotate_left
                        · simp only [Act.put, List.setIfInBounds_toArray, List.set_cons_zero, List.set_cons_succ, i64_w, i32_w]
                          rfl
                        refine one_ (i := 6) (N := some 47) #[true, true, true, true, true, true, true, false, false, false] rfl rfl (one_of HT_.out (by kernel_rfl)) (by decide) (fun K hK => ?_)
                        refine value_ (w1 := ?_) (v := ?_) (by rfl) rfl ?_ ?_
                        rotate_left 2
                        · go_simp
                          constructor
                          · rfl
                          · rfl
                        refine hK.out _ _ ⟨(blk_cell (blk_alloc BK256.out _) 0).trans rfl, (blk_cell (blk_alloc BK256.out _) 1).trans rfl, (blk_cell (blk_alloc BK256.out _) 2).trans rfl⟩ (fun hHeld => ?_)
                        clear hK K
                        refine norm_ (a' := ?_) ?_ ?_
                        rotate_left
                        · show Act.put _ (some 47) _ = _
                          simp only [Act.put, List.setIfInBounds_toArray, List.set_cons_zero, List.set_cons_succ, i64_w, i32_w]
                          rfl
                        refine one_ (i := 7) (N := some 48) #[true, true, true, true, true, true, true, true, false, false] rfl rfl (one_of HT_.out (by kernel_rfl)) (by decide) (fun K hK => ?_)
                        refine Kd.R_append_step Kd.string (w0 := w) w.heap.size (by rfl) (.tmp 42) (.tmp 47) 54 9 (.string ⟨#[]⟩) 16 rfl Try.underlying54 info9 rfl (by decide) (by omega) u257002 x257002_1 (t259.extract (x6_1 : Int).toNat (x7_1 : Int).toNat) [.string (t259.extract (x6_1 : Int).toNat (x7_1 : Int).toNat)] (fun _ => True) (fun _ => False) rfl rfl ?aP (fun _ hk => hk.elim) ?aF ?aO ?aB ?aS ?aL ?_
                        (case aP => exact rfl)
                        (case aB => exact (by repeat (first | (with_reducible first | exact HB.out | apply below_alloc | apply pw_below_drewN | apply below_drew1 | refine below_set ?_ GE254.out | refine below_set ?_ GE255.out | refine below_set ?_ GE256.out) | exact HB.out)))
                        (case aF => exact (fun _ _ => trivial))
                        (case aO => exact (by (with_reducible repeat (first | apply Kd.R_alloc | apply Kd.R_drewN | apply Kd.R_drew)); exact HO_257002.out))
                        (case aS => exact (below_size (by repeat (first | (with_reducible first | exact HB.out | apply below_alloc | apply pw_below_drewN | apply below_drew1 | refine below_set ?_ GE254.out | refine below_set ?_ GE255.out | refine below_set ?_ GE256.out) | exact HB.out))))
                        (case aL => have := LMc28.out; omega)
                        intro v262 w30 ho hb hg hat
                        rw [← Ny261.out] at ho
                        have n0_ := Aside0.mk (blk_grown (g := gb254) (o := .cells #[.string a0_0, .string a0_1, .slice A0_2 l0_2.length c0_2, .slice A0_3 l0_3.length c0_3, .int .i64 a0_4] 52 (0, 0)) (by (with_reducible repeat (first | refine blk_drewN ?_ _ | refine blk_drew ?_ | refine blk_alloc ?_ _)); exact BK254.out) hg (Kd.R_ne HO_257002.out BK254.out (by decide)))
                        have n1_ := Aside0.mk (blk_grown (g := gb255) (o := .cells #[.string (⟨#[]⟩ : ByteArray), .string (⟨#[]⟩ : ByteArray), .slice none 0 0] 56 (0, 0)) (by (with_reducible repeat (first | refine blk_drewN ?_ _ | refine blk_drew ?_ | refine blk_alloc ?_ _)); exact BK255.out) hg (Kd.R_ne HO_257002.out BK255.out (by decide)))
                        have n2_ := Aside0.mk (blk_grown (g := gb256) (o := .cells #[.string a0_0, .string t257, u257002] 56 (0, 0)) (by (with_reducible repeat (first | refine blk_drewN ?_ _ | refine blk_drew ?_ | refine blk_alloc ?_ _)); exact BK256.out) hg (Kd.R_ne HO_257002.out BK256.out (by decide)))
                        have n3_ := Aside0.mk (hb)
                        have n4_ := Aside0.mk (ho)
                        clear BK254
                        clear BK255
                        clear BK256
                        clear HB
                        clear HO_257002
                        have BK254 := n0_
                        have BK255 := n1_
                        have BK256 := n2_
                        have HB := n3_
                        have HO263 := n4_
                        clear n0_ n1_ n2_ n3_ n4_
                        clear ho hb hg hat
                        obtain ⟨Ao31, co31, eo31⟩ := Kd.R_slice HO263.out
                        (first | subst eo31 | (injection eo31 with f1_ f2_ f3_; have f4_ := f1_.symm; have f5_ := f3_.symm; clear f1_ f2_ f3_; subst f4_; subst f5_))
                        refine hK.out _ _ ⟨(blk_cell BK256.out 0).trans rfl, (blk_cell BK256.out 1).trans rfl, (blk_cell BK256.out 2).trans rfl⟩ (fun hHeld => ?_)
                        clear hK K
                        refine norm_ (a' := ?_) ?_ ?_
                        rotate_left
                        · show Act.put _ (some 48) _ = _
                          simp only [Act.put, List.setIfInBounds_toArray, List.set_cons_zero, List.set_cons_succ, i64_w, i32_w]
                          rfl
                        refine pure_ (i := 8) (N := some 49) (v := ?_) (a' := ?_) #[true, true, true, true, true, true, true, true, true, false] rfl rfl (any_of HT_.out (by kernel_rfl)) (fun _ _ _ h => h) (Or.inl ⟨by rfl, ?_⟩) ?_ ?_
                        rotate_left
                        · intro w'
                          go_simp
                          with_reducible rfl
                        rotate_left
                        · simp only [Act.put, List.setIfInBounds_toArray, List.set_cons_zero, List.set_cons_succ, i64_w, i32_w]
                          rfl
                        refine last_ (i := 9) (N := none) #[true, true, true, true, true, true, true, true, true, true] rfl rfl (one_of HT_.out (by kernel_rfl)) (by decide) (fun K hK => ?_)
                        have hs32 : w30.cell? ⟨gb256, 2, none⟩ = some (u257002) := (blk_cell BK256.out 2).trans rfl
                        have hfs32 := blk_frozen BK256.out 2
                        have hns32_0 := NB254_256.out
                        have hns32_1 := NB255_256.out
                        have hms32_0 := NB256_254.out
                        have hms32_1 := NB256_255.out
                        refine skip_ (w1 := ?_) (by rfl) rfl ?_ ?_
                        rotate_left
                        · go_simp
                          rfl
                        refine hK.out _ _ ?_
                        clear hK K
                        refine done_ (done_of HT_.out (by kernel_rfl)) ?_
                        try go_wp2
                        go_roundg kj17
                        case measure => have := HK1.out; have := HJ17.out; omega
                        case rel => exact ⟨(wrap64 (x7_1 + 1)), (wrap64 (x7_1 + 1)), (y261), (.slice Ao31 y261.length co31), (by first | rfl | (simp; done) | (simp [*]; done)), (by first | rfl | (simp; done) | (simp [*]; done)), H', ⟨by have := HK1.out; have := HJ17.out; omega⟩, ⟨by (with_reducible repeat (first | apply Kd.R_alloc | apply Kd.R_drewN | apply Kd.R_drew)); exact Kd.R_mono (Kd.R_far (p := ⟨gb256, 2, none⟩) (Kd.R_types HO263.out BK256.out (by decide)) (fun _ hk => hk.2) (.slice Ao31 y261.length co31)) (fun _ hk => trivial)⟩, ⟨by (with_reducible repeat (first | refine blk_drewN ?_ _ | refine blk_drew ?_ | refine blk_alloc ?_ _)); refine blk_far ?_ NB254_256.out _; (with_reducible repeat (first | refine blk_drewN ?_ _ | refine blk_drew ?_ | refine blk_alloc ?_ _)); exact BK254.out⟩, ⟨by (with_reducible repeat (first | refine blk_drewN ?_ _ | refine blk_drew ?_ | refine blk_alloc ?_ _)); refine blk_far ?_ NB255_256.out _; (with_reducible repeat (first | refine blk_drewN ?_ _ | refine blk_drew ?_ | refine blk_alloc ?_ _)); exact BK255.out⟩, ⟨by (with_reducible repeat (first | refine blk_drewN ?_ _ | refine blk_drew ?_ | refine blk_alloc ?_ _)); refine blk_put (cs := #[.string a0_0, .string t257, u257002]) ?_ 2 _ rfl; (with_reducible repeat (first | refine blk_drewN ?_ _ | refine blk_drew ?_ | refine blk_alloc ?_ _)); exact BK256.out⟩, ⟨by repeat (first | (with_reducible first | exact HB.out | apply below_alloc | apply pw_below_drewN | apply below_drew1 | refine below_set ?_ GE254.out | refine below_set ?_ GE255.out | refine below_set ?_ GE256.out) | exact HB.out)⟩⟩
                      · rw [if_neg c28] at H
                        exact absurd H (by simp)
                    · rw [if_neg c27] at H
                      exact absurd H (by simp)
                  · rw [if_neg c26] at H
                    exact absurd H (by simp)
                · rw [if_neg c25] at H
                  exact absurd H (by simp)
              · rw [if_neg c24] at H
                have c24b0 : decide (x6_1 < x7_1) = false := decide_eq_false c24
                clear c24
                have H' := Aside0.mk H
                clear H
                go_wp2
                go_roundg kj17
                case measure => have := HK1.out; have := HJ17.out; omega
                case rel => exact ⟨(wrap64 (x7_1 + 1)), (wrap64 (x7_1 + 1)), (x257002_1), (u257002), (by first | rfl | (simp; done) | (simp [*]; done)), (by first | rfl | (simp; done) | (simp [*]; done)), H', ⟨by have := HK1.out; have := HJ17.out; omega⟩, ⟨by (with_reducible repeat (first | apply Kd.R_alloc | apply Kd.R_drewN | apply Kd.R_drew)); exact HO_257002.out⟩, ⟨by (with_reducible repeat (first | refine blk_drewN ?_ _ | refine blk_drew ?_ | refine blk_alloc ?_ _)); exact BK254.out⟩, ⟨by (with_reducible repeat (first | refine blk_drewN ?_ _ | refine blk_drew ?_ | refine blk_alloc ?_ _)); exact BK255.out⟩, ⟨by (with_reducible repeat (first | refine blk_drewN ?_ _ | refine blk_drew ?_ | refine blk_alloc ?_ _)); exact BK256.out⟩, ⟨by repeat (first | (with_reducible first | exact HB.out | apply below_alloc | apply pw_below_drewN | apply below_drew1 | refine below_set ?_ GE254.out | refine below_set ?_ GE255.out | refine below_set ?_ GE256.out) | exact HB.out)⟩⟩
            · replace c23 := Bool.eq_false_iff.mpr c23
              subst c23
              have H1 : (colophonref20_Facts.l0 kj17 t259 x6_1 (wrap64 (x7_1 + 1)) a0_0 t257 x257002_1) = some (r1, r2, r3) := by rw [if_neg (show ¬ (false = true) by decide)] at H; exact H
              clear H
              have H := H1
              clear H1
              have H' := Aside0.mk H
              clear H
              go_wp2
              go_roundg kj17
              case measure => have := HK1.out; have := HJ17.out; omega
              case rel => exact ⟨(x6_1), (wrap64 (x7_1 + 1)), (x257002_1), (u257002), (by first | rfl | (simp; done) | (simp [*]; done)), (by first | rfl | (simp; done) | (simp [*]; done)), H', ⟨by have := HK1.out; have := HJ17.out; omega⟩, ⟨by (with_reducible repeat (first | apply Kd.R_alloc | apply Kd.R_drewN | apply Kd.R_drew)); exact HO_257002.out⟩, ⟨by (with_reducible repeat (first | refine blk_drewN ?_ _ | refine blk_drew ?_ | refine blk_alloc ?_ _)); exact BK254.out⟩, ⟨by (with_reducible repeat (first | refine blk_drewN ?_ _ | refine blk_drew ?_ | refine blk_alloc ?_ _)); exact BK255.out⟩, ⟨by (with_reducible repeat (first | refine blk_drewN ?_ _ | refine blk_drew ?_ | refine blk_alloc ?_ _)); exact BK256.out⟩, ⟨by repeat (first | (with_reducible first | exact HB.out | apply below_alloc | apply pw_below_drewN | apply below_drew1 | refine below_set ?_ GE254.out | refine below_set ?_ GE255.out | refine below_set ?_ GE256.out) | exact HB.out)⟩⟩
      · rw [if_neg c17] at H
        have c17b0 : decide (x7_1 ≤ (t259.size : Int)) = false := decide_eq_false c17
        clear c17
        simp only [Option.some.injEq, Prod.mk.injEq] at H
        obtain ⟨rfl, rfl, rfl⟩ := H
        have hnb33 := NB256_254.out
        have hnc33 := NB254_256.out
        have hnb34 := NB256_255.out
        have hnc34 := NB255_256.out
        have hcz35_0 : wr.cell? ⟨gb256, 0, none⟩ = some (.string a0_0) := (blk_cell BK256.out 0).trans rfl
        have hcz35_1 : wr.cell? ⟨gb256, 1, none⟩ = some (.string t257) := (blk_cell BK256.out 1).trans rfl
        have hcz35_2 : wr.cell? ⟨gb256, 2, none⟩ = some (u257002) := (blk_cell BK256.out 2).trans rfl
        have hfz35_0 := blk_frozen BK256.out 0
        have hfz35_1 := blk_frozen BK256.out 1
        have hfz35_2 := blk_frozen BK256.out 2
        have hnb36 := NB255_254.out
        have hnc36 := NB254_255.out
        have hcz37_0 : wr.cell? ⟨gb255, 0, none⟩ = some (.string (⟨#[]⟩ : ByteArray)) := (blk_cell BK255.out 0).trans rfl
        have hcz37_1 : wr.cell? ⟨gb255, 1, none⟩ = some (.string (⟨#[]⟩ : ByteArray)) := (blk_cell BK255.out 1).trans rfl
        have hcz37_2 : wr.cell? ⟨gb255, 2, none⟩ = some (.slice none 0 0) := (blk_cell BK255.out 2).trans rfl
        have hfz37_0 := blk_frozen BK255.out 0
        have hfz37_1 := blk_frozen BK255.out 1
        have hfz37_2 := blk_frozen BK255.out 2
        obtain ⟨Ao38, co38, eo38⟩ := Kd.R_slice HO_257002.out
        subst eo38
        go_wp2
        refine bodyPost_ret (results_cell_row rfl _ _ gb255 56 #[.string a0_0, .string t257, .slice Ao38 x257002_1.length co38] (0, 0) _ rfl (by (with_reducible repeat (first | refine blk_drewN ?_ _ | refine blk_drew ?_ | refine blk_alloc ?_ _)); refine blk_put (cs := #[.string a0_0, .string t257, .slice none 0 0]) ?_ 2 _ rfl; (with_reducible repeat (first | refine blk_drewN ?_ _ | refine blk_drew ?_ | refine blk_alloc ?_ _)); refine blk_put (cs := #[.string a0_0, .string (⟨#[]⟩ : ByteArray), .slice none 0 0]) ?_ 1 _ rfl; (with_reducible repeat (first | refine blk_drewN ?_ _ | refine blk_drew ?_ | refine blk_alloc ?_ _)); refine blk_put (cs := #[.string (⟨#[]⟩ : ByteArray), .string (⟨#[]⟩ : ByteArray), .slice none 0 0]) ?_ 0 _ rfl; (with_reducible repeat (first | refine blk_drewN ?_ _ | refine blk_drew ?_ | refine blk_alloc ?_ _)); exact BK255.out) Try.underlying56 rfl (by kernel_rfl)) rfl ?_
        exact ⟨_, by first | rfl | (simp [errW_none, errW_some] <;> rfl) | (simp [*, errW_none, errW_some] <;> rfl), by (with_reducible repeat (first | apply Kd.R_alloc | apply Kd.R_drewN | apply Kd.R_drew)); exact Kd.R_mono (Kd.R_far (p := ⟨gb255, 2, none⟩) (Kd.R_far (p := ⟨gb255, 1, none⟩) (Kd.R_far (p := ⟨gb255, 0, none⟩) (Kd.R_types HO_257002.out BK255.out (by decide)) (fun _ hk => hk.2) (.string a0_0)) (fun _ hk => hk.2) (.string t257)) (fun _ hk => hk.2) (.slice Ao38 x257002_1.length co38)) (fun _ hk => trivial), by repeat (first | (with_reducible first | exact HB.out | apply below_alloc | apply pw_below_drewN | apply below_drew1 | refine below_set ?_ GE254.out | refine below_set ?_ GE255.out | refine below_set ?_ GE256.out) | exact HB.out)⟩

end Go.Proofs.Ytpembifnjlekdaa.PStyleAll
