-- Written by a copy of the print that this session has turned (wip/tools/patchprint.py): arrays as records.
import Derived.Test.YtogjeababinnlaaPPagesFlowx0
import Derived.Test.YtogjeababinnlaaPPagesFlowx1
namespace Go.Proofs.Ytogjeababinnlaa.PPagesFlow
open Go.RowKit Go.Proofs.YtogjeababinnlaaW.PrintWords Go.Proofs.YtogjeababinnlaaW.PrintLast Go.Proofs.YtogjeababinnlaaW.PrintMore
attribute [local go_sem] max2_int min2_int max_two min_two max_three min_three max_four min_four   -- for this text's walks alone
set_option linter.unusedVariables false
set_option linter.unusedSimpArgs false

attribute [local go_sem high] eqA43
/-! ### pages_sized: function 47 -/
def pages_sized.f (a0 : Int) : Option (Bool) := if 0 ≤ a0 then (some (decide (a0 ≤ 1073741824))) else (some false)
set_option maxHeartbeats 8000000 in
set_option maxRecDepth 100000 in
theorem pages_sized.calls (a0 : Int) (r : Bool) (w : World) (h : pages_sized.f a0 = some r) :
    Calls Try.prog 47 #[.int .i64 a0] w fun e w' => e = .returned (.bool r) ∧ Drawn0 w w' := by
  have H : (if 0 ≤ a0 then (some (decide (a0 ≤ 1073741824))) else (some false)) = some r := h
  clear h
  by_cases c2 : 0 ≤ a0
  · rw [if_pos c2] at H
    have c2b0 : decide (0 ≤ a0) = true := decide_eq_true c2
    clear c2
    obtain rfl := Option.some.inj H
    go_enter Try.func47, Try.ntmps47
    go_wp2
    go_ret
    exact ⟨by first | rfl | (simp; done) | (simp [*]; done), by repeat (first | exact Drawn0.refl _ | apply Drawn0.step)⟩
  · rw [if_neg c2] at H
    have c2b0 : decide (0 ≤ a0) = false := decide_eq_false c2
    clear c2
    obtain rfl := Option.some.inj H
    go_enter Try.func47, Try.ntmps47
    go_wp2
    go_ret
    exact ⟨by first | rfl | (simp; done) | (simp [*]; done), by repeat (first | exact Drawn0.refl _ | apply Drawn0.step)⟩

/-! ### pages_forced: function 48 -/
def pages_forced.f (a0_0 : Int) (a0_1 : Int) (a0_2 : Int) (a0_3 : Int) : Option (Bool) := if a0_0 = 3 then (some (a0_3 == (-10000))) else (some false)
set_option maxHeartbeats 8000000 in
set_option maxRecDepth 100000 in
theorem pages_forced.calls (a0_0 : Int) (a0_1 : Int) (a0_2 : Int) (a0_3 : Int) (r : Bool) (w : World) (h : pages_forced.f a0_0 a0_1 a0_2 a0_3 = some r) :
    Calls Try.prog 48 #[.agg #[.int .i64 a0_0, .int .i64 a0_1, .int .i64 a0_2, .int .i64 a0_3]] w fun e w' => e = .returned (.bool r) ∧ Below w.heap.size w w' := by
  have hu43 := Try.underlying43
  have HB := Aside0.mk (Below.refl w.heap.size w)
  have H : (if a0_0 = 3 then (some (a0_3 == (-10000))) else (some false)) = some r := h
  clear h
  by_cases c2 : a0_0 = 3
  · rw [if_pos c2] at H
    have c2b0 : (a0_0 == 3) = true := beq_iff_eq.mpr c2
    have c2b1 : (a0_0 != 3) = false := bne_eq_false_iff_eq.mpr c2
    clear c2
    obtain rfl := Option.some.inj H
    go_enter Try.func48, Try.ntmps48
    go_wp2_with (first | ((with_reducible refine gate_dst (N := 1) rfl ?_); refine box_event ?hg (N := 1) ?hd (cs := #[.int .i64 a0_0, .int .i64 a0_1, .int .i64 a0_2, .int .i64 a0_3]) (t := 43) ?hr ?_; (case hd => rfl); (case hg => rfl); (case hr => first | (go_simp; done) | (go_simp; rfl)); intro gb101 hg w3 hbox hb; have n0_ := Aside0.mk (below_step (by repeat (first | (with_reducible first | exact HB.out | apply below_alloc | apply pw_below_drewN | apply below_drew1) | exact HB.out)) hb); have n1_ := Aside0.mk (hbox); have n2_ := Aside0.mk ((by rw [hg]; exact (below_size (by repeat (first | (with_reducible first | exact HB.out | apply below_alloc | apply pw_below_drewN | apply below_drew1) | exact HB.out))) : w.heap.size ≤ gb101)); have n3_ := Aside0.mk ((by rw [hg]; exact (below_size (by repeat (first | (with_reducible first | exact HB.out | apply below_alloc | apply pw_below_drewN | apply below_drew1) | exact HB.out))) : w.heap.size ≤ gb101)); clear HB; have HB := n0_; have BK101 := n1_; have GW101 := n2_; have GE101 := n3_; clear n0_ n1_ n2_ n3_; clear hb hbox hg; have hcz4_0 : w3.cell? ⟨gb101, 0, none⟩ = some (.int .i64 a0_0) := (blk_cell BK101.out 0).trans rfl; have hcz4_1 : w3.cell? ⟨gb101, 1, none⟩ = some (.int .i64 a0_1) := (blk_cell BK101.out 1).trans rfl; have hcz4_2 : w3.cell? ⟨gb101, 2, none⟩ = some (.int .i64 a0_2) := (blk_cell BK101.out 2).trans rfl; have hcz4_3 : w3.cell? ⟨gb101, 3, none⟩ = some (.int .i64 a0_3) := (blk_cell BK101.out 3).trans rfl; have hfz4_0 := blk_frozen BK101.out 0; have hfz4_1 := blk_frozen BK101.out 1; have hfz4_2 := blk_frozen BK101.out 2; have hfz4_3 := blk_frozen BK101.out 3))
    go_ret
    exact ⟨by first | rfl | (simp [errW_none, errW_some] <;> rfl) | (simp [*, errW_none, errW_some] <;> rfl), by repeat (first | (with_reducible first | exact HB.out | apply below_alloc | apply pw_below_drewN | apply below_drew1 | refine below_set ?_ GE101.out) | exact HB.out)⟩
  · rw [if_neg c2] at H
    have c2b0 : (a0_0 == 3) = false := beq_eq_false_iff_ne.mpr c2
    have c2b1 : (a0_0 != 3) = true := bne_iff_ne.mpr c2
    obtain rfl := Option.some.inj H
    go_enter Try.func48, Try.ntmps48
    go_wp2_with (first | ((with_reducible refine gate_dst (N := 1) rfl ?_); refine box_event ?hg (N := 1) ?hd (cs := #[.int .i64 a0_0, .int .i64 a0_1, .int .i64 a0_2, .int .i64 a0_3]) (t := 43) ?hr ?_; (case hd => rfl); (case hg => rfl); (case hr => first | (go_simp; done) | (go_simp; rfl)); intro gb101 hg w5 hbox hb; have n0_ := Aside0.mk (below_step (by repeat (first | (with_reducible first | exact HB.out | apply below_alloc | apply pw_below_drewN | apply below_drew1) | exact HB.out)) hb); have n1_ := Aside0.mk (hbox); have n2_ := Aside0.mk ((by rw [hg]; exact (below_size (by repeat (first | (with_reducible first | exact HB.out | apply below_alloc | apply pw_below_drewN | apply below_drew1) | exact HB.out))) : w.heap.size ≤ gb101)); have n3_ := Aside0.mk ((by rw [hg]; exact (below_size (by repeat (first | (with_reducible first | exact HB.out | apply below_alloc | apply pw_below_drewN | apply below_drew1) | exact HB.out))) : w.heap.size ≤ gb101)); clear HB; have HB := n0_; have BK101 := n1_; have GW101 := n2_; have GE101 := n3_; clear n0_ n1_ n2_ n3_; clear hb hbox hg; have hcz6_0 : w5.cell? ⟨gb101, 0, none⟩ = some (.int .i64 a0_0) := (blk_cell BK101.out 0).trans rfl; have hcz6_1 : w5.cell? ⟨gb101, 1, none⟩ = some (.int .i64 a0_1) := (blk_cell BK101.out 1).trans rfl; have hcz6_2 : w5.cell? ⟨gb101, 2, none⟩ = some (.int .i64 a0_2) := (blk_cell BK101.out 2).trans rfl; have hcz6_3 : w5.cell? ⟨gb101, 3, none⟩ = some (.int .i64 a0_3) := (blk_cell BK101.out 3).trans rfl; have hfz6_0 := blk_frozen BK101.out 0; have hfz6_1 := blk_frozen BK101.out 1; have hfz6_2 := blk_frozen BK101.out 2; have hfz6_3 := blk_frozen BK101.out 3))
    go_ret
    exact ⟨by first | rfl | (simp [errW_none, errW_some] <;> rfl) | (simp [*, errW_none, errW_some] <;> rfl), by repeat (first | (with_reducible first | exact HB.out | apply below_alloc | apply pw_below_drewN | apply below_drew1 | refine below_set ?_ GE101.out) | exact HB.out)⟩

/-! ### pages_Good: function 29 -/
mutual
def pages_Good.j0 : Nat → List (S43) → Bool → Option (Bool)
  | 0, _, _ => none
  | k + 1, x0, x13 => if x13 = true then (some false) else (pages_Good.l0 k x0 x0 (x0.length : Int) 0)
def pages_Good.l0 : Nat → List (S43) → List (S43) → Int → Int → Option (Bool)
  | 0, _, _, _, _ => none
  | k + 1, x0, x14, x15, x16 => if x16 < x15 then (if 0 ≤ x16 then (if x16 < (x14.length : Int) then (if ((rd_T43 x14 x16).f0) = 1 then (pages_Good.j2 k x0 x14 x15 x16 ((rd_T43 x14 x16).f0) ((rd_T43 x14 x16).f1) ((rd_T43 x14 x16).f2) ((rd_T43 x14 x16).f3) ((rd_T43 x14 x16).f0) ((rd_T43 x14 x16).f1) ((rd_T43 x14 x16).f2) 0) else (if ((rd_T43 x14 x16).f0) = 2 then (pages_Good.j2 k x0 x14 x15 x16 ((rd_T43 x14 x16).f0) ((rd_T43 x14 x16).f1) ((rd_T43 x14 x16).f2) ((rd_T43 x14 x16).f3) ((rd_T43 x14 x16).f0) ((rd_T43 x14 x16).f1) 0 0) else (if ((rd_T43 x14 x16).f0) = 3 then (pages_Good.j2 k x0 x14 x15 x16 ((rd_T43 x14 x16).f0) ((rd_T43 x14 x16).f1) ((rd_T43 x14 x16).f2) ((rd_T43 x14 x16).f3) ((rd_T43 x14 x16).f0) 0 0 ((rd_T43 x14 x16).f3)) else (some false)))) else (none)) else (none)) else (if 0 ≤ (wrap64 ((x0.length : Int) - 1)) then (if (wrap64 ((x0.length : Int) - 1)) < (x0.length : Int) then ((pages_forced.f ((rd_T43 x0 (wrap64 ((x0.length : Int) - 1))).f0) ((rd_T43 x0 (wrap64 ((x0.length : Int) - 1))).f1) ((rd_T43 x0 (wrap64 ((x0.length : Int) - 1))).f2) ((rd_T43 x0 (wrap64 ((x0.length : Int) - 1))).f3)).bind fun t103 => (some t103)) else (none)) else (none))
def pages_Good.j2 : Nat → List (S43) → List (S43) → Int → Int → Int → Int → Int → Int → Int → Int → Int → Int → Option (Bool)
  | 0, _, _, _, _, _, _, _, _, _, _, _, _ => none
  | k + 1, x0, x14, x15, x16, x106000, x106001, x106002, x106003, x107000, x107001, x107002, x107003 => if (!(x106000 == x107000) || (!(x106001 == x107001) || (!(x106002 == x107002) || (!(x106003 == x107003))))) = true then (some false) else ((pages_sized.f x106001).bind fun t107 => (if t107 = true then ((pages_sized.f x106002).bind fun t108 => (if t108 = true then (if x106003 < (-10000) then (some false) else (if x106003 > 10000 then (some false) else (pages_Good.l0 k x0 x14 x15 (wrap64 (x16 + 1))))) else (some false))) else (some false)))
end
def pages_Good.f (k : Nat) (l0 : List (S43)) : Option (Bool) := if (l0.length : Int) = 0 then (pages_Good.j0 k l0 true) else (pages_Good.j0 k l0 (decide ((l0.length : Int) > 1024)))
theorem pages_Good.mono_l : ∀ k, (∀ y0 y1, LeO (pages_Good.j0 k y0 y1) (pages_Good.j0 (k + 1) y0 y1)) ∧ (∀ y0 y1 y2 y3, LeO (pages_Good.l0 k y0 y1 y2 y3) (pages_Good.l0 (k + 1) y0 y1 y2 y3)) ∧ (∀ y0 y1 y2 y3 y4 y5 y6 y7 y8 y9 y10 y11, LeO (pages_Good.j2 k y0 y1 y2 y3 y4 y5 y6 y7 y8 y9 y10 y11) (pages_Good.j2 (k + 1) y0 y1 y2 y3 y4 y5 y6 y7 y8 y9 y10 y11))
  | 0 => ⟨fun _ _ r h => by simp [pages_Good.j0] at h, fun _ _ _ _ r h => by simp [pages_Good.l0] at h, fun _ _ _ _ _ _ _ _ _ _ _ _ r h => by simp [pages_Good.j2] at h⟩
  | k + 1 => by
    obtain ⟨ih0, ih1, ih2⟩ := pages_Good.mono_l k
    refine ⟨?_, ?_, ?_⟩
    · intro y0 y1
      unfold pages_Good.j0
      repeat' first
      | (with_reducible exact ih0 _ _)
      | (with_reducible exact ih1 _ _ _ _)
      | (with_reducible exact ih2 _ _ _ _ _ _ _ _ _ _ _ _)
      | (with_reducible exact LeO.refl _)
      | (with_reducible exact LeO.none _)
      | (with_reducible refine LeO.ite ?_ ?_)
      | (with_reducible refine LeO.bind ?_ (fun _ => ?_))
      | exact ih0 _ _
      | exact ih1 _ _ _ _
      | exact ih2 _ _ _ _ _ _ _ _ _ _ _ _
      | exact LeO.none _
      | refine LeO.ite ?_ ?_
      | refine LeO.bind ?_ (fun _ => ?_)
    · intro y0 y1 y2 y3
      unfold pages_Good.l0
      repeat' first
      | (with_reducible exact ih0 _ _)
      | (with_reducible exact ih1 _ _ _ _)
      | (with_reducible exact ih2 _ _ _ _ _ _ _ _ _ _ _ _)
      | (with_reducible exact LeO.refl _)
      | (with_reducible exact LeO.none _)
      | (with_reducible refine LeO.ite ?_ ?_)
      | (with_reducible refine LeO.bind ?_ (fun _ => ?_))
      | exact ih0 _ _
      | exact ih1 _ _ _ _
      | exact ih2 _ _ _ _ _ _ _ _ _ _ _ _
      | exact LeO.none _
      | refine LeO.ite ?_ ?_
      | refine LeO.bind ?_ (fun _ => ?_)
    · intro y0 y1 y2 y3 y4 y5 y6 y7 y8 y9 y10 y11
      unfold pages_Good.j2
      repeat' first
      | (with_reducible exact ih0 _ _)
      | (with_reducible exact ih1 _ _ _ _)
      | (with_reducible exact ih2 _ _ _ _ _ _ _ _ _ _ _ _)
      | (with_reducible exact LeO.refl _)
      | (with_reducible exact LeO.none _)
      | (with_reducible refine LeO.ite ?_ ?_)
      | (with_reducible refine LeO.bind ?_ (fun _ => ?_))
      | exact ih0 _ _
      | exact ih1 _ _ _ _
      | exact ih2 _ _ _ _ _ _ _ _ _ _ _ _
      | exact LeO.none _
      | refine LeO.ite ?_ ?_
      | refine LeO.bind ?_ (fun _ => ?_)
theorem pages_Good.mono : ∀ a0 k, LeO (pages_Good.f k a0) (pages_Good.f (k + 1) a0) := by
  intro a0 k
  obtain ⟨ih0, ih1, ih2⟩ := pages_Good.mono_l k
  unfold pages_Good.f
  repeat' first
      | (with_reducible exact ih0 _ _)
      | (with_reducible exact ih1 _ _ _ _)
      | (with_reducible exact ih2 _ _ _ _ _ _ _ _ _ _ _ _)
      | (with_reducible exact LeO.refl _)
      | (with_reducible exact LeO.none _)
      | (with_reducible refine LeO.ite ?_ ?_)
      | (with_reducible refine LeO.bind ?_ (fun _ => ?_))
      | exact ih0 _ _
      | exact ih1 _ _ _ _
      | exact ih2 _ _ _ _ _ _ _ _ _ _ _ _
      | exact LeO.none _
      | refine LeO.ite ?_ ?_
      | refine LeO.bind ?_ (fun _ => ?_)
def pages_Good.T10 : Bool × List (List Nat × List Nat) := (true, [([], []), ([0], [0]), ([], []), ([2], [2]), ([0, 1], []), ([4, 1, 0, 1], [1, 4]), ([0, 1, 2, 3, 4, 5], []), ([6, 3, 5, 0, 1, 2, 3, 4, 5], [3, 6])])
def pages_Good.B10 : List Nat := [0, 1, 0, 4, 3, 19, 63, 127]
theorem pages_Good.tab10 : rtab .any (opsOf Try.f29 10) = pages_Good.T10 := by kernel_rfl
theorem pages_Good.bits10 : waitsOk pages_Good.T10.2 pages_Good.B10 = true := by kernel_rfl
set_option maxHeartbeats 8000000 in
set_option maxRecDepth 100000 in
theorem pages_Good.calls (k : Nat) (A0 : Option Addr) (c0 : Nat) (l0 : List (S43)) (r : Bool) (w : World) (hr0 : Kd.C k43 w A0 l0.length l0) (hc0 : l0.length ≤ c0) (h : pages_Good.f k l0 = some r) :
    Calls Try.prog 29 #[.slice A0 l0.length c0] w fun e w' => e = .returned (.bool r) ∧ Below w.heap.size w w' := by
  have hu43 := Try.underlying43
  have HR0 := Aside0.mk hr0
  have HC0 := Aside0.mk hc0
  clear hr0 hc0
  have HB := Aside0.mk (Below.refl w.heap.size w)
  have H : (if (l0.length : Int) = 0 then (pages_Good.j0 k l0 true) else (pages_Good.j0 k l0 (decide ((l0.length : Int) > 1024)))) = some r := h
  clear h
  have HC2 := Aside0.mk H
  clear H
  go_enter Try.func29, Try.ntmps29
  go_upto_region 1 with (fail)
  go_cut [13] (fun v13 wc => ∃ (kq : Nat) (x13_1 : Bool), v13 = .bool x13_1 ∧ Aside0 (pages_Good.j0 kq l0 x13_1 = some r) ∧ Aside0 (kq ≤ k) ∧ Aside0 (Below w.heap.size w wc))
  case first =>
    have H := HC2.out
    clear HC2
    by_cases c3 : (l0.length : Int) = 0
    · rw [if_pos c3] at H
      have c3b0 : ((l0.length : Int) == 0) = true := beq_iff_eq.mpr c3
      have c3b1 : ((l0.length : Int) != 0) = false := bne_eq_false_iff_eq.mpr c3
      clear c3
      (first | rw [c3b0] | (simp only [i64_w, i32_w]; rw [c3b0]) | skip)
      have H' := Aside0.mk H
      clear H
      go_wp2
      go_meet
      case rel => exact ⟨_, (true), (by first | rfl | (simp; done) | (simp [*]; done)), H', ⟨by first | omega | exact Nat.le_refl _⟩, ⟨by repeat (first | (with_reducible first | exact HB.out | apply below_alloc | apply pw_below_drewN | apply below_drew1) | exact HB.out)⟩⟩
    · rw [if_neg c3] at H
      have c3b0 : ((l0.length : Int) == 0) = false := beq_eq_false_iff_ne.mpr c3
      have c3b1 : ((l0.length : Int) != 0) = true := bne_iff_ne.mpr c3
      have c3b2 : ¬ (l0 = []) := fun h_ => c3 (by rw [h_]; rfl)
      (first | rw [c3b0] | (simp only [i64_w, i32_w]; rw [c3b0]) | skip)
      have H' := Aside0.mk H
      clear H
      go_wp2
      go_meet
      case rel => exact ⟨_, (decide ((l0.length : Int) > 1024)), (by first | rfl | (simp; done) | (simp [*]; done)), H', ⟨by first | omega | exact Nat.le_refl _⟩, ⟨by repeat (first | (with_reducible first | exact HB.out | apply below_alloc | apply pw_below_drewN | apply below_drew1) | exact HB.out)⟩⟩
  case rest =>
    clear HC2
    try clear c2
    try clear p2
    try clear c3
    try clear c3b0
    try clear c3b1
    try clear c3b2
    obtain ⟨kq, x13_1, rfl, HA, HJ1, HB⟩ := hcut
    cases kq with
    | zero => exact absurd HA.out (by simp [pages_Good.j0])
    | succ kj1 =>
      have H := HA.out
      clear HA
      simp only [pages_Good.j0] at H
      by_cases c4 : x13_1 = true
      · subst c4
        have H1 : (some false) = some r := by rw [if_pos rfl] at H; exact H
        clear H
        have H := H1
        clear H1
        obtain rfl := Option.some.inj H
        go_wp2
        go_ret
        exact ⟨by first | rfl | (simp [errW_none, errW_some] <;> rfl) | (simp [*, errW_none, errW_some] <;> rfl), by repeat (first | (with_reducible first | exact HB.out | apply below_alloc | apply pw_below_drewN | apply below_drew1) | exact HB.out)⟩
      · replace c4 := Bool.eq_false_iff.mpr c4
        subst c4
        have H1 : (pages_Good.l0 kj1 l0 l0 (l0.length : Int) 0) = some r := by rw [if_neg (show ¬ (false = true) by decide)] at H; exact H
        clear H
        have H := H1
        clear H1
        have H' := Aside0.mk H
        clear H
        go_wp2
        go_loopg [16] kj1 (fun kq v16 w' => ∃ (x16_2 : Int), v16 = .int .i64 x16_2 ∧ Aside0 (pages_Good.l0 kq l0 l0 (l0.length : Int) x16_2 = some r) ∧ Aside0 (kq ≤ kj1) ∧ Aside0 (Below w.heap.size w w'))
        case atStart => exact ⟨(0), (by first | rfl | (simp; done) | (simp [*]; done)), H', ⟨Nat.le_refl _⟩, ⟨by repeat (first | (with_reducible first | exact HB.out | apply below_alloc | apply pw_below_drewN | apply below_drew1) | exact HB.out)⟩⟩
        case round =>
          clear H'
          try clear c2
          try clear p2
          try clear c3
          try clear c3b0
          try clear c3b1
          try clear c3b2
          try clear c4
          try clear p2
          obtain ⟨x16_2, rfl, HA, HK2, HB⟩ := hrel
          cases gk with
          | zero => exact absurd HA.out (by simp [pages_Good.l0])
          | succ k2 =>
            have H := HA.out
            clear HA
            simp only [pages_Good.l0] at H
            by_cases c5 : x16_2 < (l0.length : Int)
            · rw [if_pos c5] at H
              have c5b0 : decide (x16_2 < (l0.length : Int)) = true := decide_eq_true c5
              clear c5
              by_cases c6 : 0 ≤ x16_2
              · rw [if_pos c6] at H
                have c6b0 : decide (0 ≤ x16_2) = true := decide_eq_true c6
                clear c6
                by_cases c7 : x16_2 < (l0.length : Int)
                · rw [if_pos c7] at H
                  have c7b0 : decide (x16_2 < (l0.length : Int)) = true := decide_eq_true c7
                  clear c7
                  have HC8 := Aside0.mk H
                  clear H
                  have p104 : 0 ≤ (x16_2 : Int) := of_decide_eq_true (by first | (with_reducible assumption) | assumption)
                  have q104 : x16_2 < (l0.length : Int) := of_decide_eq_true (by first | (with_reducible assumption) | assumption)
                  obtain ⟨ad104, e104, hx104_0, hx104_1, hx104_2, hx104_3⟩ := at_T43 HR0.out x16_2 p104 q104
                  cases e104
                  replace hx104_0 := (HB.out.cell (World.block_lt_of_cell? w _ hx104_0)).trans hx104_0
                  replace hx104_1 := (HB.out.cell (World.block_lt_of_cell? w _ hx104_1)).trans hx104_1
                  replace hx104_2 := (HB.out.cell (World.block_lt_of_cell? w _ hx104_2)).trans hx104_2
                  replace hx104_3 := (HB.out.cell (World.block_lt_of_cell? w _ hx104_3)).trans hx104_3
                  replace p104 := eq_true p104
                  replace q104 := eq_true q104
                  go_upto_block 2 with (first | ((with_reducible refine gate_dst (N := 4) rfl ?_); (try (refine gate_guard (by rfl) ?_; dsimp only)); refine box_event ?hg (N := 4) ?hd (cs := #[.int .i64 0, .int .i64 0, .int .i64 0, .int .i64 0]) (t := 43) ?hr ?_; (case hd => rfl); (case hg => rfl); (case hr => first | (go_simp; done) | (go_simp; rfl)); intro gb105 hg w9 hbox hb; have n0_ := Aside0.mk (below_step (by repeat (first | (with_reducible first | exact HB.out | apply below_alloc | apply pw_below_drewN | apply below_drew1) | exact HB.out)) hb); have n1_ := Aside0.mk (hbox); have n2_ := Aside0.mk ((by rw [hg]; exact (below_size (by repeat (first | (with_reducible first | exact HB.out | apply below_alloc | apply pw_below_drewN | apply below_drew1) | exact HB.out))) : w.heap.size ≤ gb105)); have n3_ := Aside0.mk ((by rw [hg]; exact (below_size (by repeat (first | (with_reducible first | exact HB.out | apply below_alloc | apply pw_below_drewN | apply below_drew1) | exact HB.out))) : w.heap.size ≤ gb105)); clear HB; have HB := n0_; have BK105 := n1_; have GW105 := n2_; have GE105 := n3_; clear n0_ n1_ n2_ n3_; clear hb hbox hg; have hcz10_0 : w9.cell? ⟨gb105, 0, none⟩ = some (.int .i64 0) := (blk_cell BK105.out 0).trans rfl; have hcz10_1 : w9.cell? ⟨gb105, 1, none⟩ = some (.int .i64 0) := (blk_cell BK105.out 1).trans rfl; have hcz10_2 : w9.cell? ⟨gb105, 2, none⟩ = some (.int .i64 0) := (blk_cell BK105.out 2).trans rfl; have hcz10_3 : w9.cell? ⟨gb105, 3, none⟩ = some (.int .i64 0) := (blk_cell BK105.out 3).trans rfl; have hfz10_0 := blk_frozen BK105.out 0; have hfz10_1 := blk_frozen BK105.out 1; have hfz10_2 := blk_frozen BK105.out 2; have hfz10_3 := blk_frozen BK105.out 3) | ((with_reducible refine gate_dst (N := 5) rfl ?_); (try (refine gate_guard (by rfl) ?_; dsimp only)); refine box_event ?hg (N := 5) ?hd (cs := #[.int .i64 0, .int .i64 0, .int .i64 0, .int .i64 0]) (t := 43) ?hr ?_; (case hd => rfl); (case hg => rfl); (case hr => first | (go_simp; done) | (go_simp; rfl)); intro gb106 hg w11 hbox hb; have n0_ := Aside0.mk (blk_below (g := gb105) (o := .cells #[.int .i64 ((rd_T43 l0 x16_2).f0), .int .i64 ((rd_T43 l0 x16_2).f1), .int .i64 ((rd_T43 l0 x16_2).f2), .int .i64 ((rd_T43 l0 x16_2).f3)] 43 (0, 0)) (by (with_reducible repeat (first | refine blk_drewN ?_ _ | refine blk_drew ?_ | refine blk_alloc ?_ _)); refine blk_put (cs := #[.int .i64 ((rd_T43 l0 x16_2).f0), .int .i64 ((rd_T43 l0 x16_2).f1), .int .i64 ((rd_T43 l0 x16_2).f2), .int .i64 0]) ?_ 3 _ rfl; (with_reducible repeat (first | refine blk_drewN ?_ _ | refine blk_drew ?_ | refine blk_alloc ?_ _)); refine blk_put (cs := #[.int .i64 ((rd_T43 l0 x16_2).f0), .int .i64 ((rd_T43 l0 x16_2).f1), .int .i64 0, .int .i64 0]) ?_ 2 _ rfl; (with_reducible repeat (first | refine blk_drewN ?_ _ | refine blk_drew ?_ | refine blk_alloc ?_ _)); refine blk_put (cs := #[.int .i64 ((rd_T43 l0 x16_2).f0), .int .i64 0, .int .i64 0, .int .i64 0]) ?_ 1 _ rfl; (with_reducible repeat (first | refine blk_drewN ?_ _ | refine blk_drew ?_ | refine blk_alloc ?_ _)); refine blk_put (cs := #[.int .i64 0, .int .i64 0, .int .i64 0, .int .i64 0]) ?_ 0 _ rfl; (with_reducible repeat (first | refine blk_drewN ?_ _ | refine blk_drew ?_ | refine blk_alloc ?_ _)); exact BK105.out) hb); have n1_ := Aside0.mk (below_step (by repeat (first | (with_reducible first | exact HB.out | apply below_alloc | apply pw_below_drewN | apply below_drew1 | refine below_set ?_ GE105.out) | exact HB.out)) hb); have n2_ := Aside0.mk (hbox); have n3_ := Aside0.mk ((by rw [hg]; exact (below_size (by repeat (first | (with_reducible first | exact HB.out | apply below_alloc | apply pw_below_drewN | apply below_drew1 | refine below_set ?_ GE105.out) | exact HB.out))) : w.heap.size ≤ gb106)); have n4_ := Aside0.mk ((by rw [hg]; exact (below_size (by repeat (first | (with_reducible first | exact HB.out | apply below_alloc | apply pw_below_drewN | apply below_drew1 | refine below_set ?_ GE105.out) | exact HB.out))) : w.heap.size ≤ gb106)); have n5_ := Aside0.mk ((by rw [hg]; exact Nat.ne_of_lt (blk_lt (g := gb105) (o := .cells #[.int .i64 ((rd_T43 l0 x16_2).f0), .int .i64 ((rd_T43 l0 x16_2).f1), .int .i64 ((rd_T43 l0 x16_2).f2), .int .i64 ((rd_T43 l0 x16_2).f3)] 43 (0, 0)) (by (with_reducible repeat (first | refine blk_drewN ?_ _ | refine blk_drew ?_ | refine blk_alloc ?_ _)); refine blk_put (cs := #[.int .i64 ((rd_T43 l0 x16_2).f0), .int .i64 ((rd_T43 l0 x16_2).f1), .int .i64 ((rd_T43 l0 x16_2).f2), .int .i64 0]) ?_ 3 _ rfl; (with_reducible repeat (first | refine blk_drewN ?_ _ | refine blk_drew ?_ | refine blk_alloc ?_ _)); refine blk_put (cs := #[.int .i64 ((rd_T43 l0 x16_2).f0), .int .i64 ((rd_T43 l0 x16_2).f1), .int .i64 0, .int .i64 0]) ?_ 2 _ rfl; (with_reducible repeat (first | refine blk_drewN ?_ _ | refine blk_drew ?_ | refine blk_alloc ?_ _)); refine blk_put (cs := #[.int .i64 ((rd_T43 l0 x16_2).f0), .int .i64 0, .int .i64 0, .int .i64 0]) ?_ 1 _ rfl; (with_reducible repeat (first | refine blk_drewN ?_ _ | refine blk_drew ?_ | refine blk_alloc ?_ _)); refine blk_put (cs := #[.int .i64 0, .int .i64 0, .int .i64 0, .int .i64 0]) ?_ 0 _ rfl; (with_reducible repeat (first | refine blk_drewN ?_ _ | refine blk_drew ?_ | refine blk_alloc ?_ _)); exact BK105.out)) : gb105 ≠ gb106)); have n6_ := Aside0.mk ((by rw [hg]; exact Nat.ne_of_gt (blk_lt (g := gb105) (o := .cells #[.int .i64 ((rd_T43 l0 x16_2).f0), .int .i64 ((rd_T43 l0 x16_2).f1), .int .i64 ((rd_T43 l0 x16_2).f2), .int .i64 ((rd_T43 l0 x16_2).f3)] 43 (0, 0)) (by (with_reducible repeat (first | refine blk_drewN ?_ _ | refine blk_drew ?_ | refine blk_alloc ?_ _)); refine blk_put (cs := #[.int .i64 ((rd_T43 l0 x16_2).f0), .int .i64 ((rd_T43 l0 x16_2).f1), .int .i64 ((rd_T43 l0 x16_2).f2), .int .i64 0]) ?_ 3 _ rfl; (with_reducible repeat (first | refine blk_drewN ?_ _ | refine blk_drew ?_ | refine blk_alloc ?_ _)); refine blk_put (cs := #[.int .i64 ((rd_T43 l0 x16_2).f0), .int .i64 ((rd_T43 l0 x16_2).f1), .int .i64 0, .int .i64 0]) ?_ 2 _ rfl; (with_reducible repeat (first | refine blk_drewN ?_ _ | refine blk_drew ?_ | refine blk_alloc ?_ _)); refine blk_put (cs := #[.int .i64 ((rd_T43 l0 x16_2).f0), .int .i64 0, .int .i64 0, .int .i64 0]) ?_ 1 _ rfl; (with_reducible repeat (first | refine blk_drewN ?_ _ | refine blk_drew ?_ | refine blk_alloc ?_ _)); refine blk_put (cs := #[.int .i64 0, .int .i64 0, .int .i64 0, .int .i64 0]) ?_ 0 _ rfl; (with_reducible repeat (first | refine blk_drewN ?_ _ | refine blk_drew ?_ | refine blk_alloc ?_ _)); exact BK105.out)) : gb106 ≠ gb105)); clear BK105; clear HB; have BK105 := n0_; have HB := n1_; have BK106 := n2_; have GW106 := n3_; have GE106 := n4_; have NB105_106 := n5_; have NB106_105 := n6_; clear n0_ n1_ n2_ n3_ n4_ n5_ n6_; clear hb hbox hg; have hnb12 := NB106_105.out; have hnc12 := NB105_106.out; have hcz13_0 : w11.cell? ⟨gb106, 0, none⟩ = some (.int .i64 0) := (blk_cell BK106.out 0).trans rfl; have hcz13_1 : w11.cell? ⟨gb106, 1, none⟩ = some (.int .i64 0) := (blk_cell BK106.out 1).trans rfl; have hcz13_2 : w11.cell? ⟨gb106, 2, none⟩ = some (.int .i64 0) := (blk_cell BK106.out 2).trans rfl; have hcz13_3 : w11.cell? ⟨gb106, 3, none⟩ = some (.int .i64 0) := (blk_cell BK106.out 3).trans rfl; have hfz13_0 := blk_frozen BK106.out 0; have hfz13_1 := blk_frozen BK106.out 1; have hfz13_2 := blk_frozen BK106.out 2; have hfz13_3 := blk_frozen BK106.out 3; have hcz14_0 : w11.cell? ⟨gb105, 0, none⟩ = some (.int .i64 ((rd_T43 l0 x16_2).f0)) := (blk_cell BK105.out 0).trans rfl; have hcz14_1 : w11.cell? ⟨gb105, 1, none⟩ = some (.int .i64 ((rd_T43 l0 x16_2).f1)) := (blk_cell BK105.out 1).trans rfl; have hcz14_2 : w11.cell? ⟨gb105, 2, none⟩ = some (.int .i64 ((rd_T43 l0 x16_2).f2)) := (blk_cell BK105.out 2).trans rfl; have hcz14_3 : w11.cell? ⟨gb105, 3, none⟩ = some (.int .i64 ((rd_T43 l0 x16_2).f3)) := (blk_cell BK105.out 3).trans rfl; have hfz14_0 := blk_frozen BK105.out 0; have hfz14_1 := blk_frozen BK105.out 1; have hfz14_2 := blk_frozen BK105.out 2; have hfz14_3 := blk_frozen BK105.out 3))
                  (try simp only [Act.put, List.setIfInBounds_toArray, List.set_cons_zero, List.set_cons_succ])
                  go_cut [] (fun wc => ∃ (kq : Nat) (x107001_7 : Int) (x107002_7 : Int) (x107003_7 : Int), Aside0 (pages_Good.j2 kq l0 l0 (l0.length : Int) x16_2 ((rd_T43 l0 x16_2).f0) ((rd_T43 l0 x16_2).f1) ((rd_T43 l0 x16_2).f2) ((rd_T43 l0 x16_2).f3) ((rd_T43 l0 x16_2).f0) x107001_7 x107002_7 x107003_7 = some r) ∧ Aside0 (kq ≤ k2) ∧ Aside0 (wc.heap[gb105]? = some (.cells #[.int .i64 ((rd_T43 l0 x16_2).f0), .int .i64 ((rd_T43 l0 x16_2).f1), .int .i64 ((rd_T43 l0 x16_2).f2), .int .i64 ((rd_T43 l0 x16_2).f3)] 43 (0, 0))) ∧ Aside0 (wc.heap[gb106]? = some (.cells #[.int .i64 ((rd_T43 l0 x16_2).f0), .int .i64 x107001_7, .int .i64 x107002_7, .int .i64 x107003_7] 43 (0, 0))) ∧ Aside0 (Below w.heap.size w wc))
                  case first =>
                    have H := HC8.out
                    clear HC8
                    by_cases c15 : ((rd_T43 l0 x16_2).f0) = 1
                    · rw [if_pos c15] at H
                      have c15b0 : (((rd_T43 l0 x16_2).f0) == 1) = true := beq_iff_eq.mpr c15
                      have c15b1 : (((rd_T43 l0 x16_2).f0) != 1) = false := bne_eq_false_iff_eq.mpr c15
                      clear c15
                      (first | rw [c15b0] | (simp only [i64_w, i32_w]; rw [c15b0]) | skip)
                      have H' := Aside0.mk H
                      clear H
                      try go_wp2
                      have n0_ : Aside0 (((((w11.setCell ⟨gb106, 0, none⟩ (.int .i64 ((rd_T43 l0 x16_2).f0))).setCell ⟨gb106, 1, none⟩ (.int .i64 0)).setCell ⟨gb106, 2, none⟩ (.int .i64 0)).setCell ⟨gb106, 3, none⟩ (.int .i64 0)).heap[gb105]? = some (.cells #[.int .i64 ((rd_T43 l0 x16_2).f0), .int .i64 ((rd_T43 l0 x16_2).f1), .int .i64 ((rd_T43 l0 x16_2).f2), .int .i64 ((rd_T43 l0 x16_2).f3)] 43 (0, 0))) := ⟨by (with_reducible repeat (first | refine blk_drewN ?_ _ | refine blk_drew ?_ | refine blk_alloc ?_ _)); refine blk_far ?_ NB105_106.out _; (with_reducible repeat (first | refine blk_drewN ?_ _ | refine blk_drew ?_ | refine blk_alloc ?_ _)); refine blk_far ?_ NB105_106.out _; (with_reducible repeat (first | refine blk_drewN ?_ _ | refine blk_drew ?_ | refine blk_alloc ?_ _)); refine blk_far ?_ NB105_106.out _; (with_reducible repeat (first | refine blk_drewN ?_ _ | refine blk_drew ?_ | refine blk_alloc ?_ _)); refine blk_far ?_ NB105_106.out _; (with_reducible repeat (first | refine blk_drewN ?_ _ | refine blk_drew ?_ | refine blk_alloc ?_ _)); exact BK105.out⟩
                      have n1_ : Aside0 (((((w11.setCell ⟨gb106, 0, none⟩ (.int .i64 ((rd_T43 l0 x16_2).f0))).setCell ⟨gb106, 1, none⟩ (.int .i64 0)).setCell ⟨gb106, 2, none⟩ (.int .i64 0)).setCell ⟨gb106, 3, none⟩ (.int .i64 0)).heap[gb106]? = some (.cells #[.int .i64 ((rd_T43 l0 x16_2).f0), .int .i64 0, .int .i64 0, .int .i64 0] 43 (0, 0))) := ⟨by (with_reducible repeat (first | refine blk_drewN ?_ _ | refine blk_drew ?_ | refine blk_alloc ?_ _)); refine blk_put (cs := #[.int .i64 ((rd_T43 l0 x16_2).f0), .int .i64 0, .int .i64 0, .int .i64 0]) ?_ 3 _ rfl; (with_reducible repeat (first | refine blk_drewN ?_ _ | refine blk_drew ?_ | refine blk_alloc ?_ _)); refine blk_put (cs := #[.int .i64 ((rd_T43 l0 x16_2).f0), .int .i64 0, .int .i64 0, .int .i64 0]) ?_ 2 _ rfl; (with_reducible repeat (first | refine blk_drewN ?_ _ | refine blk_drew ?_ | refine blk_alloc ?_ _)); refine blk_put (cs := #[.int .i64 ((rd_T43 l0 x16_2).f0), .int .i64 0, .int .i64 0, .int .i64 0]) ?_ 1 _ rfl; (with_reducible repeat (first | refine blk_drewN ?_ _ | refine blk_drew ?_ | refine blk_alloc ?_ _)); refine blk_put (cs := #[.int .i64 0, .int .i64 0, .int .i64 0, .int .i64 0]) ?_ 0 _ rfl; (with_reducible repeat (first | refine blk_drewN ?_ _ | refine blk_drew ?_ | refine blk_alloc ?_ _)); exact BK106.out⟩
                      have n2_ : Aside0 (Below w.heap.size w ((((w11.setCell ⟨gb106, 0, none⟩ (.int .i64 ((rd_T43 l0 x16_2).f0))).setCell ⟨gb106, 1, none⟩ (.int .i64 0)).setCell ⟨gb106, 2, none⟩ (.int .i64 0)).setCell ⟨gb106, 3, none⟩ (.int .i64 0))) := ⟨by repeat (first | (with_reducible first | exact HB.out | apply below_alloc | apply pw_below_drewN | apply below_drew1 | refine below_set ?_ GE105.out | refine below_set ?_ GE106.out) | exact HB.out)⟩
                      (try clear BK105)
                      (try clear BK106)
                      (try clear HB)
                      generalize ((((w11.setCell ⟨gb106, 0, none⟩ (.int .i64 ((rd_T43 l0 x16_2).f0))).setCell ⟨gb106, 1, none⟩ (.int .i64 0)).setCell ⟨gb106, 2, none⟩ (.int .i64 0)).setCell ⟨gb106, 3, none⟩ (.int .i64 0)) = w16 at n0_ n1_ n2_ ⊢
                      have BK105 := n0_
                      have BK106 := n1_
                      have HB := n2_
                      clear n0_ n1_ n2_
                      have n0_ := Aside0.mk (blk_drew BK105.out)
                      have n1_ := Aside0.mk (blk_drew BK106.out)
                      have n2_ := Aside0.mk (below_drew1 HB.out)
                      clear BK105
                      clear BK106
                      clear HB
                      have BK105 := n0_
                      have BK106 := n1_
                      have HB := n2_
                      clear n0_ n1_ n2_
                      refine start_ (n := 8) (S := fun w' => w'.cell? ⟨gb105, 0, none⟩ = some (.int .i64 ((rd_T43 l0 x16_2).f0)) ∧ w'.cell? ⟨gb105, 1, none⟩ = some (.int .i64 ((rd_T43 l0 x16_2).f1)) ∧ w'.cell? ⟨gb105, 2, none⟩ = some (.int .i64 ((rd_T43 l0 x16_2).f2)) ∧ w'.cell? ⟨gb105, 3, none⟩ = some (.int .i64 ((rd_T43 l0 x16_2).f3))) (ds := []) #[false, false, false, false, false, false, false, false] (by kernel_rfl) rfl rfl ⟨(blk_cell BK105.out 0).trans rfl, (blk_cell BK105.out 1).trans rfl, (blk_cell BK105.out 2).trans rfl, (blk_cell BK105.out 3).trans rfl⟩ (fun hHeld => ?_); refine with_tabW pages_Good.tab10 pages_Good.bits10 (fun HT_ HW_ => ?_)
                      generalize w16.drew = w17 at BK105 BK106 HB hHeld ⊢
                      refine pure_ (i := 0) (N := some 27) (v := ?_) (a' := ?_) #[true, false, false, false, false, false, false, false] rfl rfl (any_of HT_.out (by kernel_rfl)) (fun _ _ _ h => h) (Or.inl ⟨by rfl, ?_⟩) ?_ ?_
                      rotate_left
                      · intro w'
                        go_simp
                        with_reducible rfl
                      rotate_left
                      · simp only [Act.put, List.setIfInBounds_toArray, List.set_cons_zero, List.set_cons_succ, i64_w, i32_w]
                        rfl
                      refine pure_ (i := 2) (N := some 29) (v := ?_) (a' := ?_) #[true, false, true, false, false, false, false, false] rfl rfl (any_of HT_.out (by kernel_rfl)) (fun _ _ _ h => h) (Or.inl ⟨by rfl, ?_⟩) ?_ ?_
                      rotate_left
                      · intro w'
                        go_simp
                        with_reducible rfl
                      rotate_left
                      · simp only [Act.put, List.setIfInBounds_toArray, List.set_cons_zero, List.set_cons_succ, i64_w, i32_w]
                        rfl
                      refine take_ (i := 1) (N := some 28) (v := ?_) (a' := ?_) #[true, true, true, false, false, false, false, false] rfl rfl (take_ofW HT_.out HW_.out (by kernel_rfl)) (fun _ _ _ h => h) (Or.inl ⟨by rfl, ?_⟩) hHeld ?_ ?_
                      rotate_left
                      · rintro w' ⟨s0, s1, s2, s3⟩
                        go_simp
                        with_reducible rfl
                      rotate_left
                      · simp only [Act.put, List.setIfInBounds_toArray, List.set_cons_zero, List.set_cons_succ, i64_w, i32_w]
                        rfl
                      refine pure_ (i := 4) (N := some 31) (v := ?_) (a' := ?_) #[true, true, true, false, true, false, false, false] rfl rfl (any_of HT_.out (by kernel_rfl)) (fun _ _ _ h => h) (Or.inl ⟨by rfl, ?_⟩) ?_ ?_
                      rotate_left
                      · intro w'
                        go_simp
                        with_reducible rfl
                      rotate_left
                      · simp only [Act.put, List.setIfInBounds_toArray, List.set_cons_zero, List.set_cons_succ, i64_w, i32_w]
                        rfl
                      refine take_ (i := 3) (N := some 30) (v := ?_) (a' := ?_) #[true, true, true, true, true, false, false, false] rfl rfl (take_ofW HT_.out HW_.out (by kernel_rfl)) (fun _ _ _ h => h) (Or.inl ⟨by rfl, ?_⟩) hHeld ?_ ?_
                      rotate_left
                      · rintro w' ⟨s0, s1, s2, s3⟩
                        go_simp
                        with_reducible rfl
                      rotate_left
                      · simp only [Act.put, List.setIfInBounds_toArray, List.set_cons_zero, List.set_cons_succ, i64_w, i32_w]
                        rfl
                      refine one_ (i := 5) (N := none) #[true, true, true, true, true, true, false, false] rfl rfl (one_of HT_.out (by kernel_rfl)) (by decide) (fun K hK => ?_)
                      have hs18 : w17.cell? ⟨gb106, 1, none⟩ = some (.int .i64 0) := (blk_cell BK106.out 1).trans rfl
                      have hfs18 := blk_frozen BK106.out 1
                      have hns18_0 := NB105_106.out
                      have hms18_0 := NB106_105.out
                      refine skip_ (w1 := ?_) (by rfl) rfl ?_ ?_
                      rotate_left
                      · go_simp
                        rfl
                      refine hK.out _ _ ⟨((cell_far (p := ⟨gb106, _, none⟩) NB105_106.out _).trans (hHeld.1)), ((cell_far (p := ⟨gb106, _, none⟩) NB105_106.out _).trans (hHeld.2.1)), ((cell_far (p := ⟨gb106, _, none⟩) NB105_106.out _).trans (hHeld.2.2.1)), ((cell_far (p := ⟨gb106, _, none⟩) NB105_106.out _).trans (hHeld.2.2.2))⟩ (fun hHeld => ?_)
                      clear hK K
                      refine pure_ (i := 6) (N := some 32) (v := ?_) (a' := ?_) #[true, true, true, true, true, true, true, false] rfl rfl (any_of HT_.out (by kernel_rfl)) (fun _ _ _ h => h) (Or.inl ⟨by rfl, ?_⟩) ?_ ?_
                      rotate_left
                      · intro w'
                        go_simp
                        with_reducible rfl
                      rotate_left
                      · simp only [Act.put, List.setIfInBounds_toArray, List.set_cons_zero, List.set_cons_succ, i64_w, i32_w]
                        rfl
                      refine one_ (i := 7) (N := none) #[true, true, true, true, true, true, true, true] rfl rfl (one_of HT_.out (by kernel_rfl)) (by decide) (fun K hK => ?_)
                      have hs19 : w17.cell? ⟨gb106, 2, none⟩ = some (.int .i64 0) := (blk_cell BK106.out 2).trans rfl
                      have hfs19 := blk_frozen BK106.out 2
                      have hns19_0 := NB105_106.out
                      have hms19_0 := NB106_105.out
                      refine skip_ (w1 := ?_) (by rfl) rfl ?_ ?_
                      rotate_left
                      · go_simp
                        rfl
                      refine hK.out _ _ ⟨((cell_far (p := ⟨gb106, _, none⟩) NB105_106.out _).trans (hHeld.1)), ((cell_far (p := ⟨gb106, _, none⟩) NB105_106.out _).trans (hHeld.2.1)), ((cell_far (p := ⟨gb106, _, none⟩) NB105_106.out _).trans (hHeld.2.2.1)), ((cell_far (p := ⟨gb106, _, none⟩) NB105_106.out _).trans (hHeld.2.2.2))⟩ (fun hHeld => ?_)
                      clear hK K
                      refine done_ (done_of HT_.out (by kernel_rfl)) ?_
                      try go_wp2
                      go_meet
                      case rel => exact ⟨_, ((rd_T43 l0 x16_2).f1), ((rd_T43 l0 x16_2).f2), (0), H', ⟨by have := HJ1.out; have := HK2.out; first | omega | exact Nat.le_refl _⟩, ⟨by (with_reducible repeat (first | refine blk_drewN ?_ _ | refine blk_drew ?_ | refine blk_alloc ?_ _)); refine blk_far ?_ NB105_106.out _; (with_reducible repeat (first | refine blk_drewN ?_ _ | refine blk_drew ?_ | refine blk_alloc ?_ _)); refine blk_far ?_ NB105_106.out _; (with_reducible repeat (first | refine blk_drewN ?_ _ | refine blk_drew ?_ | refine blk_alloc ?_ _)); exact BK105.out⟩, ⟨by (with_reducible repeat (first | refine blk_drewN ?_ _ | refine blk_drew ?_ | refine blk_alloc ?_ _)); refine blk_put (cs := #[.int .i64 ((rd_T43 l0 x16_2).f0), .int .i64 ((rd_T43 l0 x16_2).f1), .int .i64 0, .int .i64 0]) ?_ 2 _ rfl; (with_reducible repeat (first | refine blk_drewN ?_ _ | refine blk_drew ?_ | refine blk_alloc ?_ _)); refine blk_put (cs := #[.int .i64 ((rd_T43 l0 x16_2).f0), .int .i64 0, .int .i64 0, .int .i64 0]) ?_ 1 _ rfl; (with_reducible repeat (first | refine blk_drewN ?_ _ | refine blk_drew ?_ | refine blk_alloc ?_ _)); exact BK106.out⟩, ⟨by repeat (first | (with_reducible first | exact HB.out | apply below_alloc | apply pw_below_drewN | apply below_drew1 | refine below_set ?_ GE105.out | refine below_set ?_ GE106.out) | exact HB.out)⟩⟩
                    · rw [if_neg c15] at H
                      have c15b0 : (((rd_T43 l0 x16_2).f0) == 1) = false := beq_eq_false_iff_ne.mpr c15
                      have c15b1 : (((rd_T43 l0 x16_2).f0) != 1) = true := bne_iff_ne.mpr c15
                      (first | rw [c15b0] | (simp only [i64_w, i32_w]; rw [c15b0]) | skip)
                      by_cases c20 : ((rd_T43 l0 x16_2).f0) = 2
                      · rw [if_pos c20] at H
                        have c20b0 : (((rd_T43 l0 x16_2).f0) == 2) = true := beq_iff_eq.mpr c20
                        have c20b1 : (((rd_T43 l0 x16_2).f0) != 2) = false := bne_eq_false_iff_eq.mpr c20
                        clear c20
                        have H' := Aside0.mk H
                        clear H
                        have hnb21 := NB105_106.out
                        have hnc21 := NB106_105.out
                        have hcz22_0 : w11.cell? ⟨gb105, 0, none⟩ = some (.int .i64 ((rd_T43 l0 x16_2).f0)) := (blk_cell BK105.out 0).trans rfl
                        have hcz22_1 : w11.cell? ⟨gb105, 1, none⟩ = some (.int .i64 ((rd_T43 l0 x16_2).f1)) := (blk_cell BK105.out 1).trans rfl
                        have hcz22_2 : w11.cell? ⟨gb105, 2, none⟩ = some (.int .i64 ((rd_T43 l0 x16_2).f2)) := (blk_cell BK105.out 2).trans rfl
                        have hcz22_3 : w11.cell? ⟨gb105, 3, none⟩ = some (.int .i64 ((rd_T43 l0 x16_2).f3)) := (blk_cell BK105.out 3).trans rfl
                        have hfz22_0 := blk_frozen BK105.out 0
                        have hfz22_1 := blk_frozen BK105.out 1
                        have hfz22_2 := blk_frozen BK105.out 2
                        have hfz22_3 := blk_frozen BK105.out 3
                        have hcz23_0 : w11.cell? ⟨gb106, 0, none⟩ = some (.int .i64 0) := (blk_cell BK106.out 0).trans rfl
                        have hcz23_1 : w11.cell? ⟨gb106, 1, none⟩ = some (.int .i64 0) := (blk_cell BK106.out 1).trans rfl
                        have hcz23_2 : w11.cell? ⟨gb106, 2, none⟩ = some (.int .i64 0) := (blk_cell BK106.out 2).trans rfl
                        have hcz23_3 : w11.cell? ⟨gb106, 3, none⟩ = some (.int .i64 0) := (blk_cell BK106.out 3).trans rfl
                        have hfz23_0 := blk_frozen BK106.out 0
                        have hfz23_1 := blk_frozen BK106.out 1
                        have hfz23_2 := blk_frozen BK106.out 2
                        have hfz23_3 := blk_frozen BK106.out 3
                        go_wp2
                        go_meet
                        case rel => exact ⟨_, ((rd_T43 l0 x16_2).f1), (0), (0), H', ⟨by have := HJ1.out; have := HK2.out; first | omega | exact Nat.le_refl _⟩, ⟨by (with_reducible repeat (first | refine blk_drewN ?_ _ | refine blk_drew ?_ | refine blk_alloc ?_ _)); refine blk_far ?_ NB105_106.out _; (with_reducible repeat (first | refine blk_drewN ?_ _ | refine blk_drew ?_ | refine blk_alloc ?_ _)); refine blk_far ?_ NB105_106.out _; (with_reducible repeat (first | refine blk_drewN ?_ _ | refine blk_drew ?_ | refine blk_alloc ?_ _)); refine blk_far ?_ NB105_106.out _; (with_reducible repeat (first | refine blk_drewN ?_ _ | refine blk_drew ?_ | refine blk_alloc ?_ _)); refine blk_far ?_ NB105_106.out _; (with_reducible repeat (first | refine blk_drewN ?_ _ | refine blk_drew ?_ | refine blk_alloc ?_ _)); refine blk_far ?_ NB105_106.out _; (with_reducible repeat (first | refine blk_drewN ?_ _ | refine blk_drew ?_ | refine blk_alloc ?_ _)); exact BK105.out⟩, ⟨by (with_reducible repeat (first | refine blk_drewN ?_ _ | refine blk_drew ?_ | refine blk_alloc ?_ _)); refine blk_put (cs := #[.int .i64 ((rd_T43 l0 x16_2).f0), .int .i64 0, .int .i64 0, .int .i64 0]) ?_ 1 _ rfl; (with_reducible repeat (first | refine blk_drewN ?_ _ | refine blk_drew ?_ | refine blk_alloc ?_ _)); refine blk_put (cs := #[.int .i64 ((rd_T43 l0 x16_2).f0), .int .i64 0, .int .i64 0, .int .i64 0]) ?_ 3 _ rfl; (with_reducible repeat (first | refine blk_drewN ?_ _ | refine blk_drew ?_ | refine blk_alloc ?_ _)); refine blk_put (cs := #[.int .i64 ((rd_T43 l0 x16_2).f0), .int .i64 0, .int .i64 0, .int .i64 0]) ?_ 2 _ rfl; (with_reducible repeat (first | refine blk_drewN ?_ _ | refine blk_drew ?_ | refine blk_alloc ?_ _)); refine blk_put (cs := #[.int .i64 ((rd_T43 l0 x16_2).f0), .int .i64 0, .int .i64 0, .int .i64 0]) ?_ 1 _ rfl; (with_reducible repeat (first | refine blk_drewN ?_ _ | refine blk_drew ?_ | refine blk_alloc ?_ _)); refine blk_put (cs := #[.int .i64 0, .int .i64 0, .int .i64 0, .int .i64 0]) ?_ 0 _ rfl; (with_reducible repeat (first | refine blk_drewN ?_ _ | refine blk_drew ?_ | refine blk_alloc ?_ _)); exact BK106.out⟩, ⟨by repeat (first | (with_reducible first | exact HB.out | apply below_alloc | apply pw_below_drewN | apply below_drew1 | refine below_set ?_ GE105.out | refine below_set ?_ GE106.out) | exact HB.out)⟩⟩
                      · rw [if_neg c20] at H
                        have c20b0 : (((rd_T43 l0 x16_2).f0) == 2) = false := beq_eq_false_iff_ne.mpr c20
                        have c20b1 : (((rd_T43 l0 x16_2).f0) != 2) = true := bne_iff_ne.mpr c20
                        by_cases c24 : ((rd_T43 l0 x16_2).f0) = 3
                        · rw [if_pos c24] at H
                          have c24b0 : (((rd_T43 l0 x16_2).f0) == 3) = true := beq_iff_eq.mpr c24
                          have c24b1 : (((rd_T43 l0 x16_2).f0) != 3) = false := bne_eq_false_iff_eq.mpr c24
                          clear c24
                          have H' := Aside0.mk H
                          clear H
                          have hnb25 := NB105_106.out
                          have hnc25 := NB106_105.out
                          have hcz26_0 : w11.cell? ⟨gb105, 0, none⟩ = some (.int .i64 ((rd_T43 l0 x16_2).f0)) := (blk_cell BK105.out 0).trans rfl
                          have hcz26_1 : w11.cell? ⟨gb105, 1, none⟩ = some (.int .i64 ((rd_T43 l0 x16_2).f1)) := (blk_cell BK105.out 1).trans rfl
                          have hcz26_2 : w11.cell? ⟨gb105, 2, none⟩ = some (.int .i64 ((rd_T43 l0 x16_2).f2)) := (blk_cell BK105.out 2).trans rfl
                          have hcz26_3 : w11.cell? ⟨gb105, 3, none⟩ = some (.int .i64 ((rd_T43 l0 x16_2).f3)) := (blk_cell BK105.out 3).trans rfl
                          have hfz26_0 := blk_frozen BK105.out 0
                          have hfz26_1 := blk_frozen BK105.out 1
                          have hfz26_2 := blk_frozen BK105.out 2
                          have hfz26_3 := blk_frozen BK105.out 3
                          have hcz27_0 : w11.cell? ⟨gb106, 0, none⟩ = some (.int .i64 0) := (blk_cell BK106.out 0).trans rfl
                          have hcz27_1 : w11.cell? ⟨gb106, 1, none⟩ = some (.int .i64 0) := (blk_cell BK106.out 1).trans rfl
                          have hcz27_2 : w11.cell? ⟨gb106, 2, none⟩ = some (.int .i64 0) := (blk_cell BK106.out 2).trans rfl
                          have hcz27_3 : w11.cell? ⟨gb106, 3, none⟩ = some (.int .i64 0) := (blk_cell BK106.out 3).trans rfl
                          have hfz27_0 := blk_frozen BK106.out 0
                          have hfz27_1 := blk_frozen BK106.out 1
                          have hfz27_2 := blk_frozen BK106.out 2
                          have hfz27_3 := blk_frozen BK106.out 3
                          go_wp2
                          go_meet
                          case rel => exact ⟨_, (0), (0), ((rd_T43 l0 x16_2).f3), H', ⟨by have := HJ1.out; have := HK2.out; first | omega | exact Nat.le_refl _⟩, ⟨by (with_reducible repeat (first | refine blk_drewN ?_ _ | refine blk_drew ?_ | refine blk_alloc ?_ _)); refine blk_far ?_ NB105_106.out _; (with_reducible repeat (first | refine blk_drewN ?_ _ | refine blk_drew ?_ | refine blk_alloc ?_ _)); refine blk_far ?_ NB105_106.out _; (with_reducible repeat (first | refine blk_drewN ?_ _ | refine blk_drew ?_ | refine blk_alloc ?_ _)); refine blk_far ?_ NB105_106.out _; (with_reducible repeat (first | refine blk_drewN ?_ _ | refine blk_drew ?_ | refine blk_alloc ?_ _)); refine blk_far ?_ NB105_106.out _; (with_reducible repeat (first | refine blk_drewN ?_ _ | refine blk_drew ?_ | refine blk_alloc ?_ _)); refine blk_far ?_ NB105_106.out _; (with_reducible repeat (first | refine blk_drewN ?_ _ | refine blk_drew ?_ | refine blk_alloc ?_ _)); exact BK105.out⟩, ⟨by (with_reducible repeat (first | refine blk_drewN ?_ _ | refine blk_drew ?_ | refine blk_alloc ?_ _)); refine blk_put (cs := #[.int .i64 ((rd_T43 l0 x16_2).f0), .int .i64 0, .int .i64 0, .int .i64 0]) ?_ 3 _ rfl; (with_reducible repeat (first | refine blk_drewN ?_ _ | refine blk_drew ?_ | refine blk_alloc ?_ _)); refine blk_put (cs := #[.int .i64 ((rd_T43 l0 x16_2).f0), .int .i64 0, .int .i64 0, .int .i64 0]) ?_ 3 _ rfl; (with_reducible repeat (first | refine blk_drewN ?_ _ | refine blk_drew ?_ | refine blk_alloc ?_ _)); refine blk_put (cs := #[.int .i64 ((rd_T43 l0 x16_2).f0), .int .i64 0, .int .i64 0, .int .i64 0]) ?_ 2 _ rfl; (with_reducible repeat (first | refine blk_drewN ?_ _ | refine blk_drew ?_ | refine blk_alloc ?_ _)); refine blk_put (cs := #[.int .i64 ((rd_T43 l0 x16_2).f0), .int .i64 0, .int .i64 0, .int .i64 0]) ?_ 1 _ rfl; (with_reducible repeat (first | refine blk_drewN ?_ _ | refine blk_drew ?_ | refine blk_alloc ?_ _)); refine blk_put (cs := #[.int .i64 0, .int .i64 0, .int .i64 0, .int .i64 0]) ?_ 0 _ rfl; (with_reducible repeat (first | refine blk_drewN ?_ _ | refine blk_drew ?_ | refine blk_alloc ?_ _)); exact BK106.out⟩, ⟨by repeat (first | (with_reducible first | exact HB.out | apply below_alloc | apply pw_below_drewN | apply below_drew1 | refine below_set ?_ GE105.out | refine below_set ?_ GE106.out) | exact HB.out)⟩⟩
                        · rw [if_neg c24] at H
                          have c24b0 : (((rd_T43 l0 x16_2).f0) == 3) = false := beq_eq_false_iff_ne.mpr c24
                          have c24b1 : (((rd_T43 l0 x16_2).f0) != 3) = true := bne_iff_ne.mpr c24
                          obtain rfl := Option.some.inj H
                          go_wp2
                          go_ret
                          exact ⟨by first | rfl | (simp [errW_none, errW_some] <;> rfl) | (simp [*, errW_none, errW_some] <;> rfl), by repeat (first | (with_reducible first | exact HB.out | apply below_alloc | apply pw_below_drewN | apply below_drew1 | refine below_set ?_ GE105.out | refine below_set ?_ GE106.out) | exact HB.out)⟩
                  case rest =>
                    clear HC8
                    try clear c1
                    try clear p1
                    try clear q1
                    try clear hx1
                    try clear c2
                    try clear p2
                    try clear c3
                    try clear c3b0
                    try clear c3b1
                    try clear c3b2
                    try clear c4
                    try clear c5
                    try clear c5b0
                    try clear c6
                    try clear c6b0
                    try clear c7
                    try clear c7b0
                    try clear p10
                    try clear q10
                    try clear hx10
                    try clear c12
                    try clear c15
                    try clear c15b0
                    try clear c15b1
                    try clear c20
                    try clear c20b0
                    try clear c20b1
                    try clear c21
                    try clear c24
                    try clear c24b0
                    try clear c24b1
                    try clear c25
                    try clear hcz10_0
                    try clear hcz10_1
                    try clear hcz10_2
                    try clear hcz10_3
                    try clear hcz13_0
                    try clear hcz13_1
                    try clear hcz13_2
                    try clear hcz13_3
                    try clear hcz14_0
                    try clear hcz14_1
                    try clear hcz14_2
                    try clear hcz14_3
                    try clear hcz22_0
                    try clear hcz22_1
                    try clear hcz22_2
                    try clear hcz22_3
                    try clear hcz23_0
                    try clear hcz23_1
                    try clear hcz23_2
                    try clear hcz23_3
                    try clear hcz26_0
                    try clear hcz26_1
                    try clear hcz26_2
                    try clear hcz26_3
                    try clear hcz27_0
                    try clear hcz27_1
                    try clear hcz27_2
                    try clear hcz27_3
                    try clear hfz10_0
                    try clear hfz10_1
                    try clear hfz10_2
                    try clear hfz10_3
                    try clear hfz13_0
                    try clear hfz13_1
                    try clear hfz13_2
                    try clear hfz13_3
                    try clear hfz14_0
                    try clear hfz14_1
                    try clear hfz14_2
                    try clear hfz14_3
                    try clear hfz22_0
                    try clear hfz22_1
                    try clear hfz22_2
                    try clear hfz22_3
                    try clear hfz23_0
                    try clear hfz23_1
                    try clear hfz23_2
                    try clear hfz23_3
                    try clear hfz26_0
                    try clear hfz26_1
                    try clear hfz26_2
                    try clear hfz26_3
                    try clear hfz27_0
                    try clear hfz27_1
                    try clear hfz27_2
                    try clear hfz27_3
                    try clear hx104_0
                    try clear hx104_1
                    try clear hx104_2
                    try clear hx104_3
                    try clear p104
                    try clear p2
                    try clear q104
                    obtain ⟨kq, x107001_7, x107002_7, x107003_7, HA, HJ7, BK105, BK106, HB⟩ := hcut
                    cases kq with
                    | zero => exact absurd HA.out (by simp [pages_Good.j2])
                    | succ kj7 =>
                      have H := HA.out
                      clear HA
                      simp only [pages_Good.j2] at H
                      by_cases c28 : (!(((rd_T43 l0 x16_2).f0) == ((rd_T43 l0 x16_2).f0)) || (!(((rd_T43 l0 x16_2).f1) == x107001_7) || (!(((rd_T43 l0 x16_2).f2) == x107002_7) || (!(((rd_T43 l0 x16_2).f3) == x107003_7))))) = true
                      · rw [if_pos c28] at H
                        have c28b0 : (!(((rd_T43 l0 x16_2).f0) == ((rd_T43 l0 x16_2).f0)) || (!(((rd_T43 l0 x16_2).f1) == x107001_7) || (!(((rd_T43 l0 x16_2).f2) == x107002_7) || (!(((rd_T43 l0 x16_2).f3) == x107003_7))))) = true := c28
                        replace c28b0 : (!(((rd_T43 l0 x16_2).f1) == x107001_7) || (!(((rd_T43 l0 x16_2).f2) == x107002_7) || (!(((rd_T43 l0 x16_2).f3) == x107003_7)))) = true := by rw [beq_self_eq_true] at c28b0; exact c28b0   -- own
                        clear c28
                        obtain rfl := Option.some.inj H
                        have hnb29 := NB105_106.out
                        have hnc29 := NB106_105.out
                        have hcz30_0 : wc.cell? ⟨gb105, 0, none⟩ = some (.int .i64 ((rd_T43 l0 x16_2).f0)) := (blk_cell BK105.out 0).trans rfl
                        have hcz30_1 : wc.cell? ⟨gb105, 1, none⟩ = some (.int .i64 ((rd_T43 l0 x16_2).f1)) := (blk_cell BK105.out 1).trans rfl
                        have hcz30_2 : wc.cell? ⟨gb105, 2, none⟩ = some (.int .i64 ((rd_T43 l0 x16_2).f2)) := (blk_cell BK105.out 2).trans rfl
                        have hcz30_3 : wc.cell? ⟨gb105, 3, none⟩ = some (.int .i64 ((rd_T43 l0 x16_2).f3)) := (blk_cell BK105.out 3).trans rfl
                        have hfz30_0 := blk_frozen BK105.out 0
                        have hfz30_1 := blk_frozen BK105.out 1
                        have hfz30_2 := blk_frozen BK105.out 2
                        have hfz30_3 := blk_frozen BK105.out 3
                        have hcz31_0 : wc.cell? ⟨gb106, 0, none⟩ = some (.int .i64 ((rd_T43 l0 x16_2).f0)) := (blk_cell BK106.out 0).trans rfl
                        have hcz31_1 : wc.cell? ⟨gb106, 1, none⟩ = some (.int .i64 x107001_7) := (blk_cell BK106.out 1).trans rfl
                        have hcz31_2 : wc.cell? ⟨gb106, 2, none⟩ = some (.int .i64 x107002_7) := (blk_cell BK106.out 2).trans rfl
                        have hcz31_3 : wc.cell? ⟨gb106, 3, none⟩ = some (.int .i64 x107003_7) := (blk_cell BK106.out 3).trans rfl
                        have hfz31_0 := blk_frozen BK106.out 0
                        have hfz31_1 := blk_frozen BK106.out 1
                        have hfz31_2 := blk_frozen BK106.out 2
                        have hfz31_3 := blk_frozen BK106.out 3
                        go_wp2
                        go_ret
                        exact ⟨by first | rfl | (simp [errW_none, errW_some] <;> rfl) | (simp [*, errW_none, errW_some] <;> rfl), by repeat (first | (with_reducible first | exact HB.out | apply below_alloc | apply pw_below_drewN | apply below_drew1 | refine below_set ?_ GE105.out | refine below_set ?_ GE106.out) | exact HB.out)⟩
                      · rw [if_neg c28] at H
                        have c28b0 : (!(((rd_T43 l0 x16_2).f0) == ((rd_T43 l0 x16_2).f0)) || (!(((rd_T43 l0 x16_2).f1) == x107001_7) || (!(((rd_T43 l0 x16_2).f2) == x107002_7) || (!(((rd_T43 l0 x16_2).f3) == x107003_7))))) = false := by simpa using c28
                        replace c28b0 : (!(((rd_T43 l0 x16_2).f1) == x107001_7) || (!(((rd_T43 l0 x16_2).f2) == x107002_7) || (!(((rd_T43 l0 x16_2).f3) == x107003_7)))) = false := by rw [beq_self_eq_true] at c28b0; exact c28b0   -- own
                        clear c28
                        replace H := Option.bind_eq_some_iff.mp H
                        obtain ⟨t107, A320, H⟩ := H
                        replace H : (if t107 = true then ((pages_sized.f ((rd_T43 l0 x16_2).f2)).bind fun t108 => (if t108 = true then (if ((rd_T43 l0 x16_2).f3) < (-10000) then (some false) else (if ((rd_T43 l0 x16_2).f3) > 10000 then (some false) else (pages_Good.l0 kj7 l0 l0 (l0.length : Int) (wrap64 (x16_2 + 1))))) else (some false))) else (some false)) = some r := H
                        have A32 := Aside0.mk A320
                        clear A320
                        by_cases c33 : t107 = true
                        · subst c33
                          have H1 : ((pages_sized.f ((rd_T43 l0 x16_2).f2)).bind fun t108 => (if t108 = true then (if ((rd_T43 l0 x16_2).f3) < (-10000) then (some false) else (if ((rd_T43 l0 x16_2).f3) > 10000 then (some false) else (pages_Good.l0 kj7 l0 l0 (l0.length : Int) (wrap64 (x16_2 + 1))))) else (some false))) = some r := by rw [if_pos rfl] at H; exact H
                          clear H
                          have H := H1
                          clear H1
                          replace H := Option.bind_eq_some_iff.mp H
                          obtain ⟨t108, A340, H⟩ := H
                          replace H : (if t108 = true then (if ((rd_T43 l0 x16_2).f3) < (-10000) then (some false) else (if ((rd_T43 l0 x16_2).f3) > 10000 then (some false) else (pages_Good.l0 kj7 l0 l0 (l0.length : Int) (wrap64 (x16_2 + 1))))) else (some false)) = some r := H
                          have A34 := Aside0.mk A340
                          clear A340
                          by_cases c35 : t108 = true
                          · subst c35
                            have H1 : (if ((rd_T43 l0 x16_2).f3) < (-10000) then (some false) else (if ((rd_T43 l0 x16_2).f3) > 10000 then (some false) else (pages_Good.l0 kj7 l0 l0 (l0.length : Int) (wrap64 (x16_2 + 1))))) = some r := by rw [if_pos rfl] at H; exact H
                            clear H
                            have H := H1
                            clear H1
                            by_cases c36 : ((rd_T43 l0 x16_2).f3) < (-10000)
                            · rw [if_pos c36] at H
                              have c36b0 : decide (((rd_T43 l0 x16_2).f3) < (-10000)) = true := decide_eq_true c36
                              clear c36
                              obtain rfl := Option.some.inj H
                              have hnb37 := NB105_106.out
                              have hnc37 := NB106_105.out
                              have hcz38_0 : wc.cell? ⟨gb105, 0, none⟩ = some (.int .i64 ((rd_T43 l0 x16_2).f0)) := (blk_cell BK105.out 0).trans rfl
                              have hcz38_1 : wc.cell? ⟨gb105, 1, none⟩ = some (.int .i64 ((rd_T43 l0 x16_2).f1)) := (blk_cell BK105.out 1).trans rfl
                              have hcz38_2 : wc.cell? ⟨gb105, 2, none⟩ = some (.int .i64 ((rd_T43 l0 x16_2).f2)) := (blk_cell BK105.out 2).trans rfl
                              have hcz38_3 : wc.cell? ⟨gb105, 3, none⟩ = some (.int .i64 ((rd_T43 l0 x16_2).f3)) := (blk_cell BK105.out 3).trans rfl
                              have hfz38_0 := blk_frozen BK105.out 0
                              have hfz38_1 := blk_frozen BK105.out 1
                              have hfz38_2 := blk_frozen BK105.out 2
                              have hfz38_3 := blk_frozen BK105.out 3
                              have hcz39_0 : wc.cell? ⟨gb106, 0, none⟩ = some (.int .i64 ((rd_T43 l0 x16_2).f0)) := (blk_cell BK106.out 0).trans rfl
                              have hcz39_1 : wc.cell? ⟨gb106, 1, none⟩ = some (.int .i64 x107001_7) := (blk_cell BK106.out 1).trans rfl
                              have hcz39_2 : wc.cell? ⟨gb106, 2, none⟩ = some (.int .i64 x107002_7) := (blk_cell BK106.out 2).trans rfl
                              have hcz39_3 : wc.cell? ⟨gb106, 3, none⟩ = some (.int .i64 x107003_7) := (blk_cell BK106.out 3).trans rfl
                              have hfz39_0 := blk_frozen BK106.out 0
                              have hfz39_1 := blk_frozen BK106.out 1
                              have hfz39_2 := blk_frozen BK106.out 2
                              have hfz39_3 := blk_frozen BK106.out 3
                              go_wp2_with (first | (go_at_call 47; (with_reducible refine (pages_sized.calls ((rd_T43 l0 x16_2).f1) true _ A32.out).mono ?_); rintro e w' ⟨rfl, ⟨nd, rfl⟩⟩) | (go_at_call 47; (with_reducible refine (pages_sized.calls ((rd_T43 l0 x16_2).f2) true _ A34.out).mono ?_); rintro e w' ⟨rfl, ⟨nd, rfl⟩⟩))
                              go_ret
                              exact ⟨by first | rfl | (simp [errW_none, errW_some] <;> rfl) | (simp [*, errW_none, errW_some] <;> rfl), by repeat (first | (with_reducible first | exact HB.out | apply below_alloc | apply pw_below_drewN | apply below_drew1 | refine below_set ?_ GE105.out | refine below_set ?_ GE106.out) | exact HB.out)⟩
                            · rw [if_neg c36] at H
                              have c36b0 : decide (((rd_T43 l0 x16_2).f3) < (-10000)) = false := decide_eq_false c36
                              clear c36
                              by_cases c40 : ((rd_T43 l0 x16_2).f3) > 10000
                              · rw [if_pos c40] at H
                                have c40b0 : decide (10000 < ((rd_T43 l0 x16_2).f3)) = true := decide_eq_true c40
                                clear c40
                                obtain rfl := Option.some.inj H
                                have hnb41 := NB105_106.out
                                have hnc41 := NB106_105.out
                                have hcz42_0 : wc.cell? ⟨gb105, 0, none⟩ = some (.int .i64 ((rd_T43 l0 x16_2).f0)) := (blk_cell BK105.out 0).trans rfl
                                have hcz42_1 : wc.cell? ⟨gb105, 1, none⟩ = some (.int .i64 ((rd_T43 l0 x16_2).f1)) := (blk_cell BK105.out 1).trans rfl
                                have hcz42_2 : wc.cell? ⟨gb105, 2, none⟩ = some (.int .i64 ((rd_T43 l0 x16_2).f2)) := (blk_cell BK105.out 2).trans rfl
                                have hcz42_3 : wc.cell? ⟨gb105, 3, none⟩ = some (.int .i64 ((rd_T43 l0 x16_2).f3)) := (blk_cell BK105.out 3).trans rfl
                                have hfz42_0 := blk_frozen BK105.out 0
                                have hfz42_1 := blk_frozen BK105.out 1
                                have hfz42_2 := blk_frozen BK105.out 2
                                have hfz42_3 := blk_frozen BK105.out 3
                                have hcz43_0 : wc.cell? ⟨gb106, 0, none⟩ = some (.int .i64 ((rd_T43 l0 x16_2).f0)) := (blk_cell BK106.out 0).trans rfl
                                have hcz43_1 : wc.cell? ⟨gb106, 1, none⟩ = some (.int .i64 x107001_7) := (blk_cell BK106.out 1).trans rfl
                                have hcz43_2 : wc.cell? ⟨gb106, 2, none⟩ = some (.int .i64 x107002_7) := (blk_cell BK106.out 2).trans rfl
                                have hcz43_3 : wc.cell? ⟨gb106, 3, none⟩ = some (.int .i64 x107003_7) := (blk_cell BK106.out 3).trans rfl
                                have hfz43_0 := blk_frozen BK106.out 0
                                have hfz43_1 := blk_frozen BK106.out 1
                                have hfz43_2 := blk_frozen BK106.out 2
                                have hfz43_3 := blk_frozen BK106.out 3
                                go_wp2_with (first | (go_at_call 47; (with_reducible refine (pages_sized.calls ((rd_T43 l0 x16_2).f1) true _ A32.out).mono ?_); rintro e w' ⟨rfl, ⟨nd, rfl⟩⟩) | (go_at_call 47; (with_reducible refine (pages_sized.calls ((rd_T43 l0 x16_2).f2) true _ A34.out).mono ?_); rintro e w' ⟨rfl, ⟨nd, rfl⟩⟩))
                                go_ret
                                exact ⟨by first | rfl | (simp [errW_none, errW_some] <;> rfl) | (simp [*, errW_none, errW_some] <;> rfl), by repeat (first | (with_reducible first | exact HB.out | apply below_alloc | apply pw_below_drewN | apply below_drew1 | refine below_set ?_ GE105.out | refine below_set ?_ GE106.out) | exact HB.out)⟩
                              · rw [if_neg c40] at H
                                have c40b0 : decide (10000 < ((rd_T43 l0 x16_2).f3)) = false := decide_eq_false c40
                                clear c40
                                have H' := Aside0.mk H
                                clear H
                                have hnb44 := NB105_106.out
                                have hnc44 := NB106_105.out
                                have hcz45_0 : wc.cell? ⟨gb105, 0, none⟩ = some (.int .i64 ((rd_T43 l0 x16_2).f0)) := (blk_cell BK105.out 0).trans rfl
                                have hcz45_1 : wc.cell? ⟨gb105, 1, none⟩ = some (.int .i64 ((rd_T43 l0 x16_2).f1)) := (blk_cell BK105.out 1).trans rfl
                                have hcz45_2 : wc.cell? ⟨gb105, 2, none⟩ = some (.int .i64 ((rd_T43 l0 x16_2).f2)) := (blk_cell BK105.out 2).trans rfl
                                have hcz45_3 : wc.cell? ⟨gb105, 3, none⟩ = some (.int .i64 ((rd_T43 l0 x16_2).f3)) := (blk_cell BK105.out 3).trans rfl
                                have hfz45_0 := blk_frozen BK105.out 0
                                have hfz45_1 := blk_frozen BK105.out 1
                                have hfz45_2 := blk_frozen BK105.out 2
                                have hfz45_3 := blk_frozen BK105.out 3
                                have hcz46_0 : wc.cell? ⟨gb106, 0, none⟩ = some (.int .i64 ((rd_T43 l0 x16_2).f0)) := (blk_cell BK106.out 0).trans rfl
                                have hcz46_1 : wc.cell? ⟨gb106, 1, none⟩ = some (.int .i64 x107001_7) := (blk_cell BK106.out 1).trans rfl
                                have hcz46_2 : wc.cell? ⟨gb106, 2, none⟩ = some (.int .i64 x107002_7) := (blk_cell BK106.out 2).trans rfl
                                have hcz46_3 : wc.cell? ⟨gb106, 3, none⟩ = some (.int .i64 x107003_7) := (blk_cell BK106.out 3).trans rfl
                                have hfz46_0 := blk_frozen BK106.out 0
                                have hfz46_1 := blk_frozen BK106.out 1
                                have hfz46_2 := blk_frozen BK106.out 2
                                have hfz46_3 := blk_frozen BK106.out 3
                                go_wp2_with (first | (go_at_call 47; (with_reducible refine (pages_sized.calls ((rd_T43 l0 x16_2).f1) true _ A32.out).mono ?_); rintro e w' ⟨rfl, ⟨nd, rfl⟩⟩) | (go_at_call 47; (with_reducible refine (pages_sized.calls ((rd_T43 l0 x16_2).f2) true _ A34.out).mono ?_); rintro e w' ⟨rfl, ⟨nd, rfl⟩⟩))
                                go_roundg kj7
                                case measure => have := HJ1.out; have := HK2.out; have := HJ7.out; omega
                                case rel => exact ⟨(wrap64 (x16_2 + 1)), (by first | rfl | (simp; done) | (simp [*]; done)), H', ⟨by have := HJ1.out; have := HK2.out; have := HJ7.out; omega⟩, ⟨by repeat (first | (with_reducible first | exact HB.out | apply below_alloc | apply pw_below_drewN | apply below_drew1 | refine below_set ?_ GE105.out | refine below_set ?_ GE106.out) | exact HB.out)⟩⟩
                          · replace c35 := Bool.eq_false_iff.mpr c35
                            subst c35
                            have H1 : (some false) = some r := by rw [if_neg (show ¬ (false = true) by decide)] at H; exact H
                            clear H
                            have H := H1
                            clear H1
                            obtain rfl := Option.some.inj H
                            have hnb47 := NB105_106.out
                            have hnc47 := NB106_105.out
                            have hcz48_0 : wc.cell? ⟨gb105, 0, none⟩ = some (.int .i64 ((rd_T43 l0 x16_2).f0)) := (blk_cell BK105.out 0).trans rfl
                            have hcz48_1 : wc.cell? ⟨gb105, 1, none⟩ = some (.int .i64 ((rd_T43 l0 x16_2).f1)) := (blk_cell BK105.out 1).trans rfl
                            have hcz48_2 : wc.cell? ⟨gb105, 2, none⟩ = some (.int .i64 ((rd_T43 l0 x16_2).f2)) := (blk_cell BK105.out 2).trans rfl
                            have hcz48_3 : wc.cell? ⟨gb105, 3, none⟩ = some (.int .i64 ((rd_T43 l0 x16_2).f3)) := (blk_cell BK105.out 3).trans rfl
                            have hfz48_0 := blk_frozen BK105.out 0
                            have hfz48_1 := blk_frozen BK105.out 1
                            have hfz48_2 := blk_frozen BK105.out 2
                            have hfz48_3 := blk_frozen BK105.out 3
                            have hcz49_0 : wc.cell? ⟨gb106, 0, none⟩ = some (.int .i64 ((rd_T43 l0 x16_2).f0)) := (blk_cell BK106.out 0).trans rfl
                            have hcz49_1 : wc.cell? ⟨gb106, 1, none⟩ = some (.int .i64 x107001_7) := (blk_cell BK106.out 1).trans rfl
                            have hcz49_2 : wc.cell? ⟨gb106, 2, none⟩ = some (.int .i64 x107002_7) := (blk_cell BK106.out 2).trans rfl
                            have hcz49_3 : wc.cell? ⟨gb106, 3, none⟩ = some (.int .i64 x107003_7) := (blk_cell BK106.out 3).trans rfl
                            have hfz49_0 := blk_frozen BK106.out 0
                            have hfz49_1 := blk_frozen BK106.out 1
                            have hfz49_2 := blk_frozen BK106.out 2
                            have hfz49_3 := blk_frozen BK106.out 3
                            go_wp2_with (first | (go_at_call 47; (with_reducible refine (pages_sized.calls ((rd_T43 l0 x16_2).f1) true _ A32.out).mono ?_); rintro e w' ⟨rfl, ⟨nd, rfl⟩⟩) | (go_at_call 47; (with_reducible refine (pages_sized.calls ((rd_T43 l0 x16_2).f2) false _ A34.out).mono ?_); rintro e w' ⟨rfl, ⟨nd, rfl⟩⟩))
                            go_ret
                            exact ⟨by first | rfl | (simp [errW_none, errW_some] <;> rfl) | (simp [*, errW_none, errW_some] <;> rfl), by repeat (first | (with_reducible first | exact HB.out | apply below_alloc | apply pw_below_drewN | apply below_drew1 | refine below_set ?_ GE105.out | refine below_set ?_ GE106.out) | exact HB.out)⟩
                        · replace c33 := Bool.eq_false_iff.mpr c33
                          subst c33
                          have H1 : (some false) = some r := by rw [if_neg (show ¬ (false = true) by decide)] at H; exact H
                          clear H
                          have H := H1
                          clear H1
                          obtain rfl := Option.some.inj H
                          have hnb50 := NB105_106.out
                          have hnc50 := NB106_105.out
                          have hcz51_0 : wc.cell? ⟨gb105, 0, none⟩ = some (.int .i64 ((rd_T43 l0 x16_2).f0)) := (blk_cell BK105.out 0).trans rfl
                          have hcz51_1 : wc.cell? ⟨gb105, 1, none⟩ = some (.int .i64 ((rd_T43 l0 x16_2).f1)) := (blk_cell BK105.out 1).trans rfl
                          have hcz51_2 : wc.cell? ⟨gb105, 2, none⟩ = some (.int .i64 ((rd_T43 l0 x16_2).f2)) := (blk_cell BK105.out 2).trans rfl
                          have hcz51_3 : wc.cell? ⟨gb105, 3, none⟩ = some (.int .i64 ((rd_T43 l0 x16_2).f3)) := (blk_cell BK105.out 3).trans rfl
                          have hfz51_0 := blk_frozen BK105.out 0
                          have hfz51_1 := blk_frozen BK105.out 1
                          have hfz51_2 := blk_frozen BK105.out 2
                          have hfz51_3 := blk_frozen BK105.out 3
                          have hcz52_0 : wc.cell? ⟨gb106, 0, none⟩ = some (.int .i64 ((rd_T43 l0 x16_2).f0)) := (blk_cell BK106.out 0).trans rfl
                          have hcz52_1 : wc.cell? ⟨gb106, 1, none⟩ = some (.int .i64 x107001_7) := (blk_cell BK106.out 1).trans rfl
                          have hcz52_2 : wc.cell? ⟨gb106, 2, none⟩ = some (.int .i64 x107002_7) := (blk_cell BK106.out 2).trans rfl
                          have hcz52_3 : wc.cell? ⟨gb106, 3, none⟩ = some (.int .i64 x107003_7) := (blk_cell BK106.out 3).trans rfl
                          have hfz52_0 := blk_frozen BK106.out 0
                          have hfz52_1 := blk_frozen BK106.out 1
                          have hfz52_2 := blk_frozen BK106.out 2
                          have hfz52_3 := blk_frozen BK106.out 3
                          go_wp2_with (first | (go_at_call 47; (with_reducible refine (pages_sized.calls ((rd_T43 l0 x16_2).f1) false _ A32.out).mono ?_); rintro e w' ⟨rfl, ⟨nd, rfl⟩⟩))
                          go_ret
                          exact ⟨by first | rfl | (simp [errW_none, errW_some] <;> rfl) | (simp [*, errW_none, errW_some] <;> rfl), by repeat (first | (with_reducible first | exact HB.out | apply below_alloc | apply pw_below_drewN | apply below_drew1 | refine below_set ?_ GE105.out | refine below_set ?_ GE106.out) | exact HB.out)⟩
                · rw [if_neg c7] at H
                  exact absurd H (by simp)
              · rw [if_neg c6] at H
                exact absurd H (by simp)
            · rw [if_neg c5] at H
              have c5b0 : decide (x16_2 < (l0.length : Int)) = false := decide_eq_false c5
              clear c5
              obtain ⟨ji53, hji53⟩ : ∃ j_ : Int, (wrap64 ((l0.length : Int) - 1)) = j_ := ⟨_, rfl⟩
              replace H : (if 0 ≤ (ji53) then (if (ji53) < (l0.length : Int) then ((pages_forced.f ((rd_T43 l0 (ji53)).f0) ((rd_T43 l0 (ji53)).f1) ((rd_T43 l0 (ji53)).f2) ((rd_T43 l0 (ji53)).f3)).bind fun t103 => (some t103)) else (none)) else (none)) = some r := by first | (rw [hji53] at H; exact H) | (simp only [hji53] at H ⊢; exact H)
              have hji53w : (IntKind.i64.wrap ((l0.length : Int) - 1)) = ji53 := (i64_w _).trans hji53
              by_cases c54 : 0 ≤ (ji53)
              · rw [if_pos c54] at H
                have c54b0 : decide (0 ≤ (ji53)) = true := decide_eq_true c54
                clear c54
                by_cases c55 : (ji53) < (l0.length : Int)
                · rw [if_pos c55] at H
                  have c55b0 : decide ((ji53) < (l0.length : Int)) = true := decide_eq_true c55
                  clear c55
                  replace H := Option.bind_eq_some_iff.mp H
                  obtain ⟨t103, A560, H⟩ := H
                  replace H : (some t103) = some r := H
                  have A56 := Aside0.mk A560
                  clear A560
                  obtain rfl := Option.some.inj H
                  have p102 : 0 ≤ ((ji53) : Int) := of_decide_eq_true (by first | (with_reducible assumption) | assumption)
                  have q102 : (ji53) < (l0.length : Int) := of_decide_eq_true (by first | (with_reducible assumption) | assumption)
                  obtain ⟨ad102, e102, hx102_0, hx102_1, hx102_2, hx102_3⟩ := at_T43 HR0.out (ji53) p102 q102
                  cases e102
                  replace hx102_0 := (HB.out.cell (World.block_lt_of_cell? w _ hx102_0)).trans hx102_0
                  replace hx102_1 := (HB.out.cell (World.block_lt_of_cell? w _ hx102_1)).trans hx102_1
                  replace hx102_2 := (HB.out.cell (World.block_lt_of_cell? w _ hx102_2)).trans hx102_2
                  replace hx102_3 := (HB.out.cell (World.block_lt_of_cell? w _ hx102_3)).trans hx102_3
                  replace p102 := eq_true p102
                  replace q102 := eq_true q102
                  go_wp2_with (first | ((with_reducible refine gate_callee (f := 48) rfl ?_); refine goesL_ (some 75) rfl rfl Try.func48 (by kernel_rfl) rfl #[.agg #[.int .i64 ((rd_T43 l0 (ji53)).f0), .int .i64 ((rd_T43 l0 (ji53)).f1), .int .i64 ((rd_T43 l0 (ji53)).f2), .int .i64 ((rd_T43 l0 (ji53)).f3)]] rfl (by (try simp only [List.map_toArray, List.map_cons, List.map_nil]); first | done | (simp only [hji53]; rfl) | rfl | (simp only [List.length_drop, List.length_take]; rfl)) ?_; (with_reducible refine (pages_forced.calls ((rd_T43 l0 (ji53)).f0) ((rd_T43 l0 (ji53)).f1) ((rd_T43 l0 (ji53)).f2) ((rd_T43 l0 (ji53)).f3) t103 _ A56.out).mono ?_); rintro e w57 ⟨rfl, hb⟩; refine ⟨_, rfl, ?_⟩; have n0_ := Aside0.mk (below_step (by repeat (first | (with_reducible first | exact HB.out | apply below_alloc | apply pw_below_drewN | apply below_drew1) | exact HB.out)) hb); clear HB; have HB := n0_; clear n0_; (try clear hb); (try clear hb2); (try clear hk); (try clear hi)))
                  go_ret
                  exact ⟨by first | rfl | (simp [errW_none, errW_some] <;> rfl) | (simp only [← hji53]; first | rfl | (simp [errW_none, errW_some] <;> rfl)) | (simp [*, errW_none, errW_some] <;> rfl), by repeat (first | (with_reducible first | exact HB.out | apply below_alloc | apply pw_below_drewN | apply below_drew1) | exact HB.out)⟩
                · rw [if_neg c55] at H
                  exact absurd H (by simp)
              · rw [if_neg c54] at H
                exact absurd H (by simp)

/-! ### pages_room: function 35 -/
def pages_room.f (a0 : Int) : Option (Bool) := if 1 ≤ a0 then (some (decide (a0 ≤ 1073741824))) else (some false)
set_option maxHeartbeats 8000000 in
set_option maxRecDepth 100000 in
theorem pages_room.calls (a0 : Int) (r : Bool) (w : World) (h : pages_room.f a0 = some r) :
    Calls Try.prog 35 #[.int .i64 a0] w fun e w' => e = .returned (.bool r) ∧ Drawn0 w w' := by
  have H : (if 1 ≤ a0 then (some (decide (a0 ≤ 1073741824))) else (some false)) = some r := h
  clear h
  by_cases c2 : 1 ≤ a0
  · rw [if_pos c2] at H
    have c2b0 : decide (1 ≤ a0) = true := decide_eq_true c2
    clear c2
    obtain rfl := Option.some.inj H
    go_enter Try.func35, Try.ntmps35
    go_wp2
    go_ret
    exact ⟨by first | rfl | (simp; done) | (simp [*]; done), by repeat (first | exact Drawn0.refl _ | apply Drawn0.step)⟩
  · rw [if_neg c2] at H
    have c2b0 : decide (1 ≤ a0) = false := decide_eq_false c2
    clear c2
    obtain rfl := Option.some.inj H
    go_enter Try.func35, Try.ntmps35
    go_wp2
    go_ret
    exact ⟨by first | rfl | (simp; done) | (simp [*]; done), by repeat (first | exact Drawn0.refl _ | apply Drawn0.step)⟩

end Go.Proofs.Ytogjeababinnlaa.PPagesFlow
