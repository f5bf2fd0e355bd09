-- Written by a copy of the print that this session has turned (wip/tools/patchprint.py): arrays as records.
import Derived.Test.YtmcdcpejkldepaaDoorPFurnishJoinsx0
import Derived.Test.YtmcdcpejkldepaaDoorPFurnishJoinsx1
import Derived.Test.YtmcdcpejkldepaaDoorPFurnishJoinsx2
namespace Go.Proofs.YtmcdcpejkldepaaDoor.PFurnishJoins
open Go.RowKit Go.Proofs.YtmcdcpejkldepaaDoorW.PrintWords Go.Proofs.YtmcdcpejkldepaaDoorW.PrintLast Go.Proofs.YtmcdcpejkldepaaDoorW.PrintMore
attribute [local go_sem] max2_int min2_int max_two min_two max_three min_three max_four min_four   -- for this text's walks alone
set_option linter.unusedVariables false
set_option linter.unusedSimpArgs false

/-! ### colophonlaw28_FurnishJoins: function 5 -/
mutual
def colophonlaw28_FurnishJoins.j0 : Nat → ByteArray → Bool → ByteArray → Int → Int → List Int → Option (Bool)
  | 0, _, _, _, _, _, _ => none
  | k + 1, x1, x23, x162000, x162001, x162002, x162003 => if x23 = true then ((colophonlaw28_wakes.f k).bind fun t162 => (some t162)) else ((colophonkeep_Ints.f x162003 2000).bind fun t163 => ((furnish_Expand.f k x162000 x162001 x162002 t163).bind fun bt166 => ((furnish_Expand.f k x1 x162001 x162002 t163).bind fun bt171 => (if x162000.size + x1.size ≤ 9223372036854775807 then ((furnish_Expand.f k (x162000 ++ x1) x162001 x162002 t163).bind fun bt176 => (if bt166.2.2 = 0 then (if bt171.2.2 = 0 then (colophonlaw28_FurnishJoins.j1 k x1 bt166.1 bt166.2.2 bt171.1 bt171.2.2 bt176.1 bt176.2.2 (bt176.2.2 != 0) x162000 x162001 x162002 x162003) else (colophonlaw28_FurnishJoins.j1 k x1 bt166.1 bt166.2.2 bt171.1 bt171.2.2 bt176.1 bt176.2.2 true x162000 x162001 x162002 x162003)) else (colophonlaw28_FurnishJoins.j1 k x1 bt166.1 bt166.2.2 bt171.1 bt171.2.2 bt176.1 bt176.2.2 true x162000 x162001 x162002 x162003))) else (none)))))
def colophonlaw28_FurnishJoins.j1 : Nat → ByteArray → List Int → Int → List Int → Int → List Int → Int → Bool → ByteArray → Int → Int → List Int → Option (Bool)
  | 0, _, _, _, _, _, _, _, _, _, _, _, _ => none
  | k + 1, x1, x6, x8, x9, x11, x12, x14, x74, x162000, x162001, x162002, x162003 => if x74 = true then (if x8 = 0 then (if x11 = 0 then (if x14 = 0 then (if (wrap64 ((x162000.size : Int) + (x1.size : Int))) > 4096 then ((colophonlaw28_wakes.f k).bind fun t181 => (some t181)) else (some false)) else (if (x12.length : Int) = 0 then (if (wrap64 ((x162000.size : Int) + (x1.size : Int))) > 4096 then ((colophonlaw28_wakes.f k).bind fun t182 => (some t182)) else (some false)) else (some false))) else (if (x9.length : Int) = 0 then (if x14 = 0 then ((colophonlaw28_wakes.f k).bind fun t183 => (some t183)) else (if (x12.length : Int) = 0 then ((colophonlaw28_wakes.f k).bind fun t184 => (some t184)) else (some false))) else (some false))) else (if (x6.length : Int) = 0 then (if x11 = 0 then (if x14 = 0 then ((colophonlaw28_wakes.f k).bind fun t185 => (some t185)) else (if (x12.length : Int) = 0 then ((colophonlaw28_wakes.f k).bind fun t186 => (some t186)) else (some false))) else (if (x9.length : Int) = 0 then (if x14 = 0 then ((colophonlaw28_wakes.f k).bind fun t187 => (some t187)) else (if (x12.length : Int) = 0 then ((colophonlaw28_wakes.f k).bind fun t188 => (some t188)) else (some false))) else (some false))) else (some false))) else ((some (([] : List Int) : List Int)).bind fun y189 => (if y189.length + x6.length < 17592186044416 then ((some (y189 ++ x6 : List Int)).bind fun y192 => (if y192.length + x9.length < 17592186044416 then ((colophonkeep_Same.f k x12 (y192 ++ x9)).bind fun t198 => (if t198 = true then ((colophonlaw28_wakes.f k).bind fun t199 => (some t199)) else (some false))) else (none))) else (none)))
end
def colophonlaw28_FurnishJoins.f (k : Nat) (a0_0 : ByteArray) (a0_1 : Int) (a0_2 : Int) (l0_3 : List Int) (a1 : ByteArray) : Option (Bool) := if (a0_0.size : Int) > 8000 then (colophonlaw28_FurnishJoins.j0 k a1 true a0_0 a0_1 a0_2 l0_3) else (colophonlaw28_FurnishJoins.j0 k a1 (decide ((a1.size : Int) > 8000)) a0_0 a0_1 a0_2 l0_3)
theorem colophonlaw28_FurnishJoins.mono_l : ∀ k, (∀ y0 y1 y2 y3 y4 y5, LeO (colophonlaw28_FurnishJoins.j0 k y0 y1 y2 y3 y4 y5) (colophonlaw28_FurnishJoins.j0 (k + 1) y0 y1 y2 y3 y4 y5)) ∧ (∀ y0 y1 y2 y3 y4 y5 y6 y7 y8 y9 y10 y11, LeO (colophonlaw28_FurnishJoins.j1 k y0 y1 y2 y3 y4 y5 y6 y7 y8 y9 y10 y11) (colophonlaw28_FurnishJoins.j1 (k + 1) y0 y1 y2 y3 y4 y5 y6 y7 y8 y9 y10 y11))
  | 0 => ⟨fun _ _ _ _ _ _ r h => by simp [colophonlaw28_FurnishJoins.j0] at h, fun _ _ _ _ _ _ _ _ _ _ _ _ r h => by simp [colophonlaw28_FurnishJoins.j1] at h⟩
  | k + 1 => by
    obtain ⟨ih0, ih1⟩ := colophonlaw28_FurnishJoins.mono_l k
    refine ⟨?_, ?_⟩
    · intro y0 y1 y2 y3 y4 y5
      unfold colophonlaw28_FurnishJoins.j0
      repeat' first
      | (with_reducible exact ih0 _ _ _ _ _ _)
      | (with_reducible exact ih1 _ _ _ _ _ _ _ _ _ _ _ _)
      | (with_reducible exact colophonkeep_Same.mono _ _ _)
      | (with_reducible exact colophonlaw28_wakes.mono _)
      | (with_reducible exact furnish_Expand.mono _ _ _ _ _)
      | (with_reducible exact LeO.refl _)
      | (with_reducible exact LeO.none _)
      | (with_reducible refine LeO.ite ?_ ?_)
      | (with_reducible refine LeO.bind ?_ (fun _ => ?_))
      | exact ih0 _ _ _ _ _ _
      | exact ih1 _ _ _ _ _ _ _ _ _ _ _ _
      | exact colophonkeep_Same.mono _ _ _
      | exact colophonlaw28_wakes.mono _
      | exact furnish_Expand.mono _ _ _ _ _
      | exact LeO.none _
      | refine LeO.ite ?_ ?_
      | refine LeO.bind ?_ (fun _ => ?_)
    · intro y0 y1 y2 y3 y4 y5 y6 y7 y8 y9 y10 y11
      unfold colophonlaw28_FurnishJoins.j1
      repeat' first
      | (with_reducible exact ih0 _ _ _ _ _ _)
      | (with_reducible exact ih1 _ _ _ _ _ _ _ _ _ _ _ _)
      | (with_reducible exact colophonkeep_Same.mono _ _ _)
      | (with_reducible exact colophonlaw28_wakes.mono _)
      | (with_reducible exact furnish_Expand.mono _ _ _ _ _)
      | (with_reducible exact LeO.refl _)
      | (with_reducible exact LeO.none _)
      | (with_reducible refine LeO.ite ?_ ?_)
      | (with_reducible refine LeO.bind ?_ (fun _ => ?_))
      | exact ih0 _ _ _ _ _ _
      | exact ih1 _ _ _ _ _ _ _ _ _ _ _ _
      | exact colophonkeep_Same.mono _ _ _
      | exact colophonlaw28_wakes.mono _
      | exact furnish_Expand.mono _ _ _ _ _
      | exact LeO.none _
      | refine LeO.ite ?_ ?_
      | refine LeO.bind ?_ (fun _ => ?_)
theorem colophonlaw28_FurnishJoins.mono : ∀ a0 a1 a2 a3 a4 k, LeO (colophonlaw28_FurnishJoins.f k a0 a1 a2 a3 a4) (colophonlaw28_FurnishJoins.f (k + 1) a0 a1 a2 a3 a4) := by
  intro a0 a1 a2 a3 a4 k
  obtain ⟨ih0, ih1⟩ := colophonlaw28_FurnishJoins.mono_l k
  unfold colophonlaw28_FurnishJoins.f
  repeat' first
      | (with_reducible exact ih0 _ _ _ _ _ _)
      | (with_reducible exact ih1 _ _ _ _ _ _ _ _ _ _ _ _)
      | (with_reducible exact colophonkeep_Same.mono _ _ _)
      | (with_reducible exact colophonlaw28_wakes.mono _)
      | (with_reducible exact furnish_Expand.mono _ _ _ _ _)
      | (with_reducible exact LeO.refl _)
      | (with_reducible exact LeO.none _)
      | (with_reducible refine LeO.ite ?_ ?_)
      | (with_reducible refine LeO.bind ?_ (fun _ => ?_))
      | exact ih0 _ _ _ _ _ _
      | exact ih1 _ _ _ _ _ _ _ _ _ _ _ _
      | exact colophonkeep_Same.mono _ _ _
      | exact colophonlaw28_wakes.mono _
      | exact furnish_Expand.mono _ _ _ _ _
      | exact LeO.none _
      | refine LeO.ite ?_ ?_
      | refine LeO.bind ?_ (fun _ => ?_)
set_option maxHeartbeats 8000000 in
set_option maxRecDepth 100000 in
theorem colophonlaw28_FurnishJoins.calls (k : Nat) (a0_0 : ByteArray) (a0_1 : Int) (a0_2 : Int) (A0_3 : Option Addr) (c0_3 : Nat) (l0_3 : List Int) (a1 : ByteArray) (r : Bool) (w : World) (hr0_3 : Kd.C (Kd.int .i64) w A0_3 l0_3.length l0_3) (hc0_3 : l0_3.length ≤ c0_3) (hLW : Lw w) (h : colophonlaw28_FurnishJoins.f k a0_0 a0_1 a0_2 l0_3 a1 = some r) :
    Calls Tryd.prog 5 #[.agg #[.string a0_0, .int .i64 a0_1, .int .i64 a0_2, .slice A0_3 l0_3.length c0_3], .string a1] w fun e w' => e = .returned (.bool r) ∧ Below w.heap.size w w' := by
  have hu24 := Tryd.underlying24
  have HR0_3 := Aside0.mk hr0_3
  have HC0_3 := Aside0.mk hc0_3
  clear hr0_3 hc0_3
  have HB := Aside0.mk (Below.refl w.heap.size w)
  have H : (if (a0_0.size : Int) > 8000 then (colophonlaw28_FurnishJoins.j0 k a1 true a0_0 a0_1 a0_2 l0_3) else (colophonlaw28_FurnishJoins.j0 k a1 (decide ((a1.size : Int) > 8000)) a0_0 a0_1 a0_2 l0_3)) = some r := h
  clear h
  have HC3 := Aside0.mk H
  clear H
  go_enter Tryd.func5, Tryd.ntmps5
  go_upto_region 1 with (first | ((with_reducible refine gate_dst (N := 2) rfl ?_); (try (refine gate_guard (by rfl) ?_; dsimp only)); refine box_event ?hg (N := 2) ?hd (cs := #[.string a0_0, .int .i64 a0_1, .int .i64 a0_2, .slice A0_3 l0_3.length c0_3]) (t := 24) ?hr ?_; (case hd => rfl); (case hg => rfl); (case hr => first | (go_simp; done) | (go_simp; rfl)); intro gb161 hg w4 hbox hb; have n0_ := Aside0.mk (below_step (by repeat (first | (with_reducible first | exact HB.out | apply below_alloc | apply pw_below_drewN | apply below_drew1) | exact HB.out)) hb); have n1_ := Aside0.mk (hbox); have n2_ := Aside0.mk ((by rw [hg]; exact (below_size (by repeat (first | (with_reducible first | exact HB.out | apply below_alloc | apply pw_below_drewN | apply below_drew1) | exact HB.out))) : w.heap.size ≤ gb161)); have n3_ := Aside0.mk ((by rw [hg]; exact (below_size (by repeat (first | (with_reducible first | exact HB.out | apply below_alloc | apply pw_below_drewN | apply below_drew1) | exact HB.out))) : w.heap.size ≤ gb161)); clear HB; have HB := n0_; have BK161 := n1_; have GW161 := n2_; have GE161 := n3_; clear n0_ n1_ n2_ n3_; clear hb hbox hg))
  (try simp only [Act.put, List.setIfInBounds_toArray, List.set_cons_zero, List.set_cons_succ])
  go_cut [23] (fun v23 wc => ∃ (kq : Nat) (x23_2 : Bool), v23 = .bool x23_2 ∧ Aside0 (colophonlaw28_FurnishJoins.j0 kq a1 x23_2 a0_0 a0_1 a0_2 l0_3 = some r) ∧ Aside0 (kq ≤ k) ∧ Aside0 (wc.heap[gb161]? = some (.cells #[.string a0_0, .int .i64 a0_1, .int .i64 a0_2, (.slice A0_3 l0_3.length c0_3)] 24 (0, 0))) ∧ Aside0 (Below w.heap.size w wc))
  case first =>
    have H := HC3.out
    clear HC3
    by_cases c5 : (a0_0.size : Int) > 8000
    · rw [if_pos c5] at H
      have c5b0 : decide (8000 < (a0_0.size : Int)) = true := decide_eq_true c5
      have c5b1 : decide (8000 < a0_0.size) = true := decide_eq_true (by omega)
      clear c5
      (first | rw [c5b0] | (simp only [i64_w, i32_w]; rw [c5b0]) | skip)
      have H' := Aside0.mk H
      clear H
      have hcz6_0 : w4.cell? ⟨gb161, 0, none⟩ = some (.string a0_0) := (blk_cell BK161.out 0).trans rfl
      have hcz6_1 : w4.cell? ⟨gb161, 1, none⟩ = some (.int .i64 a0_1) := (blk_cell BK161.out 1).trans rfl
      have hcz6_2 : w4.cell? ⟨gb161, 2, none⟩ = some (.int .i64 a0_2) := (blk_cell BK161.out 2).trans rfl
      have hcz6_3 : w4.cell? ⟨gb161, 3, none⟩ = some (.slice A0_3 l0_3.length c0_3) := (blk_cell BK161.out 3).trans rfl
      have hfz6_0 := blk_frozen BK161.out 0
      have hfz6_1 := blk_frozen BK161.out 1
      have hfz6_2 := blk_frozen BK161.out 2
      have hfz6_3 := blk_frozen BK161.out 3
      go_wp2
      go_meet
      case rel => exact ⟨_, (true), (by first | rfl | (simp; done) | (simp [*]; done)), H', ⟨by first | omega | exact Nat.le_refl _⟩, ⟨by (with_reducible repeat (first | refine blk_drewN ?_ _ | refine blk_drew ?_ | refine blk_alloc ?_ _)); exact BK161.out⟩, ⟨by repeat (first | (with_reducible first | exact HB.out | apply below_alloc | apply pw_below_drewN | apply below_drew1 | refine below_set ?_ GE161.out) | exact HB.out)⟩⟩
    · rw [if_neg c5] at H
      have c5b0 : decide (8000 < (a0_0.size : Int)) = false := decide_eq_false c5
      have c5b1 : decide (8000 < a0_0.size) = false := decide_eq_false (by omega)
      clear c5
      (first | rw [c5b0] | (simp only [i64_w, i32_w]; rw [c5b0]) | skip)
      have H' := Aside0.mk H
      clear H
      have hcz7_0 : w4.cell? ⟨gb161, 0, none⟩ = some (.string a0_0) := (blk_cell BK161.out 0).trans rfl
      have hcz7_1 : w4.cell? ⟨gb161, 1, none⟩ = some (.int .i64 a0_1) := (blk_cell BK161.out 1).trans rfl
      have hcz7_2 : w4.cell? ⟨gb161, 2, none⟩ = some (.int .i64 a0_2) := (blk_cell BK161.out 2).trans rfl
      have hcz7_3 : w4.cell? ⟨gb161, 3, none⟩ = some (.slice A0_3 l0_3.length c0_3) := (blk_cell BK161.out 3).trans rfl
      have hfz7_0 := blk_frozen BK161.out 0
      have hfz7_1 := blk_frozen BK161.out 1
      have hfz7_2 := blk_frozen BK161.out 2
      have hfz7_3 := blk_frozen BK161.out 3
      go_wp2
      go_meet
      case rel => exact ⟨_, (decide ((a1.size : Int) > 8000)), (by first | rfl | (simp; done) | (simp [*]; done)), H', ⟨by first | omega | exact Nat.le_refl _⟩, ⟨by (with_reducible repeat (first | refine blk_drewN ?_ _ | refine blk_drew ?_ | refine blk_alloc ?_ _)); exact BK161.out⟩, ⟨by repeat (first | (with_reducible first | exact HB.out | apply below_alloc | apply pw_below_drewN | apply below_drew1 | refine below_set ?_ GE161.out) | exact HB.out)⟩⟩
  case rest =>
    clear HC3
    try clear p2
    try clear c5
    try clear c5b0
    try clear c5b1
    try clear hcz6_0
    try clear hcz6_1
    try clear hcz6_2
    try clear hcz6_3
    try clear hcz7_0
    try clear hcz7_1
    try clear hcz7_2
    try clear hcz7_3
    try clear hfz6_0
    try clear hfz6_1
    try clear hfz6_2
    try clear hfz6_3
    try clear hfz7_0
    try clear hfz7_1
    try clear hfz7_2
    try clear hfz7_3
    obtain ⟨kq, x23_2, rfl, HA, HJ2, BK161, HB⟩ := hcut
    cases kq with
    | zero => exact absurd HA.out (by simp [colophonlaw28_FurnishJoins.j0])
    | succ kj2 =>
      have H := HA.out
      clear HA
      simp only [colophonlaw28_FurnishJoins.j0] at H
      by_cases c8 : x23_2 = true
      · subst c8
        have H1 : ((colophonlaw28_wakes.f kj2).bind fun t162 => (some t162)) = some r := by rw [if_pos rfl] at H; exact H
        clear H
        have H := H1
        clear H1
        replace H := Option.bind_eq_some_iff.mp H
        obtain ⟨t162, A90, H⟩ := H
        replace H : (some t162) = some r := H
        have A9 := Aside0.mk A90
        clear A90
        obtain rfl := Option.some.inj H
        go_wp2_with (first | ((with_reducible refine gate_callee (f := 8) rfl ?_); refine goesL_ (some 24) rfl rfl Tryd.func8 (by kernel_rfl) rfl #[] rfl (by (try simp only [List.map_toArray, List.map_cons, List.map_nil]); first | done | rfl | (simp only [List.length_drop, List.length_take]; rfl)) ?_; (with_reducible refine (colophonlaw28_wakes.calls kj2  t162 _ ?side1 A9.out).mono ?_); (case side1 => exact Lw.below hLW (by repeat (first | (with_reducible first | exact HB.out | apply below_alloc | apply pw_below_drewN | apply below_drew1 | refine below_set ?_ GE161.out) | exact HB.out))); rintro e w10 ⟨rfl, hb⟩; refine ⟨_, rfl, ?_⟩; have n0_ := Aside0.mk (blk_below (g := gb161) (o := .cells #[.string a0_0, .int .i64 a0_1, .int .i64 a0_2, .slice A0_3 l0_3.length c0_3] 24 (0, 0)) (by (with_reducible repeat (first | refine blk_drewN ?_ _ | refine blk_drew ?_ | refine blk_alloc ?_ _)); exact BK161.out) hb); have n1_ := Aside0.mk (below_step (by repeat (first | (with_reducible first | exact HB.out | apply below_alloc | apply pw_below_drewN | apply below_drew1 | refine below_set ?_ GE161.out) | exact HB.out)) hb); clear BK161; clear HB; have BK161 := n0_; have HB := n1_; clear n0_ n1_; (try clear hb); (try clear hb2); (try clear hk); (try clear hi)))
        go_ret
        exact ⟨by first | rfl | (simp [errW_none, errW_some] <;> rfl) | (simp [*, errW_none, errW_some] <;> rfl), by repeat (first | (with_reducible first | exact HB.out | apply below_alloc | apply pw_below_drewN | apply below_drew1 | refine below_set ?_ GE161.out) | exact HB.out)⟩
      · replace c8 := Bool.eq_false_iff.mpr c8
        subst c8
        have H1 : ((colophonkeep_Ints.f l0_3 2000).bind fun t163 => ((furnish_Expand.f kj2 a0_0 a0_1 a0_2 t163).bind fun bt166 => ((furnish_Expand.f kj2 a1 a0_1 a0_2 t163).bind fun bt171 => (if a0_0.size + a1.size ≤ 9223372036854775807 then ((furnish_Expand.f kj2 (a0_0 ++ a1) a0_1 a0_2 t163).bind fun bt176 => (if bt166.2.2 = 0 then (if bt171.2.2 = 0 then (colophonlaw28_FurnishJoins.j1 kj2 a1 bt166.1 bt166.2.2 bt171.1 bt171.2.2 bt176.1 bt176.2.2 (bt176.2.2 != 0) a0_0 a0_1 a0_2 l0_3) else (colophonlaw28_FurnishJoins.j1 kj2 a1 bt166.1 bt166.2.2 bt171.1 bt171.2.2 bt176.1 bt176.2.2 true a0_0 a0_1 a0_2 l0_3)) else (colophonlaw28_FurnishJoins.j1 kj2 a1 bt166.1 bt166.2.2 bt171.1 bt171.2.2 bt176.1 bt176.2.2 true a0_0 a0_1 a0_2 l0_3))) else (none))))) = some r := by rw [if_neg (show ¬ (false = true) by decide)] at H; exact H
        clear H
        have H := H1
        clear H1
        replace H := Option.bind_eq_some_iff.mp H
        obtain ⟨t163, A110, H⟩ := H
        replace H : ((furnish_Expand.f kj2 a0_0 a0_1 a0_2 t163).bind fun bt166 => ((furnish_Expand.f kj2 a1 a0_1 a0_2 t163).bind fun bt171 => (if a0_0.size + a1.size ≤ 9223372036854775807 then ((furnish_Expand.f kj2 (a0_0 ++ a1) a0_1 a0_2 t163).bind fun bt176 => (if bt166.2.2 = 0 then (if bt171.2.2 = 0 then (colophonlaw28_FurnishJoins.j1 kj2 a1 bt166.1 bt166.2.2 bt171.1 bt171.2.2 bt176.1 bt176.2.2 (bt176.2.2 != 0) a0_0 a0_1 a0_2 l0_3) else (colophonlaw28_FurnishJoins.j1 kj2 a1 bt166.1 bt166.2.2 bt171.1 bt171.2.2 bt176.1 bt176.2.2 true a0_0 a0_1 a0_2 l0_3)) else (colophonlaw28_FurnishJoins.j1 kj2 a1 bt166.1 bt166.2.2 bt171.1 bt171.2.2 bt176.1 bt176.2.2 true a0_0 a0_1 a0_2 l0_3))) else (none)))) = some r := H
        have A11 := Aside0.mk A110
        clear A110
        replace H := Option.bind_eq_some_iff.mp H
        obtain ⟨⟨t166, t167, t168⟩, A120, H⟩ := H
        replace H : ((furnish_Expand.f kj2 a1 a0_1 a0_2 t163).bind fun bt171 => (if a0_0.size + a1.size ≤ 9223372036854775807 then ((furnish_Expand.f kj2 (a0_0 ++ a1) a0_1 a0_2 t163).bind fun bt176 => (if t168 = 0 then (if bt171.2.2 = 0 then (colophonlaw28_FurnishJoins.j1 kj2 a1 t166 t168 bt171.1 bt171.2.2 bt176.1 bt176.2.2 (bt176.2.2 != 0) a0_0 a0_1 a0_2 l0_3) else (colophonlaw28_FurnishJoins.j1 kj2 a1 t166 t168 bt171.1 bt171.2.2 bt176.1 bt176.2.2 true a0_0 a0_1 a0_2 l0_3)) else (colophonlaw28_FurnishJoins.j1 kj2 a1 t166 t168 bt171.1 bt171.2.2 bt176.1 bt176.2.2 true a0_0 a0_1 a0_2 l0_3))) else (none))) = some r := H
        have A12 := Aside0.mk A120
        clear A120
        replace H := Option.bind_eq_some_iff.mp H
        obtain ⟨⟨t171, t172, t173⟩, A130, H⟩ := H
        replace H : (if a0_0.size + a1.size ≤ 9223372036854775807 then ((furnish_Expand.f kj2 (a0_0 ++ a1) a0_1 a0_2 t163).bind fun bt176 => (if t168 = 0 then (if t173 = 0 then (colophonlaw28_FurnishJoins.j1 kj2 a1 t166 t168 t171 t173 bt176.1 bt176.2.2 (bt176.2.2 != 0) a0_0 a0_1 a0_2 l0_3) else (colophonlaw28_FurnishJoins.j1 kj2 a1 t166 t168 t171 t173 bt176.1 bt176.2.2 true a0_0 a0_1 a0_2 l0_3)) else (colophonlaw28_FurnishJoins.j1 kj2 a1 t166 t168 t171 t173 bt176.1 bt176.2.2 true a0_0 a0_1 a0_2 l0_3))) else (none)) = some r := H
        have A13 := Aside0.mk A130
        clear A130
        by_cases c14 : a0_0.size + a1.size ≤ 9223372036854775807
        · rw [if_pos c14] at H
          have c14b0 := eq_true c14
          have c14b1 : decide (a0_0.size + a1.size ≤ 9223372036854775807) = true := decide_eq_true c14
          try have c14b2 : (9223372036854775807 < a0_0.size + a1.size) = False := eq_false (Nat.not_lt.2 c14)
          replace H := Option.bind_eq_some_iff.mp H
          obtain ⟨⟨t176, t177, t178⟩, A150, H⟩ := H
          replace H : (if t168 = 0 then (if t173 = 0 then (colophonlaw28_FurnishJoins.j1 kj2 a1 t166 t168 t171 t173 t176 t178 (t178 != 0) a0_0 a0_1 a0_2 l0_3) else (colophonlaw28_FurnishJoins.j1 kj2 a1 t166 t168 t171 t173 t176 t178 true a0_0 a0_1 a0_2 l0_3)) else (colophonlaw28_FurnishJoins.j1 kj2 a1 t166 t168 t171 t173 t176 t178 true a0_0 a0_1 a0_2 l0_3)) = some r := H
          have A15 := Aside0.mk A150
          clear A150
          have HC16 := Aside0.mk H
          clear H
          have hcz17_0 : wc.cell? ⟨gb161, 0, none⟩ = some (.string a0_0) := (blk_cell BK161.out 0).trans rfl
          have hcz17_1 : wc.cell? ⟨gb161, 1, none⟩ = some (.int .i64 a0_1) := (blk_cell BK161.out 1).trans rfl
          have hcz17_2 : wc.cell? ⟨gb161, 2, none⟩ = some (.int .i64 a0_2) := (blk_cell BK161.out 2).trans rfl
          have hcz17_3 : wc.cell? ⟨gb161, 3, none⟩ = some (.slice A0_3 l0_3.length c0_3) := (blk_cell BK161.out 3).trans rfl
          have hfz17_0 := blk_frozen BK161.out 0
          have hfz17_1 := blk_frozen BK161.out 1
          have hfz17_2 := blk_frozen BK161.out 2
          have hfz17_3 := blk_frozen BK161.out 3
          go_upto_region 7 with (first | ((with_reducible refine gate_callee (f := 9) rfl ?_); refine goesL_ (some 27) rfl rfl Tryd.func9 (by kernel_rfl) rfl #[.slice A0_3 l0_3.length c0_3, .int .i64 2000] rfl (by (try simp only [List.map_toArray, List.map_cons, List.map_nil]); first | done | rfl | (simp only [List.length_drop, List.length_take]; rfl)) ?_; (with_reducible refine (colophonkeep_Ints.calls _ _ l0_3 2000 t163 _ ?side1 ?side2 A11.out).mono ?_); (case side1 => repeat (first | exact (Kd.C_below HR0_3.out HB.out) | (with_reducible refine Kd.C_alloc ?_ _) | (with_reducible refine Kd.C_drewN ?_ _) | (with_reducible refine Kd.C_drew ?_))); (case side2 => exact HC0_3.out); rintro e w18 ⟨v164, rfl, ho0, hb⟩; refine ⟨_, rfl, ?_⟩; have n0_ := Aside0.mk (Kd.R_lower ho0 (below_size (by repeat (first | (with_reducible first | exact HB.out | apply below_alloc | apply pw_below_drewN | apply below_drew1 | refine below_set ?_ GE161.out) | exact HB.out)))); have n1_ := Aside0.mk (blk_below (g := gb161) (o := .cells #[.string a0_0, .int .i64 a0_1, .int .i64 a0_2, .slice A0_3 l0_3.length c0_3] 24 (0, 0)) (by (with_reducible repeat (first | refine blk_drewN ?_ _ | refine blk_drew ?_ | refine blk_alloc ?_ _)); exact BK161.out) hb); have n2_ := Aside0.mk (below_step (by repeat (first | (with_reducible first | exact HB.out | apply below_alloc | apply pw_below_drewN | apply below_drew1 | refine below_set ?_ GE161.out) | exact HB.out)) hb); clear BK161; clear HB; have HO165 := n0_; have BK161 := n1_; have HB := n2_; clear n0_ n1_ n2_; (try clear hb); (try clear hb2); (try clear hk); (try clear hi); (try clear ho0); have hcz19_0 : w18.cell? ⟨gb161, 0, none⟩ = some (.string a0_0) := (blk_cell BK161.out 0).trans rfl; have hcz19_1 : w18.cell? ⟨gb161, 1, none⟩ = some (.int .i64 a0_1) := (blk_cell BK161.out 1).trans rfl; have hcz19_2 : w18.cell? ⟨gb161, 2, none⟩ = some (.int .i64 a0_2) := (blk_cell BK161.out 2).trans rfl; have hcz19_3 : w18.cell? ⟨gb161, 3, none⟩ = some (.slice A0_3 l0_3.length c0_3) := (blk_cell BK161.out 3).trans rfl; have hfz19_0 := blk_frozen BK161.out 0; have hfz19_1 := blk_frozen BK161.out 1; have hfz19_2 := blk_frozen BK161.out 2; have hfz19_3 := blk_frozen BK161.out 3; obtain ⟨Ao20, co20, eo20⟩ := Kd.R_slice HO165.out; subst eo20) | ((with_reducible refine gate_callee (f := 12) rfl ?_); refine goesL_ (some 36) rfl rfl Tryd.func12 (by kernel_rfl) rfl #[.string a0_0, .int .i64 a0_1, .int .i64 a0_2, .slice Ao20 t163.length co20] rfl (by (try simp only [List.map_toArray, List.map_cons, List.map_nil]); first | done | rfl | (simp only [List.length_drop, List.length_take]; rfl)) ?_; (with_reducible refine (furnish_Expand.calls kj2 a0_0 a0_1 a0_2 _ _ t163 t166 t167 t168 _ ?side1 ?side2 ?side3 A12.out).mono ?_); (case side1 => repeat (first | exact (Kd.R_reads' HO165.out).2.2 | (with_reducible refine Kd.C_alloc ?_ _) | (with_reducible refine Kd.C_drewN ?_ _) | (with_reducible refine Kd.C_drew ?_))); (case side2 => exact (Kd.R_reads' HO165.out).2.1); (case side3 => exact Lw.below hLW (by repeat (first | (with_reducible first | exact HB.out | apply below_alloc | apply pw_below_drewN | apply below_drew1 | refine below_set ?_ GE161.out) | exact HB.out))); rintro e w21 ⟨v169, rfl, ho0, hb⟩; refine ⟨_, rfl, ?_⟩; have n0_ := Aside0.mk (Kd.R_elder' (by (with_reducible repeat (first | apply Kd.R_alloc | apply Kd.R_drewN | apply Kd.R_drew)); exact HO165.out) (Kd.R_base ho0) hb); have n1_ := Aside0.mk (Kd.R_lower (Kd.R_new' ho0 (Kd.R_lt (by (with_reducible repeat (first | apply Kd.R_alloc | apply Kd.R_drewN | apply Kd.R_drew)); exact HO165.out))) (below_size (by repeat (first | (with_reducible first | exact HB.out | apply below_alloc | apply pw_below_drewN | apply below_drew1 | refine below_set ?_ GE161.out) | exact HB.out)))); have n2_ := Aside0.mk (blk_below (g := gb161) (o := .cells #[.string a0_0, .int .i64 a0_1, .int .i64 a0_2, .slice A0_3 l0_3.length c0_3] 24 (0, 0)) (by (with_reducible repeat (first | refine blk_drewN ?_ _ | refine blk_drew ?_ | refine blk_alloc ?_ _)); exact BK161.out) hb); have n3_ := Aside0.mk (below_step (by repeat (first | (with_reducible first | exact HB.out | apply below_alloc | apply pw_below_drewN | apply below_drew1 | refine below_set ?_ GE161.out) | exact HB.out)) hb); clear HO165; clear BK161; clear HB; have HO165 := n0_; have HO170 := n1_; have BK161 := n2_; have HB := n3_; clear n0_ n1_ n2_ n3_; (try clear hb); (try clear hb2); (try clear hk); (try clear hi); (try clear ho0); have hcz22_0 : w21.cell? ⟨gb161, 0, none⟩ = some (.string a0_0) := (blk_cell BK161.out 0).trans rfl; have hcz22_1 : w21.cell? ⟨gb161, 1, none⟩ = some (.int .i64 a0_1) := (blk_cell BK161.out 1).trans rfl; have hcz22_2 : w21.cell? ⟨gb161, 2, none⟩ = some (.int .i64 a0_2) := (blk_cell BK161.out 2).trans rfl; have hcz22_3 : w21.cell? ⟨gb161, 3, none⟩ = some (.slice A0_3 l0_3.length c0_3) := (blk_cell BK161.out 3).trans rfl; have hfz22_0 := blk_frozen BK161.out 0; have hfz22_1 := blk_frozen BK161.out 1; have hfz22_2 := blk_frozen BK161.out 2; have hfz22_3 := blk_frozen BK161.out 3) | ((with_reducible refine gate_callee (f := 12) rfl ?_); refine goesL_ (some 47) rfl rfl Tryd.func12 (by kernel_rfl) rfl #[.string a1, .int .i64 a0_1, .int .i64 a0_2, .slice Ao20 t163.length co20] rfl (by (try simp only [List.map_toArray, List.map_cons, List.map_nil]); first | done | rfl | (simp only [List.length_drop, List.length_take]; rfl)) ?_; (with_reducible refine (furnish_Expand.calls kj2 a1 a0_1 a0_2 _ _ t163 t171 t172 t173 _ ?side1 ?side2 ?side3 A13.out).mono ?_); (case side1 => repeat (first | exact (Kd.R_reads' HO165.out).2.2 | (with_reducible refine Kd.C_alloc ?_ _) | (with_reducible refine Kd.C_drewN ?_ _) | (with_reducible refine Kd.C_drew ?_))); (case side2 => exact (Kd.R_reads' HO165.out).2.1); (case side3 => exact Lw.below hLW (by repeat (first | (with_reducible first | exact HB.out | apply below_alloc | apply pw_below_drewN | apply below_drew1 | refine below_set ?_ GE161.out) | exact HB.out))); rintro e w23 ⟨v174, rfl, ho0, hb⟩; refine ⟨_, rfl, ?_⟩; have n0_ := Aside0.mk (Kd.R_elder' (by (with_reducible repeat (first | apply Kd.R_alloc | apply Kd.R_drewN | apply Kd.R_drew)); exact HO165.out) (Kd.R_base ho0) hb); have n1_ := Aside0.mk (Kd.R_elder' (by (with_reducible repeat (first | apply Kd.R_alloc | apply Kd.R_drewN | apply Kd.R_drew)); exact HO170.out) (Kd.R_base ho0) hb); have n2_ := Aside0.mk (Kd.R_lower (Kd.R_new' (Kd.R_new' ho0 (Kd.R_lt (by (with_reducible repeat (first | apply Kd.R_alloc | apply Kd.R_drewN | apply Kd.R_drew)); exact HO165.out))) (Kd.R_lt (by (with_reducible repeat (first | apply Kd.R_alloc | apply Kd.R_drewN | apply Kd.R_drew)); exact HO170.out))) (below_size (by repeat (first | (with_reducible first | exact HB.out | apply below_alloc | apply pw_below_drewN | apply below_drew1 | refine below_set ?_ GE161.out) | exact HB.out)))); have n3_ := Aside0.mk (blk_below (g := gb161) (o := .cells #[.string a0_0, .int .i64 a0_1, .int .i64 a0_2, .slice A0_3 l0_3.length c0_3] 24 (0, 0)) (by (with_reducible repeat (first | refine blk_drewN ?_ _ | refine blk_drew ?_ | refine blk_alloc ?_ _)); exact BK161.out) hb); have n4_ := Aside0.mk (below_step (by repeat (first | (with_reducible first | exact HB.out | apply below_alloc | apply pw_below_drewN | apply below_drew1 | refine below_set ?_ GE161.out) | exact HB.out)) hb); clear HO165; clear HO170; clear BK161; clear HB; have HO165 := n0_; have HO170 := n1_; have HO175 := n2_; have BK161 := n3_; have HB := n4_; clear n0_ n1_ n2_ n3_ n4_; (try clear hb); (try clear hb2); (try clear hk); (try clear hi); (try clear ho0); have hcz24_0 : w23.cell? ⟨gb161, 0, none⟩ = some (.string a0_0) := (blk_cell BK161.out 0).trans rfl; have hcz24_1 : w23.cell? ⟨gb161, 1, none⟩ = some (.int .i64 a0_1) := (blk_cell BK161.out 1).trans rfl; have hcz24_2 : w23.cell? ⟨gb161, 2, none⟩ = some (.int .i64 a0_2) := (blk_cell BK161.out 2).trans rfl; have hcz24_3 : w23.cell? ⟨gb161, 3, none⟩ = some (.slice A0_3 l0_3.length c0_3) := (blk_cell BK161.out 3).trans rfl; have hfz24_0 := blk_frozen BK161.out 0; have hfz24_1 := blk_frozen BK161.out 1; have hfz24_2 := blk_frozen BK161.out 2; have hfz24_3 := blk_frozen BK161.out 3) | ((with_reducible refine gate_callee (f := 12) rfl ?_); refine goesL_ (some 61) rfl rfl Tryd.func12 (by kernel_rfl) rfl #[.string (a0_0 ++ a1), .int .i64 a0_1, .int .i64 a0_2, .slice Ao20 t163.length co20] rfl (by (try simp only [List.map_toArray, List.map_cons, List.map_nil]); first | done | rfl | (simp only [List.length_drop, List.length_take]; rfl)) ?_; (with_reducible refine (furnish_Expand.calls kj2 (a0_0 ++ a1) a0_1 a0_2 _ _ t163 t176 t177 t178 _ ?side1 ?side2 ?side3 A15.out).mono ?_); (case side1 => repeat (first | exact (Kd.R_reads' HO165.out).2.2 | (with_reducible refine Kd.C_alloc ?_ _) | (with_reducible refine Kd.C_drewN ?_ _) | (with_reducible refine Kd.C_drew ?_))); (case side2 => exact (Kd.R_reads' HO165.out).2.1); (case side3 => exact Lw.below hLW (by repeat (first | (with_reducible first | exact HB.out | apply below_alloc | apply pw_below_drewN | apply below_drew1 | refine below_set ?_ GE161.out) | exact HB.out))); rintro e w25 ⟨v179, rfl, ho0, hb⟩; refine ⟨_, rfl, ?_⟩; have n0_ := Aside0.mk (Kd.R_elder' (by (with_reducible repeat (first | apply Kd.R_alloc | apply Kd.R_drewN | apply Kd.R_drew)); exact HO165.out) (Kd.R_base ho0) hb); have n1_ := Aside0.mk (Kd.R_elder' (by (with_reducible repeat (first | apply Kd.R_alloc | apply Kd.R_drewN | apply Kd.R_drew)); exact HO170.out) (Kd.R_base ho0) hb); have n2_ := Aside0.mk (Kd.R_elder' (by (with_reducible repeat (first | apply Kd.R_alloc | apply Kd.R_drewN | apply Kd.R_drew)); exact HO175.out) (Kd.R_base ho0) hb); have n3_ := Aside0.mk (Kd.R_lower (Kd.R_new' (Kd.R_new' (Kd.R_new' ho0 (Kd.R_lt (by (with_reducible repeat (first | apply Kd.R_alloc | apply Kd.R_drewN | apply Kd.R_drew)); exact HO165.out))) (Kd.R_lt (by (with_reducible repeat (first | apply Kd.R_alloc | apply Kd.R_drewN | apply Kd.R_drew)); exact HO170.out))) (Kd.R_lt (by (with_reducible repeat (first | apply Kd.R_alloc | apply Kd.R_drewN | apply Kd.R_drew)); exact HO175.out))) (below_size (by repeat (first | (with_reducible first | exact HB.out | apply below_alloc | apply pw_below_drewN | apply below_drew1 | refine below_set ?_ GE161.out) | exact HB.out)))); have n4_ := Aside0.mk (blk_below (g := gb161) (o := .cells #[.string a0_0, .int .i64 a0_1, .int .i64 a0_2, .slice A0_3 l0_3.length c0_3] 24 (0, 0)) (by (with_reducible repeat (first | refine blk_drewN ?_ _ | refine blk_drew ?_ | refine blk_alloc ?_ _)); exact BK161.out) hb); have n5_ := Aside0.mk (below_step (by repeat (first | (with_reducible first | exact HB.out | apply below_alloc | apply pw_below_drewN | apply below_drew1 | refine below_set ?_ GE161.out) | exact HB.out)) hb); clear HO165; clear HO170; clear HO175; clear BK161; clear HB; have HO165 := n0_; have HO170 := n1_; have HO175 := n2_; have HO180 := n3_; have BK161 := n4_; have HB := n5_; clear n0_ n1_ n2_ n3_ n4_ n5_; (try clear hb); (try clear hb2); (try clear hk); (try clear hi); (try clear ho0)))
          (try simp only [Act.put, List.setIfInBounds_toArray, List.set_cons_zero, List.set_cons_succ])
          go_cut [74] (fun v74 wc => ∃ (kq : Nat) (x74_15 : Bool), v74 = .bool x74_15 ∧ Aside0 (colophonlaw28_FurnishJoins.j1 kq a1 t166 t168 t171 t173 t176 t178 x74_15 a0_0 a0_1 a0_2 l0_3 = some r) ∧ Aside0 (kq ≤ kj2) ∧ Aside0 (Kd.R (Kd.int .i64) 3 wc w.heap.size (fun k_ => some k_ ≠ (v174 : Value).ownBlock ∧ some k_ ≠ (v179 : Value).ownBlock) v169 t166) ∧ Aside0 (Kd.R (Kd.int .i64) 3 wc w.heap.size (fun k_ => some k_ ≠ (v169 : Value).ownBlock ∧ some k_ ≠ (v179 : Value).ownBlock) v174 t171) ∧ Aside0 (Kd.R (Kd.int .i64) 3 wc w.heap.size (fun k_ => some k_ ≠ (v169 : Value).ownBlock ∧ some k_ ≠ (v174 : Value).ownBlock) v179 t176) ∧ Aside0 (wc.heap[gb161]? = some (.cells #[.string a0_0, .int .i64 a0_1, .int .i64 a0_2, (.slice A0_3 l0_3.length c0_3)] 24 (0, 0))) ∧ Aside0 (Below w.heap.size w wc))
          case first =>
            have H := HC16.out
            clear HC16
            by_cases c26 : t168 = 0
            · rw [if_pos c26] at H
              have c26b0 : (t168 == 0) = true := beq_iff_eq.mpr c26
              have c26b1 : (t168 != 0) = false := bne_eq_false_iff_eq.mpr c26
              clear c26
              (first | rw [c26b0] | (simp only [i64_w, i32_w]; rw [c26b0]) | skip)
              by_cases c27 : t173 = 0
              · rw [if_pos c27] at H
                have c27b0 : (t173 == 0) = true := beq_iff_eq.mpr c27
                have c27b1 : (t173 != 0) = false := bne_eq_false_iff_eq.mpr c27
                clear c27
                have H' := Aside0.mk H
                clear H
                go_wp2
                go_meet
                case rel => exact ⟨_, ((t178 != 0)), (by first | rfl | (simp; done) | (simp [*]; done)), H', ⟨by have := HJ2.out; first | omega | exact Nat.le_refl _⟩, ⟨by (with_reducible repeat (first | apply Kd.R_alloc | apply Kd.R_drewN | apply Kd.R_drew)); exact Kd.R_mono HO170.out (fun _ hk => ⟨hk.1.2, hk.2⟩)⟩, ⟨by (with_reducible repeat (first | apply Kd.R_alloc | apply Kd.R_drewN | apply Kd.R_drew)); exact Kd.R_mono HO175.out (fun _ hk => ⟨hk.1.2, hk.2⟩)⟩, ⟨by (with_reducible repeat (first | apply Kd.R_alloc | apply Kd.R_drewN | apply Kd.R_drew)); exact Kd.R_mono HO180.out (fun _ hk => ⟨hk.1.2, hk.2⟩)⟩, ⟨by (with_reducible repeat (first | refine blk_drewN ?_ _ | refine blk_drew ?_ | refine blk_alloc ?_ _)); exact BK161.out⟩, ⟨by repeat (first | (with_reducible first | exact HB.out | apply below_alloc | apply pw_below_drewN | apply below_drew1 | refine below_set ?_ GE161.out) | exact HB.out)⟩⟩
              · rw [if_neg c27] at H
                have c27b0 : (t173 == 0) = false := beq_eq_false_iff_ne.mpr c27
                have c27b1 : (t173 != 0) = true := bne_iff_ne.mpr c27
                have H' := Aside0.mk H
                clear H
                go_wp2
                go_meet
                case rel => exact ⟨_, (true), (by first | rfl | (simp; done) | (simp [*]; done)), H', ⟨by have := HJ2.out; first | omega | exact Nat.le_refl _⟩, ⟨by (with_reducible repeat (first | apply Kd.R_alloc | apply Kd.R_drewN | apply Kd.R_drew)); exact Kd.R_mono HO170.out (fun _ hk => ⟨hk.1.2, hk.2⟩)⟩, ⟨by (with_reducible repeat (first | apply Kd.R_alloc | apply Kd.R_drewN | apply Kd.R_drew)); exact Kd.R_mono HO175.out (fun _ hk => ⟨hk.1.2, hk.2⟩)⟩, ⟨by (with_reducible repeat (first | apply Kd.R_alloc | apply Kd.R_drewN | apply Kd.R_drew)); exact Kd.R_mono HO180.out (fun _ hk => ⟨hk.1.2, hk.2⟩)⟩, ⟨by (with_reducible repeat (first | refine blk_drewN ?_ _ | refine blk_drew ?_ | refine blk_alloc ?_ _)); exact BK161.out⟩, ⟨by repeat (first | (with_reducible first | exact HB.out | apply below_alloc | apply pw_below_drewN | apply below_drew1 | refine below_set ?_ GE161.out) | exact HB.out)⟩⟩
            · rw [if_neg c26] at H
              have c26b0 : (t168 == 0) = false := beq_eq_false_iff_ne.mpr c26
              have c26b1 : (t168 != 0) = true := bne_iff_ne.mpr c26
              (first | rw [c26b0] | (simp only [i64_w, i32_w]; rw [c26b0]) | skip)
              have H' := Aside0.mk H
              clear H
              go_wp2
              go_meet
              case rel => exact ⟨_, (true), (by first | rfl | (simp; done) | (simp [*]; done)), H', ⟨by have := HJ2.out; first | omega | exact Nat.le_refl _⟩, ⟨by (with_reducible repeat (first | apply Kd.R_alloc | apply Kd.R_drewN | apply Kd.R_drew)); exact Kd.R_mono HO170.out (fun _ hk => ⟨hk.1.2, hk.2⟩)⟩, ⟨by (with_reducible repeat (first | apply Kd.R_alloc | apply Kd.R_drewN | apply Kd.R_drew)); exact Kd.R_mono HO175.out (fun _ hk => ⟨hk.1.2, hk.2⟩)⟩, ⟨by (with_reducible repeat (first | apply Kd.R_alloc | apply Kd.R_drewN | apply Kd.R_drew)); exact Kd.R_mono HO180.out (fun _ hk => ⟨hk.1.2, hk.2⟩)⟩, ⟨by (with_reducible repeat (first | refine blk_drewN ?_ _ | refine blk_drew ?_ | refine blk_alloc ?_ _)); exact BK161.out⟩, ⟨by repeat (first | (with_reducible first | exact HB.out | apply below_alloc | apply pw_below_drewN | apply below_drew1 | refine below_set ?_ GE161.out) | exact HB.out)⟩⟩
          case rest =>
            clear HC16
            try clear c1
            try clear c2
            try clear p2
            try clear c5
            try clear c5b0
            try clear c5b1
            try clear c8
            try clear c9
            try clear c12
            try clear c14
            try clear c14b0
            try clear c14b1
            try clear c14b2
            try clear c26
            try clear c26b0
            try clear c26b1
            try clear c27
            try clear c27b0
            try clear c27b1
            try clear hcz17_0
            try clear hcz17_1
            try clear hcz17_2
            try clear hcz17_3
            try clear hcz19_0
            try clear hcz19_1
            try clear hcz19_2
            try clear hcz19_3
            try clear hcz22_0
            try clear hcz22_1
            try clear hcz22_2
            try clear hcz22_3
            try clear hcz24_0
            try clear hcz24_1
            try clear hcz24_2
            try clear hcz24_3
            try clear hcz6_0
            try clear hcz6_1
            try clear hcz6_2
            try clear hcz6_3
            try clear hcz7_0
            try clear hcz7_1
            try clear hcz7_2
            try clear hcz7_3
            try clear hfz17_0
            try clear hfz17_1
            try clear hfz17_2
            try clear hfz17_3
            try clear hfz19_0
            try clear hfz19_1
            try clear hfz19_2
            try clear hfz19_3
            try clear hfz22_0
            try clear hfz22_1
            try clear hfz22_2
            try clear hfz22_3
            try clear hfz24_0
            try clear hfz24_1
            try clear hfz24_2
            try clear hfz24_3
            try clear hfz6_0
            try clear hfz6_1
            try clear hfz6_2
            try clear hfz6_3
            try clear hfz7_0
            try clear hfz7_1
            try clear hfz7_2
            try clear hfz7_3
            try clear p2
            obtain ⟨kq, x74_15, rfl, HA, HJ15, HO_6, HO_9, HO_12, BK161, HB⟩ := hcut
            cases kq with
            | zero => exact absurd HA.out (by simp [colophonlaw28_FurnishJoins.j1])
            | succ kj15 =>
              have H := HA.out
              clear HA
              simp only [colophonlaw28_FurnishJoins.j1] at H
              by_cases c28 : x74_15 = true
              · subst c28
                have H1 : (if t168 = 0 then (if t173 = 0 then (if t178 = 0 then (if (wrap64 ((a0_0.size : Int) + (a1.size : Int))) > 4096 then ((colophonlaw28_wakes.f kj15).bind fun t181 => (some t181)) else (some false)) else (if (t176.length : Int) = 0 then (if (wrap64 ((a0_0.size : Int) + (a1.size : Int))) > 4096 then ((colophonlaw28_wakes.f kj15).bind fun t182 => (some t182)) else (some false)) else (some false))) else (if (t171.length : Int) = 0 then (if t178 = 0 then ((colophonlaw28_wakes.f kj15).bind fun t183 => (some t183)) else (if (t176.length : Int) = 0 then ((colophonlaw28_wakes.f kj15).bind fun t184 => (some t184)) else (some false))) else (some false))) else (if (t166.length : Int) = 0 then (if t173 = 0 then (if t178 = 0 then ((colophonlaw28_wakes.f kj15).bind fun t185 => (some t185)) else (if (t176.length : Int) = 0 then ((colophonlaw28_wakes.f kj15).bind fun t186 => (some t186)) else (some false))) else (if (t171.length : Int) = 0 then (if t178 = 0 then ((colophonlaw28_wakes.f kj15).bind fun t187 => (some t187)) else (if (t176.length : Int) = 0 then ((colophonlaw28_wakes.f kj15).bind fun t188 => (some t188)) else (some false))) else (some false))) else (some false))) = some r := by rw [if_pos rfl] at H; exact H
                clear H
                have H := H1
                clear H1
                by_cases c29 : t168 = 0
                · rw [if_pos c29] at H
                  have c29b0 : (t168 == 0) = true := beq_iff_eq.mpr c29
                  have c29b1 : (t168 != 0) = false := bne_eq_false_iff_eq.mpr c29
                  clear c29
                  by_cases c30 : t173 = 0
                  · rw [if_pos c30] at H
                    have c30b0 : (t173 == 0) = true := beq_iff_eq.mpr c30
                    have c30b1 : (t173 != 0) = false := bne_eq_false_iff_eq.mpr c30
                    clear c30
                    by_cases c31 : t178 = 0
                    · rw [if_pos c31] at H
                      have c31b0 : (t178 == 0) = true := beq_iff_eq.mpr c31
                      have c31b1 : (t178 != 0) = false := bne_eq_false_iff_eq.mpr c31
                      clear c31
                      by_cases c32 : (wrap64 ((a0_0.size : Int) + (a1.size : Int))) > 4096
                      · rw [if_pos c32] at H
                        have c32b0 : decide (4096 < (wrap64 ((a0_0.size : Int) + (a1.size : Int)))) = true := decide_eq_true c32
                        clear c32
                        replace H := Option.bind_eq_some_iff.mp H
                        obtain ⟨t181, A330, H⟩ := H
                        replace H : (some t181) = some r := H
                        have A33 := Aside0.mk A330
                        clear A330
                        obtain rfl := Option.some.inj H
                        have hcz34_0 : wc.cell? ⟨gb161, 0, none⟩ = some (.string a0_0) := (blk_cell BK161.out 0).trans rfl
                        have hcz34_1 : wc.cell? ⟨gb161, 1, none⟩ = some (.int .i64 a0_1) := (blk_cell BK161.out 1).trans rfl
                        have hcz34_2 : wc.cell? ⟨gb161, 2, none⟩ = some (.int .i64 a0_2) := (blk_cell BK161.out 2).trans rfl
                        have hcz34_3 : wc.cell? ⟨gb161, 3, none⟩ = some (.slice A0_3 l0_3.length c0_3) := (blk_cell BK161.out 3).trans rfl
                        have hfz34_0 := blk_frozen BK161.out 0
                        have hfz34_1 := blk_frozen BK161.out 1
                        have hfz34_2 := blk_frozen BK161.out 2
                        have hfz34_3 := blk_frozen BK161.out 3
                        go_wp2_with (first | (go_at_call 8; (with_reducible refine (colophonlaw28_wakes.calls kj15  t181 _ ?side1 A33.out).mono ?_); (case side1 => exact Lw.below hLW (by repeat (first | (with_reducible first | exact HB.out | apply below_alloc | apply pw_below_drewN | apply below_drew1 | refine below_set ?_ GE161.out) | exact HB.out))); rintro e w35 ⟨rfl, hb⟩; have n0_ := Aside0.mk (Kd.R_below (by (with_reducible repeat (first | apply Kd.R_alloc | apply Kd.R_drewN | apply Kd.R_drew)); exact HO_6.out) hb); have n1_ := Aside0.mk (Kd.R_below (by (with_reducible repeat (first | apply Kd.R_alloc | apply Kd.R_drewN | apply Kd.R_drew)); exact HO_9.out) hb); have n2_ := Aside0.mk (Kd.R_below (by (with_reducible repeat (first | apply Kd.R_alloc | apply Kd.R_drewN | apply Kd.R_drew)); exact HO_12.out) hb); have n3_ := Aside0.mk (blk_below (g := gb161) (o := .cells #[.string a0_0, .int .i64 a0_1, .int .i64 a0_2, .slice A0_3 l0_3.length c0_3] 24 (0, 0)) (by (with_reducible repeat (first | refine blk_drewN ?_ _ | refine blk_drew ?_ | refine blk_alloc ?_ _)); exact BK161.out) hb); have n4_ := Aside0.mk (below_step (by repeat (first | (with_reducible first | exact HB.out | apply below_alloc | apply pw_below_drewN | apply below_drew1 | refine below_set ?_ GE161.out) | exact HB.out)) hb); clear HO_6; clear HO_9; clear HO_12; clear BK161; clear HB; have HO_6 := n0_; have HO_9 := n1_; have HO_12 := n2_; have BK161 := n3_; have HB := n4_; clear n0_ n1_ n2_ n3_ n4_; (try clear hb); (try clear hb2); (try clear hk); (try clear hi)))
                        go_ret
                        exact ⟨by first | rfl | (simp [errW_none, errW_some] <;> rfl) | (simp [*, errW_none, errW_some] <;> rfl), by repeat (first | (with_reducible first | exact HB.out | apply below_alloc | apply pw_below_drewN | apply below_drew1 | refine below_set ?_ GE161.out) | exact HB.out)⟩
                      · rw [if_neg c32] at H
                        have c32b0 : decide (4096 < (wrap64 ((a0_0.size : Int) + (a1.size : Int)))) = false := decide_eq_false c32
                        clear c32
                        obtain rfl := Option.some.inj H
                        have hcz36_0 : wc.cell? ⟨gb161, 0, none⟩ = some (.string a0_0) := (blk_cell BK161.out 0).trans rfl
                        have hcz36_1 : wc.cell? ⟨gb161, 1, none⟩ = some (.int .i64 a0_1) := (blk_cell BK161.out 1).trans rfl
                        have hcz36_2 : wc.cell? ⟨gb161, 2, none⟩ = some (.int .i64 a0_2) := (blk_cell BK161.out 2).trans rfl
                        have hcz36_3 : wc.cell? ⟨gb161, 3, none⟩ = some (.slice A0_3 l0_3.length c0_3) := (blk_cell BK161.out 3).trans rfl
                        have hfz36_0 := blk_frozen BK161.out 0
                        have hfz36_1 := blk_frozen BK161.out 1
                        have hfz36_2 := blk_frozen BK161.out 2
                        have hfz36_3 := blk_frozen BK161.out 3
                        go_wp2
                        go_ret
                        exact ⟨by first | rfl | (simp [errW_none, errW_some] <;> rfl) | (simp [*, errW_none, errW_some] <;> rfl), by repeat (first | (with_reducible first | exact HB.out | apply below_alloc | apply pw_below_drewN | apply below_drew1 | refine below_set ?_ GE161.out) | exact HB.out)⟩
                    · rw [if_neg c31] at H
                      have c31b0 : (t178 == 0) = false := beq_eq_false_iff_ne.mpr c31
                      have c31b1 : (t178 != 0) = true := bne_iff_ne.mpr c31
                      by_cases c37 : (t176.length : Int) = 0
                      · rw [if_pos c37] at H
                        have c37b0 : ((t176.length : Int) == 0) = true := beq_iff_eq.mpr c37
                        have c37b1 : ((t176.length : Int) != 0) = false := bne_eq_false_iff_eq.mpr c37
                        clear c37
                        by_cases c38 : (wrap64 ((a0_0.size : Int) + (a1.size : Int))) > 4096
                        · rw [if_pos c38] at H
                          have c38b0 : decide (4096 < (wrap64 ((a0_0.size : Int) + (a1.size : Int)))) = true := decide_eq_true c38
                          clear c38
                          replace H := Option.bind_eq_some_iff.mp H
                          obtain ⟨t182, A390, H⟩ := H
                          replace H : (some t182) = some r := H
                          have A39 := Aside0.mk A390
                          clear A390
                          obtain rfl := Option.some.inj H
                          obtain ⟨Ao40, co40, eo40⟩ := Kd.R_slice HO_12.out
                          subst eo40
                          have hcz41_0 : wc.cell? ⟨gb161, 0, none⟩ = some (.string a0_0) := (blk_cell BK161.out 0).trans rfl
                          have hcz41_1 : wc.cell? ⟨gb161, 1, none⟩ = some (.int .i64 a0_1) := (blk_cell BK161.out 1).trans rfl
                          have hcz41_2 : wc.cell? ⟨gb161, 2, none⟩ = some (.int .i64 a0_2) := (blk_cell BK161.out 2).trans rfl
                          have hcz41_3 : wc.cell? ⟨gb161, 3, none⟩ = some (.slice A0_3 l0_3.length c0_3) := (blk_cell BK161.out 3).trans rfl
                          have hfz41_0 := blk_frozen BK161.out 0
                          have hfz41_1 := blk_frozen BK161.out 1
                          have hfz41_2 := blk_frozen BK161.out 2
                          have hfz41_3 := blk_frozen BK161.out 3
                          go_wp2_with (first | (go_at_call 8; (with_reducible refine (colophonlaw28_wakes.calls kj15  t182 _ ?side1 A39.out).mono ?_); (case side1 => exact Lw.below hLW (by repeat (first | (with_reducible first | exact HB.out | apply below_alloc | apply pw_below_drewN | apply below_drew1 | refine below_set ?_ GE161.out) | exact HB.out))); rintro e w42 ⟨rfl, hb⟩; have n0_ := Aside0.mk (Kd.R_below (by (with_reducible repeat (first | apply Kd.R_alloc | apply Kd.R_drewN | apply Kd.R_drew)); exact HO_6.out) hb); have n1_ := Aside0.mk (Kd.R_below (by (with_reducible repeat (first | apply Kd.R_alloc | apply Kd.R_drewN | apply Kd.R_drew)); exact HO_9.out) hb); have n2_ := Aside0.mk (Kd.R_below (by (with_reducible repeat (first | apply Kd.R_alloc | apply Kd.R_drewN | apply Kd.R_drew)); exact HO_12.out) hb); have n3_ := Aside0.mk (blk_below (g := gb161) (o := .cells #[.string a0_0, .int .i64 a0_1, .int .i64 a0_2, .slice A0_3 l0_3.length c0_3] 24 (0, 0)) (by (with_reducible repeat (first | refine blk_drewN ?_ _ | refine blk_drew ?_ | refine blk_alloc ?_ _)); exact BK161.out) hb); have n4_ := Aside0.mk (below_step (by repeat (first | (with_reducible first | exact HB.out | apply below_alloc | apply pw_below_drewN | apply below_drew1 | refine below_set ?_ GE161.out) | exact HB.out)) hb); clear HO_6; clear HO_9; clear HO_12; clear BK161; clear HB; have HO_6 := n0_; have HO_9 := n1_; have HO_12 := n2_; have BK161 := n3_; have HB := n4_; clear n0_ n1_ n2_ n3_ n4_; (try clear hb); (try clear hb2); (try clear hk); (try clear hi)))
                          go_ret
                          exact ⟨by first | rfl | (simp [errW_none, errW_some] <;> rfl) | (simp [*, errW_none, errW_some] <;> rfl), by repeat (first | (with_reducible first | exact HB.out | apply below_alloc | apply pw_below_drewN | apply below_drew1 | refine below_set ?_ GE161.out) | exact HB.out)⟩
                        · rw [if_neg c38] at H
                          have c38b0 : decide (4096 < (wrap64 ((a0_0.size : Int) + (a1.size : Int)))) = false := decide_eq_false c38
                          clear c38
                          obtain rfl := Option.some.inj H
                          obtain ⟨Ao43, co43, eo43⟩ := Kd.R_slice HO_12.out
                          subst eo43
                          have hcz44_0 : wc.cell? ⟨gb161, 0, none⟩ = some (.string a0_0) := (blk_cell BK161.out 0).trans rfl
                          have hcz44_1 : wc.cell? ⟨gb161, 1, none⟩ = some (.int .i64 a0_1) := (blk_cell BK161.out 1).trans rfl
                          have hcz44_2 : wc.cell? ⟨gb161, 2, none⟩ = some (.int .i64 a0_2) := (blk_cell BK161.out 2).trans rfl
                          have hcz44_3 : wc.cell? ⟨gb161, 3, none⟩ = some (.slice A0_3 l0_3.length c0_3) := (blk_cell BK161.out 3).trans rfl
                          have hfz44_0 := blk_frozen BK161.out 0
                          have hfz44_1 := blk_frozen BK161.out 1
                          have hfz44_2 := blk_frozen BK161.out 2
                          have hfz44_3 := blk_frozen BK161.out 3
                          go_wp2
                          go_ret
                          exact ⟨by first | rfl | (simp [errW_none, errW_some] <;> rfl) | (simp [*, errW_none, errW_some] <;> rfl), by repeat (first | (with_reducible first | exact HB.out | apply below_alloc | apply pw_below_drewN | apply below_drew1 | refine below_set ?_ GE161.out) | exact HB.out)⟩
                      · rw [if_neg c37] at H
                        have c37b0 : ((t176.length : Int) == 0) = false := beq_eq_false_iff_ne.mpr c37
                        have c37b1 : ((t176.length : Int) != 0) = true := bne_iff_ne.mpr c37
                        have c37b2 : ¬ (t176 = []) := fun h_ => c37 (by rw [h_]; rfl)
                        obtain rfl := Option.some.inj H
                        obtain ⟨Ao45, co45, eo45⟩ := Kd.R_slice HO_12.out
                        subst eo45
                        go_wp2
                        go_ret
                        exact ⟨by first | rfl | (simp [errW_none, errW_some] <;> rfl) | (simp [*, errW_none, errW_some] <;> rfl), by repeat (first | (with_reducible first | exact HB.out | apply below_alloc | apply pw_below_drewN | apply below_drew1 | refine below_set ?_ GE161.out) | exact HB.out)⟩
                  · rw [if_neg c30] at H
                    have c30b0 : (t173 == 0) = false := beq_eq_false_iff_ne.mpr c30
                    have c30b1 : (t173 != 0) = true := bne_iff_ne.mpr c30
                    by_cases c46 : (t171.length : Int) = 0
                    · rw [if_pos c46] at H
                      have c46b0 : ((t171.length : Int) == 0) = true := beq_iff_eq.mpr c46
                      have c46b1 : ((t171.length : Int) != 0) = false := bne_eq_false_iff_eq.mpr c46
                      clear c46
                      by_cases c47 : t178 = 0
                      · rw [if_pos c47] at H
                        have c47b0 : (t178 == 0) = true := beq_iff_eq.mpr c47
                        have c47b1 : (t178 != 0) = false := bne_eq_false_iff_eq.mpr c47
                        clear c47
                        replace H := Option.bind_eq_some_iff.mp H
                        obtain ⟨t183, A480, H⟩ := H
                        replace H : (some t183) = some r := H
                        have A48 := Aside0.mk A480
                        clear A480
                        obtain rfl := Option.some.inj H
                        obtain ⟨Ao49, co49, eo49⟩ := Kd.R_slice HO_9.out
                        subst eo49
                        go_wp2_with (first | (go_at_call 8; (with_reducible refine (colophonlaw28_wakes.calls kj15  t183 _ ?side1 A48.out).mono ?_); (case side1 => exact Lw.below hLW (by repeat (first | (with_reducible first | exact HB.out | apply below_alloc | apply pw_below_drewN | apply below_drew1 | refine below_set ?_ GE161.out) | exact HB.out))); rintro e w50 ⟨rfl, hb⟩; have n0_ := Aside0.mk (Kd.R_below (by (with_reducible repeat (first | apply Kd.R_alloc | apply Kd.R_drewN | apply Kd.R_drew)); exact HO_6.out) hb); have n1_ := Aside0.mk (Kd.R_below (by (with_reducible repeat (first | apply Kd.R_alloc | apply Kd.R_drewN | apply Kd.R_drew)); exact HO_9.out) hb); have n2_ := Aside0.mk (Kd.R_below (by (with_reducible repeat (first | apply Kd.R_alloc | apply Kd.R_drewN | apply Kd.R_drew)); exact HO_12.out) hb); have n3_ := Aside0.mk (blk_below (g := gb161) (o := .cells #[.string a0_0, .int .i64 a0_1, .int .i64 a0_2, .slice A0_3 l0_3.length c0_3] 24 (0, 0)) (by (with_reducible repeat (first | refine blk_drewN ?_ _ | refine blk_drew ?_ | refine blk_alloc ?_ _)); exact BK161.out) hb); have n4_ := Aside0.mk (below_step (by repeat (first | (with_reducible first | exact HB.out | apply below_alloc | apply pw_below_drewN | apply below_drew1 | refine below_set ?_ GE161.out) | exact HB.out)) hb); clear HO_6; clear HO_9; clear HO_12; clear BK161; clear HB; have HO_6 := n0_; have HO_9 := n1_; have HO_12 := n2_; have BK161 := n3_; have HB := n4_; clear n0_ n1_ n2_ n3_ n4_; (try clear hb); (try clear hb2); (try clear hk); (try clear hi)))
                        go_ret
                        exact ⟨by first | rfl | (simp [errW_none, errW_some] <;> rfl) | (simp [*, errW_none, errW_some] <;> rfl), by repeat (first | (with_reducible first | exact HB.out | apply below_alloc | apply pw_below_drewN | apply below_drew1 | refine below_set ?_ GE161.out) | exact HB.out)⟩
                      · rw [if_neg c47] at H
                        have c47b0 : (t178 == 0) = false := beq_eq_false_iff_ne.mpr c47
                        have c47b1 : (t178 != 0) = true := bne_iff_ne.mpr c47
                        by_cases c51 : (t176.length : Int) = 0
                        · rw [if_pos c51] at H
                          have c51b0 : ((t176.length : Int) == 0) = true := beq_iff_eq.mpr c51
                          have c51b1 : ((t176.length : Int) != 0) = false := bne_eq_false_iff_eq.mpr c51
                          clear c51
                          replace H := Option.bind_eq_some_iff.mp H
                          obtain ⟨t184, A520, H⟩ := H
                          replace H : (some t184) = some r := H
                          have A52 := Aside0.mk A520
                          clear A520
                          obtain rfl := Option.some.inj H
                          obtain ⟨Ao53, co53, eo53⟩ := Kd.R_slice HO_9.out
                          subst eo53
                          obtain ⟨Ao54, co54, eo54⟩ := Kd.R_slice HO_12.out
                          subst eo54
                          go_wp2_with (first | (go_at_call 8; (with_reducible refine (colophonlaw28_wakes.calls kj15  t184 _ ?side1 A52.out).mono ?_); (case side1 => exact Lw.below hLW (by repeat (first | (with_reducible first | exact HB.out | apply below_alloc | apply pw_below_drewN | apply below_drew1 | refine below_set ?_ GE161.out) | exact HB.out))); rintro e w55 ⟨rfl, hb⟩; have n0_ := Aside0.mk (Kd.R_below (by (with_reducible repeat (first | apply Kd.R_alloc | apply Kd.R_drewN | apply Kd.R_drew)); exact HO_6.out) hb); have n1_ := Aside0.mk (Kd.R_below (by (with_reducible repeat (first | apply Kd.R_alloc | apply Kd.R_drewN | apply Kd.R_drew)); exact HO_9.out) hb); have n2_ := Aside0.mk (Kd.R_below (by (with_reducible repeat (first | apply Kd.R_alloc | apply Kd.R_drewN | apply Kd.R_drew)); exact HO_12.out) hb); have n3_ := Aside0.mk (blk_below (g := gb161) (o := .cells #[.string a0_0, .int .i64 a0_1, .int .i64 a0_2, .slice A0_3 l0_3.length c0_3] 24 (0, 0)) (by (with_reducible repeat (first | refine blk_drewN ?_ _ | refine blk_drew ?_ | refine blk_alloc ?_ _)); exact BK161.out) hb); have n4_ := Aside0.mk (below_step (by repeat (first | (with_reducible first | exact HB.out | apply below_alloc | apply pw_below_drewN | apply below_drew1 | refine below_set ?_ GE161.out) | exact HB.out)) hb); clear HO_6; clear HO_9; clear HO_12; clear BK161; clear HB; have HO_6 := n0_; have HO_9 := n1_; have HO_12 := n2_; have BK161 := n3_; have HB := n4_; clear n0_ n1_ n2_ n3_ n4_; (try clear hb); (try clear hb2); (try clear hk); (try clear hi)))
                          go_ret
                          exact ⟨by first | rfl | (simp [errW_none, errW_some] <;> rfl) | (simp [*, errW_none, errW_some] <;> rfl), by repeat (first | (with_reducible first | exact HB.out | apply below_alloc | apply pw_below_drewN | apply below_drew1 | refine below_set ?_ GE161.out) | exact HB.out)⟩
                        · rw [if_neg c51] at H
                          have c51b0 : ((t176.length : Int) == 0) = false := beq_eq_false_iff_ne.mpr c51
                          have c51b1 : ((t176.length : Int) != 0) = true := bne_iff_ne.mpr c51
                          have c51b2 : ¬ (t176 = []) := fun h_ => c51 (by rw [h_]; rfl)
                          obtain rfl := Option.some.inj H
                          obtain ⟨Ao56, co56, eo56⟩ := Kd.R_slice HO_9.out
                          subst eo56
                          obtain ⟨Ao57, co57, eo57⟩ := Kd.R_slice HO_12.out
                          subst eo57
                          go_wp2
                          go_ret
                          exact ⟨by first | rfl | (simp [errW_none, errW_some] <;> rfl) | (simp [*, errW_none, errW_some] <;> rfl), by repeat (first | (with_reducible first | exact HB.out | apply below_alloc | apply pw_below_drewN | apply below_drew1 | refine below_set ?_ GE161.out) | exact HB.out)⟩
                    · rw [if_neg c46] at H
                      have c46b0 : ((t171.length : Int) == 0) = false := beq_eq_false_iff_ne.mpr c46
                      have c46b1 : ((t171.length : Int) != 0) = true := bne_iff_ne.mpr c46
                      have c46b2 : ¬ (t171 = []) := fun h_ => c46 (by rw [h_]; rfl)
                      obtain rfl := Option.some.inj H
                      obtain ⟨Ao58, co58, eo58⟩ := Kd.R_slice HO_9.out
                      subst eo58
                      go_wp2
                      go_ret
                      exact ⟨by first | rfl | (simp [errW_none, errW_some] <;> rfl) | (simp [*, errW_none, errW_some] <;> rfl), by repeat (first | (with_reducible first | exact HB.out | apply below_alloc | apply pw_below_drewN | apply below_drew1 | refine below_set ?_ GE161.out) | exact HB.out)⟩
                · rw [if_neg c29] at H
                  have c29b0 : (t168 == 0) = false := beq_eq_false_iff_ne.mpr c29
                  have c29b1 : (t168 != 0) = true := bne_iff_ne.mpr c29
                  by_cases c59 : (t166.length : Int) = 0
                  · rw [if_pos c59] at H
                    have c59b0 : ((t166.length : Int) == 0) = true := beq_iff_eq.mpr c59
                    have c59b1 : ((t166.length : Int) != 0) = false := bne_eq_false_iff_eq.mpr c59
                    clear c59
                    by_cases c60 : t173 = 0
                    · rw [if_pos c60] at H
                      have c60b0 : (t173 == 0) = true := beq_iff_eq.mpr c60
                      have c60b1 : (t173 != 0) = false := bne_eq_false_iff_eq.mpr c60
                      clear c60
                      by_cases c61 : t178 = 0
                      · rw [if_pos c61] at H
                        have c61b0 : (t178 == 0) = true := beq_iff_eq.mpr c61
                        have c61b1 : (t178 != 0) = false := bne_eq_false_iff_eq.mpr c61
                        clear c61
                        replace H := Option.bind_eq_some_iff.mp H
                        obtain ⟨t185, A620, H⟩ := H
                        replace H : (some t185) = some r := H
                        have A62 := Aside0.mk A620
                        clear A620
                        obtain rfl := Option.some.inj H
                        obtain ⟨Ao63, co63, eo63⟩ := Kd.R_slice HO_6.out
                        subst eo63
                        go_wp2_with (first | (go_at_call 8; (with_reducible refine (colophonlaw28_wakes.calls kj15  t185 _ ?side1 A62.out).mono ?_); (case side1 => exact Lw.below hLW (by repeat (first | (with_reducible first | exact HB.out | apply below_alloc | apply pw_below_drewN | apply below_drew1 | refine below_set ?_ GE161.out) | exact HB.out))); rintro e w64 ⟨rfl, hb⟩; have n0_ := Aside0.mk (Kd.R_below (by (with_reducible repeat (first | apply Kd.R_alloc | apply Kd.R_drewN | apply Kd.R_drew)); exact HO_6.out) hb); have n1_ := Aside0.mk (Kd.R_below (by (with_reducible repeat (first | apply Kd.R_alloc | apply Kd.R_drewN | apply Kd.R_drew)); exact HO_9.out) hb); have n2_ := Aside0.mk (Kd.R_below (by (with_reducible repeat (first | apply Kd.R_alloc | apply Kd.R_drewN | apply Kd.R_drew)); exact HO_12.out) hb); have n3_ := Aside0.mk (blk_below (g := gb161) (o := .cells #[.string a0_0, .int .i64 a0_1, .int .i64 a0_2, .slice A0_3 l0_3.length c0_3] 24 (0, 0)) (by (with_reducible repeat (first | refine blk_drewN ?_ _ | refine blk_drew ?_ | refine blk_alloc ?_ _)); exact BK161.out) hb); have n4_ := Aside0.mk (below_step (by repeat (first | (with_reducible first | exact HB.out | apply below_alloc | apply pw_below_drewN | apply below_drew1 | refine below_set ?_ GE161.out) | exact HB.out)) hb); clear HO_6; clear HO_9; clear HO_12; clear BK161; clear HB; have HO_6 := n0_; have HO_9 := n1_; have HO_12 := n2_; have BK161 := n3_; have HB := n4_; clear n0_ n1_ n2_ n3_ n4_; (try clear hb); (try clear hb2); (try clear hk); (try clear hi)))
                        go_ret
                        exact ⟨by first | rfl | (simp [errW_none, errW_some] <;> rfl) | (simp [*, errW_none, errW_some] <;> rfl), by repeat (first | (with_reducible first | exact HB.out | apply below_alloc | apply pw_below_drewN | apply below_drew1 | refine below_set ?_ GE161.out) | exact HB.out)⟩
                      · rw [if_neg c61] at H
                        have c61b0 : (t178 == 0) = false := beq_eq_false_iff_ne.mpr c61
                        have c61b1 : (t178 != 0) = true := bne_iff_ne.mpr c61
                        by_cases c65 : (t176.length : Int) = 0
                        · rw [if_pos c65] at H
                          have c65b0 : ((t176.length : Int) == 0) = true := beq_iff_eq.mpr c65
                          have c65b1 : ((t176.length : Int) != 0) = false := bne_eq_false_iff_eq.mpr c65
                          clear c65
                          replace H := Option.bind_eq_some_iff.mp H
                          obtain ⟨t186, A660, H⟩ := H
                          replace H : (some t186) = some r := H
                          have A66 := Aside0.mk A660
                          clear A660
                          obtain rfl := Option.some.inj H
                          obtain ⟨Ao67, co67, eo67⟩ := Kd.R_slice HO_6.out
                          subst eo67
                          obtain ⟨Ao68, co68, eo68⟩ := Kd.R_slice HO_12.out
                          subst eo68
                          go_wp2_with (first | (go_at_call 8; (with_reducible refine (colophonlaw28_wakes.calls kj15  t186 _ ?side1 A66.out).mono ?_); (case side1 => exact Lw.below hLW (by repeat (first | (with_reducible first | exact HB.out | apply below_alloc | apply pw_below_drewN | apply below_drew1 | refine below_set ?_ GE161.out) | exact HB.out))); rintro e w69 ⟨rfl, hb⟩; have n0_ := Aside0.mk (Kd.R_below (by (with_reducible repeat (first | apply Kd.R_alloc | apply Kd.R_drewN | apply Kd.R_drew)); exact HO_6.out) hb); have n1_ := Aside0.mk (Kd.R_below (by (with_reducible repeat (first | apply Kd.R_alloc | apply Kd.R_drewN | apply Kd.R_drew)); exact HO_9.out) hb); have n2_ := Aside0.mk (Kd.R_below (by (with_reducible repeat (first | apply Kd.R_alloc | apply Kd.R_drewN | apply Kd.R_drew)); exact HO_12.out) hb); have n3_ := Aside0.mk (blk_below (g := gb161) (o := .cells #[.string a0_0, .int .i64 a0_1, .int .i64 a0_2, .slice A0_3 l0_3.length c0_3] 24 (0, 0)) (by (with_reducible repeat (first | refine blk_drewN ?_ _ | refine blk_drew ?_ | refine blk_alloc ?_ _)); exact BK161.out) hb); have n4_ := Aside0.mk (below_step (by repeat (first | (with_reducible first | exact HB.out | apply below_alloc | apply pw_below_drewN | apply below_drew1 | refine below_set ?_ GE161.out) | exact HB.out)) hb); clear HO_6; clear HO_9; clear HO_12; clear BK161; clear HB; have HO_6 := n0_; have HO_9 := n1_; have HO_12 := n2_; have BK161 := n3_; have HB := n4_; clear n0_ n1_ n2_ n3_ n4_; (try clear hb); (try clear hb2); (try clear hk); (try clear hi)))
                          go_ret
                          exact ⟨by first | rfl | (simp [errW_none, errW_some] <;> rfl) | (simp [*, errW_none, errW_some] <;> rfl), by repeat (first | (with_reducible first | exact HB.out | apply below_alloc | apply pw_below_drewN | apply below_drew1 | refine below_set ?_ GE161.out) | exact HB.out)⟩
                        · rw [if_neg c65] at H
                          have c65b0 : ((t176.length : Int) == 0) = false := beq_eq_false_iff_ne.mpr c65
                          have c65b1 : ((t176.length : Int) != 0) = true := bne_iff_ne.mpr c65
                          have c65b2 : ¬ (t176 = []) := fun h_ => c65 (by rw [h_]; rfl)
                          obtain rfl := Option.some.inj H
                          obtain ⟨Ao70, co70, eo70⟩ := Kd.R_slice HO_6.out
                          subst eo70
                          obtain ⟨Ao71, co71, eo71⟩ := Kd.R_slice HO_12.out
                          subst eo71
                          go_wp2
                          go_ret
                          exact ⟨by first | rfl | (simp [errW_none, errW_some] <;> rfl) | (simp [*, errW_none, errW_some] <;> rfl), by repeat (first | (with_reducible first | exact HB.out | apply below_alloc | apply pw_below_drewN | apply below_drew1 | refine below_set ?_ GE161.out) | exact HB.out)⟩
                    · rw [if_neg c60] at H
                      have c60b0 : (t173 == 0) = false := beq_eq_false_iff_ne.mpr c60
                      have c60b1 : (t173 != 0) = true := bne_iff_ne.mpr c60
                      by_cases c72 : (t171.length : Int) = 0
                      · rw [if_pos c72] at H
                        have c72b0 : ((t171.length : Int) == 0) = true := beq_iff_eq.mpr c72
                        have c72b1 : ((t171.length : Int) != 0) = false := bne_eq_false_iff_eq.mpr c72
                        clear c72
                        by_cases c73 : t178 = 0
                        · rw [if_pos c73] at H
                          have c73b0 : (t178 == 0) = true := beq_iff_eq.mpr c73
                          have c73b1 : (t178 != 0) = false := bne_eq_false_iff_eq.mpr c73
                          clear c73
                          replace H := Option.bind_eq_some_iff.mp H
                          obtain ⟨t187, A740, H⟩ := H
                          replace H : (some t187) = some r := H
                          have A74 := Aside0.mk A740
                          clear A740
                          obtain rfl := Option.some.inj H
                          obtain ⟨Ao75, co75, eo75⟩ := Kd.R_slice HO_6.out
                          subst eo75
                          obtain ⟨Ao76, co76, eo76⟩ := Kd.R_slice HO_9.out
                          subst eo76
                          go_wp2_with (first | (go_at_call 8; (with_reducible refine (colophonlaw28_wakes.calls kj15  t187 _ ?side1 A74.out).mono ?_); (case side1 => exact Lw.below hLW (by repeat (first | (with_reducible first | exact HB.out | apply below_alloc | apply pw_below_drewN | apply below_drew1 | refine below_set ?_ GE161.out) | exact HB.out))); rintro e w77 ⟨rfl, hb⟩; have n0_ := Aside0.mk (Kd.R_below (by (with_reducible repeat (first | apply Kd.R_alloc | apply Kd.R_drewN | apply Kd.R_drew)); exact HO_6.out) hb); have n1_ := Aside0.mk (Kd.R_below (by (with_reducible repeat (first | apply Kd.R_alloc | apply Kd.R_drewN | apply Kd.R_drew)); exact HO_9.out) hb); have n2_ := Aside0.mk (Kd.R_below (by (with_reducible repeat (first | apply Kd.R_alloc | apply Kd.R_drewN | apply Kd.R_drew)); exact HO_12.out) hb); have n3_ := Aside0.mk (blk_below (g := gb161) (o := .cells #[.string a0_0, .int .i64 a0_1, .int .i64 a0_2, .slice A0_3 l0_3.length c0_3] 24 (0, 0)) (by (with_reducible repeat (first | refine blk_drewN ?_ _ | refine blk_drew ?_ | refine blk_alloc ?_ _)); exact BK161.out) hb); have n4_ := Aside0.mk (below_step (by repeat (first | (with_reducible first | exact HB.out | apply below_alloc | apply pw_below_drewN | apply below_drew1 | refine below_set ?_ GE161.out) | exact HB.out)) hb); clear HO_6; clear HO_9; clear HO_12; clear BK161; clear HB; have HO_6 := n0_; have HO_9 := n1_; have HO_12 := n2_; have BK161 := n3_; have HB := n4_; clear n0_ n1_ n2_ n3_ n4_; (try clear hb); (try clear hb2); (try clear hk); (try clear hi)))
                          go_ret
                          exact ⟨by first | rfl | (simp [errW_none, errW_some] <;> rfl) | (simp [*, errW_none, errW_some] <;> rfl), by repeat (first | (with_reducible first | exact HB.out | apply below_alloc | apply pw_below_drewN | apply below_drew1 | refine below_set ?_ GE161.out) | exact HB.out)⟩
                        · rw [if_neg c73] at H
                          have c73b0 : (t178 == 0) = false := beq_eq_false_iff_ne.mpr c73
                          have c73b1 : (t178 != 0) = true := bne_iff_ne.mpr c73
                          by_cases c78 : (t176.length : Int) = 0
                          · rw [if_pos c78] at H
                            have c78b0 : ((t176.length : Int) == 0) = true := beq_iff_eq.mpr c78
                            have c78b1 : ((t176.length : Int) != 0) = false := bne_eq_false_iff_eq.mpr c78
                            clear c78
                            replace H := Option.bind_eq_some_iff.mp H
                            obtain ⟨t188, A790, H⟩ := H
                            replace H : (some t188) = some r := H
                            have A79 := Aside0.mk A790
                            clear A790
                            obtain rfl := Option.some.inj H
                            obtain ⟨Ao80, co80, eo80⟩ := Kd.R_slice HO_6.out
                            subst eo80
                            obtain ⟨Ao81, co81, eo81⟩ := Kd.R_slice HO_9.out
                            subst eo81
                            obtain ⟨Ao82, co82, eo82⟩ := Kd.R_slice HO_12.out
                            subst eo82
                            go_wp2_with (first | (go_at_call 8; (with_reducible refine (colophonlaw28_wakes.calls kj15  t188 _ ?side1 A79.out).mono ?_); (case side1 => exact Lw.below hLW (by repeat (first | (with_reducible first | exact HB.out | apply below_alloc | apply pw_below_drewN | apply below_drew1 | refine below_set ?_ GE161.out) | exact HB.out))); rintro e w83 ⟨rfl, hb⟩; have n0_ := Aside0.mk (Kd.R_below (by (with_reducible repeat (first | apply Kd.R_alloc | apply Kd.R_drewN | apply Kd.R_drew)); exact HO_6.out) hb); have n1_ := Aside0.mk (Kd.R_below (by (with_reducible repeat (first | apply Kd.R_alloc | apply Kd.R_drewN | apply Kd.R_drew)); exact HO_9.out) hb); have n2_ := Aside0.mk (Kd.R_below (by (with_reducible repeat (first | apply Kd.R_alloc | apply Kd.R_drewN | apply Kd.R_drew)); exact HO_12.out) hb); have n3_ := Aside0.mk (blk_below (g := gb161) (o := .cells #[.string a0_0, .int .i64 a0_1, .int .i64 a0_2, .slice A0_3 l0_3.length c0_3] 24 (0, 0)) (by (with_reducible repeat (first | refine blk_drewN ?_ _ | refine blk_drew ?_ | refine blk_alloc ?_ _)); exact BK161.out) hb); have n4_ := Aside0.mk (below_step (by repeat (first | (with_reducible first | exact HB.out | apply below_alloc | apply pw_below_drewN | apply below_drew1 | refine below_set ?_ GE161.out) | exact HB.out)) hb); clear HO_6; clear HO_9; clear HO_12; clear BK161; clear HB; have HO_6 := n0_; have HO_9 := n1_; have HO_12 := n2_; have BK161 := n3_; have HB := n4_; clear n0_ n1_ n2_ n3_ n4_; (try clear hb); (try clear hb2); (try clear hk); (try clear hi)))
                            go_ret
                            exact ⟨by first | rfl | (simp [errW_none, errW_some] <;> rfl) | (simp [*, errW_none, errW_some] <;> rfl), by repeat (first | (with_reducible first | exact HB.out | apply below_alloc | apply pw_below_drewN | apply below_drew1 | refine below_set ?_ GE161.out) | exact HB.out)⟩
                          · rw [if_neg c78] at H
                            have c78b0 : ((t176.length : Int) == 0) = false := beq_eq_false_iff_ne.mpr c78
                            have c78b1 : ((t176.length : Int) != 0) = true := bne_iff_ne.mpr c78
                            have c78b2 : ¬ (t176 = []) := fun h_ => c78 (by rw [h_]; rfl)
                            obtain rfl := Option.some.inj H
                            obtain ⟨Ao84, co84, eo84⟩ := Kd.R_slice HO_6.out
                            subst eo84
                            obtain ⟨Ao85, co85, eo85⟩ := Kd.R_slice HO_9.out
                            subst eo85
                            obtain ⟨Ao86, co86, eo86⟩ := Kd.R_slice HO_12.out
                            subst eo86
                            go_wp2
                            go_ret
                            exact ⟨by first | rfl | (simp [errW_none, errW_some] <;> rfl) | (simp [*, errW_none, errW_some] <;> rfl), by repeat (first | (with_reducible first | exact HB.out | apply below_alloc | apply pw_below_drewN | apply below_drew1 | refine below_set ?_ GE161.out) | exact HB.out)⟩
                      · rw [if_neg c72] at H
                        have c72b0 : ((t171.length : Int) == 0) = false := beq_eq_false_iff_ne.mpr c72
                        have c72b1 : ((t171.length : Int) != 0) = true := bne_iff_ne.mpr c72
                        have c72b2 : ¬ (t171 = []) := fun h_ => c72 (by rw [h_]; rfl)
                        obtain rfl := Option.some.inj H
                        obtain ⟨Ao87, co87, eo87⟩ := Kd.R_slice HO_6.out
                        subst eo87
                        obtain ⟨Ao88, co88, eo88⟩ := Kd.R_slice HO_9.out
                        subst eo88
                        go_wp2
                        go_ret
                        exact ⟨by first | rfl | (simp [errW_none, errW_some] <;> rfl) | (simp [*, errW_none, errW_some] <;> rfl), by repeat (first | (with_reducible first | exact HB.out | apply below_alloc | apply pw_below_drewN | apply below_drew1 | refine below_set ?_ GE161.out) | exact HB.out)⟩
                  · rw [if_neg c59] at H
                    have c59b0 : ((t166.length : Int) == 0) = false := beq_eq_false_iff_ne.mpr c59
                    have c59b1 : ((t166.length : Int) != 0) = true := bne_iff_ne.mpr c59
                    have c59b2 : ¬ (t166 = []) := fun h_ => c59 (by rw [h_]; rfl)
                    obtain rfl := Option.some.inj H
                    obtain ⟨Ao89, co89, eo89⟩ := Kd.R_slice HO_6.out
                    subst eo89
                    go_wp2
                    go_ret
                    exact ⟨by first | rfl | (simp [errW_none, errW_some] <;> rfl) | (simp [*, errW_none, errW_some] <;> rfl), by repeat (first | (with_reducible first | exact HB.out | apply below_alloc | apply pw_below_drewN | apply below_drew1 | refine below_set ?_ GE161.out) | exact HB.out)⟩
              · replace c28 := Bool.eq_false_iff.mpr c28
                subst c28
                have H1 : ((some (([] : List Int) : List Int)).bind fun y189 => (if y189.length + t166.length < 17592186044416 then ((some (y189 ++ t166 : List Int)).bind fun y192 => (if y192.length + t171.length < 17592186044416 then ((colophonkeep_Same.f kj15 t176 (y192 ++ t171)).bind fun t198 => (if t198 = true then ((colophonlaw28_wakes.f kj15).bind fun t199 => (some t199)) else (some false))) else (none))) else (none))) = some r := by rw [if_neg (show ¬ (false = true) by decide)] at H; exact H
                clear H
                have H := H1
                clear H1
                obtain ⟨y189, hy189⟩ : ∃ y_ : List Int, y_ = (([] : List Int)) := ⟨_, rfl⟩
                replace H : (if y189.length + t166.length < 17592186044416 then ((some (y189 ++ t166 : List Int)).bind fun y192 => (if y192.length + t171.length < 17592186044416 then ((colophonkeep_Same.f kj15 t176 (y192 ++ t171)).bind fun t198 => (if t198 = true then ((colophonlaw28_wakes.f kj15).bind fun t199 => (some t199)) else (some false))) else (none))) else (none)) = some r := by first | (rw [hy189]; with_reducible exact H) | (have H2_ := (Option.bind_some _ _).symm.trans H; rw [hy189]; with_reducible exact H2_) | (have H2_ := (Option.bind_some _ _).symm.trans H; with_reducible exact H2_) | with_reducible exact H | (rw [hy189]; exact H) | exact H
                have Ny189 := Aside0.mk hy189
                clear hy189
                by_cases c90 : y189.length + t166.length < 17592186044416
                · rw [if_pos c90] at H
                  have LMc90 := Aside0.mk c90
                  clear c90
                  obtain ⟨y192, hy192⟩ : ∃ y_ : List Int, y_ = (y189 ++ t166) := ⟨_, rfl⟩
                  replace H : (if y192.length + t171.length < 17592186044416 then ((colophonkeep_Same.f kj15 t176 (y192 ++ t171)).bind fun t198 => (if t198 = true then ((colophonlaw28_wakes.f kj15).bind fun t199 => (some t199)) else (some false))) else (none)) = some r := by first | (rw [hy192]; with_reducible exact H) | (have H2_ := (Option.bind_some _ _).symm.trans H; rw [hy192]; with_reducible exact H2_) | (have H2_ := (Option.bind_some _ _).symm.trans H; with_reducible exact H2_) | with_reducible exact H | (rw [hy192]; exact H) | exact H
                  have Ny192 := Aside0.mk hy192
                  clear hy192
                  by_cases c91 : y192.length + t171.length < 17592186044416
                  · rw [if_pos c91] at H
                    have LMc91 := Aside0.mk c91
                    clear c91
                    obtain ⟨y195, hy195⟩ : ∃ y_ : List Int, y_ = (y192 ++ t171) := ⟨_, rfl⟩
                    replace H : ((colophonkeep_Same.f kj15 t176 y195).bind fun t198 => (if t198 = true then ((colophonlaw28_wakes.f kj15).bind fun t199 => (some t199)) else (some false))) = some r := by first | (rw [hy195]; with_reducible exact H) | (have H2_ := (Option.bind_some _ _).symm.trans H; rw [hy195]; with_reducible exact H2_) | (have H2_ := (Option.bind_some _ _).symm.trans H; with_reducible exact H2_) | with_reducible exact H | (rw [hy195]; exact H) | exact H
                    have Ny195 := Aside0.mk hy195
                    clear hy195
                    replace H := Option.bind_eq_some_iff.mp H
                    obtain ⟨t198, A920, H⟩ := H
                    replace H : (if t198 = true then ((colophonlaw28_wakes.f kj15).bind fun t199 => (some t199)) else (some false)) = some r := H
                    have A92 := Aside0.mk A920
                    clear A920
                    by_cases c93 : t198 = true
                    · subst c93
                      have H1 : ((colophonlaw28_wakes.f kj15).bind fun t199 => (some t199)) = some r := by rw [if_pos rfl] at H; exact H
                      clear H
                      have H := H1
                      clear H1
                      replace H := Option.bind_eq_some_iff.mp H
                      obtain ⟨t199, A940, H⟩ := H
                      replace H : (some t199) = some r := H
                      have A94 := Aside0.mk A940
                      clear A940
                      obtain rfl := Option.some.inj H
                      go_wp2_with (first | ((with_reducible refine gate_dst (N := 121) rfl ?_); (try (refine gate_guard (by rfl) ?_; dsimp only)); refine Kd.R_lit (Kd.int .i64) _ 3 ?hg (N := 121) ?hd (xs := ([] : List Int)) (inner := []) (ok := fun _ => True) (okp := fun _ => True) ?hr ?hp (fun _ hk => hk) trivial (Below.refl _ _) (Nat.le_refl _) (by simp) ?_; (case hd => rfl); (case hg => rfl); (case hr => first | (go_simp; done) | (go_simp; rfl)); (case hp => exact (Reps.none _ _)); intro v190 w95 ho96 hb hg_ hnew_; clear hg_ hnew_; (first | rw [← Ny189.out] at ho96 | (simp only [Int.reduceToNat] at ho96; rw [← Ny189.out] at ho96)); have n0_ := Aside0.mk (Kd.R_elder' (by (with_reducible repeat (first | apply Kd.R_alloc | apply Kd.R_drewN | apply Kd.R_drew)); exact HO_6.out) (Kd.R_base ho96) hb); have n1_ := Aside0.mk (Kd.R_elder' (by (with_reducible repeat (first | apply Kd.R_alloc | apply Kd.R_drewN | apply Kd.R_drew)); exact HO_9.out) (Kd.R_base ho96) hb); have n2_ := Aside0.mk (Kd.R_elder' (by (with_reducible repeat (first | apply Kd.R_alloc | apply Kd.R_drewN | apply Kd.R_drew)); exact HO_12.out) (Kd.R_base ho96) hb); have n3_ := Aside0.mk (Kd.R_lower (Kd.R_new' (Kd.R_new' (Kd.R_new' ho96 (Kd.R_lt (by (with_reducible repeat (first | apply Kd.R_alloc | apply Kd.R_drewN | apply Kd.R_drew)); exact HO_6.out))) (Kd.R_lt (by (with_reducible repeat (first | apply Kd.R_alloc | apply Kd.R_drewN | apply Kd.R_drew)); exact HO_9.out))) (Kd.R_lt (by (with_reducible repeat (first | apply Kd.R_alloc | apply Kd.R_drewN | apply Kd.R_drew)); exact HO_12.out))) (below_size (by repeat (first | (with_reducible first | exact HB.out | apply below_alloc | apply pw_below_drewN | apply below_drew1 | refine below_set ?_ GE161.out) | exact HB.out)))); have n4_ := Aside0.mk (blk_below (g := gb161) (o := .cells #[.string a0_0, .int .i64 a0_1, .int .i64 a0_2, .slice A0_3 l0_3.length c0_3] 24 (0, 0)) (by (with_reducible repeat (first | refine blk_drewN ?_ _ | refine blk_drew ?_ | refine blk_alloc ?_ _)); exact BK161.out) hb); have n5_ := Aside0.mk (below_step (by repeat (first | (with_reducible first | exact HB.out | apply below_alloc | apply pw_below_drewN | apply below_drew1 | refine below_set ?_ GE161.out) | exact HB.out)) hb); clear HO_6; clear HO_9; clear HO_12; clear BK161; clear HB; have HO_6 := n0_; have HO_9 := n1_; have HO_12 := n2_; have HO191 := n3_; have BK161 := n4_; have HB := n5_; clear n0_ n1_ n2_ n3_ n4_ n5_; clear hb ho96; obtain ⟨Ao98, co98, eo98⟩ := Kd.R_slice HO_6.out; subst eo98) | ((with_reducible refine gate_builtin (b := .append) (xs := #[.tmp 121, .tmp 122]) rfl ?_); (try (refine gate_guard (by rfl) ?_; dsimp only)); at_builtin; refine Kd.R_append_rows (Kd.int .i64) (w0 := w) w.heap.size rfl (.tmp 121) (.tmp 122) 22 3 (.int .i64 0) 8 rfl Tryd.underlying22 info3 rfl (by decide) (by omega) v190 y189 t166 _ _ _ (fun k_ => some k_ ≠ (.slice Ao98 t166.length co98 : Value).ownBlock ∧ some k_ ≠ (v174 : Value).ownBlock ∧ some k_ ≠ (v179 : Value).ownBlock) (fun _ => False) rfl rfl ?aO ?aR (fun _ _ h => h) (fun _ h => h.elim) ?aF ?aB ?aS ?aL ?_; (case aR => repeat (first | exact (Kd.R_reads' HO_6.out).2.2 | (with_reducible refine Kd.C_alloc ?_ _) | (with_reducible refine Kd.C_drewN ?_ _) | (with_reducible refine Kd.C_drew ?_))); (case aB => exact (by repeat (first | (with_reducible first | exact HB.out | apply below_alloc | apply pw_below_drewN | apply below_drew1 | refine below_set ?_ GE161.out) | exact HB.out))); (case aF => exact (fun k_ hk => ⟨Kd.fresh' (Kd.R_lt (by (with_reducible repeat (first | apply Kd.R_alloc | apply Kd.R_drewN | apply Kd.R_drew)); exact HO_6.out)) k_ hk, Kd.fresh' (Kd.R_lt (by (with_reducible repeat (first | apply Kd.R_alloc | apply Kd.R_drewN | apply Kd.R_drew)); exact HO_9.out)) k_ hk, Kd.fresh' (Kd.R_lt (by (with_reducible repeat (first | apply Kd.R_alloc | apply Kd.R_drewN | apply Kd.R_drew)); exact HO_12.out)) k_ hk⟩)); (case aO => exact (by (with_reducible repeat (first | apply Kd.R_alloc | apply Kd.R_drewN | apply Kd.R_drew)); exact Kd.R_mono HO191.out (fun _ hk => ⟨hk.1.1.2, ⟨hk.1.2, hk.2⟩⟩))); (case aS => exact (below_size (by repeat (first | (with_reducible first | exact HB.out | apply below_alloc | apply pw_below_drewN | apply below_drew1 | refine below_set ?_ GE161.out) | exact HB.out)))); (case aL => have := LMc90.out; omega); intro v193 w97 ho hb hg hat; rw [← Ny192.out] at ho; have n0_ := Aside0.mk (Kd.R_after (ok := (fun k_ => some k_ ≠ (v174 : Value).ownBlock ∧ some k_ ≠ (v179 : Value).ownBlock)) (by (with_reducible repeat (first | apply Kd.R_alloc | apply Kd.R_drewN | apply Kd.R_drew)); exact HO_6.out) hg hat); have n1_ := Aside0.mk (Kd.R_after (ok := (fun k_ => some k_ ≠ (.slice Ao98 t166.length co98 : Value).ownBlock ∧ some k_ ≠ (v179 : Value).ownBlock)) (by (with_reducible repeat (first | apply Kd.R_alloc | apply Kd.R_drewN | apply Kd.R_drew)); exact HO_9.out) hg hat); have n2_ := Aside0.mk (Kd.R_after (ok := (fun k_ => some k_ ≠ (.slice Ao98 t166.length co98 : Value).ownBlock ∧ some k_ ≠ (v174 : Value).ownBlock)) (by (with_reducible repeat (first | apply Kd.R_alloc | apply Kd.R_drewN | apply Kd.R_drew)); exact HO_12.out) hg hat); have n3_ := Aside0.mk (blk_grown (g := gb161) (o := .cells #[.string a0_0, .int .i64 a0_1, .int .i64 a0_2, .slice A0_3 l0_3.length c0_3] 24 (0, 0)) (by (with_reducible repeat (first | refine blk_drewN ?_ _ | refine blk_drew ?_ | refine blk_alloc ?_ _)); exact BK161.out) hg (Kd.R_ne HO191.out BK161.out (by decide))); have n4_ := Aside0.mk (hb); have n5_ := Aside0.mk (ho); clear HO_6; clear HO_9; clear HO_12; clear BK161; clear HB; clear HO191; have HO_6 := n0_; have HO_9 := n1_; have HO_12 := n2_; have BK161 := n3_; have HB := n4_; have HO194 := n5_; clear n0_ n1_ n2_ n3_ n4_ n5_; clear ho hb hg hat; obtain ⟨Ao100, co100, eo100⟩ := Kd.R_slice HO_9.out; subst eo100) | ((with_reducible refine gate_builtin (b := .append) (xs := #[.tmp 123, .tmp 124]) rfl ?_); (try (refine gate_guard (by rfl) ?_; dsimp only)); at_builtin; refine Kd.R_append_rows (Kd.int .i64) (w0 := w) w.heap.size rfl (.tmp 123) (.tmp 124) 22 3 (.int .i64 0) 8 rfl Tryd.underlying22 info3 rfl (by decide) (by omega) v193 y192 t171 _ _ _ (fun k_ => some k_ ≠ (.slice Ao98 t166.length co98 : Value).ownBlock ∧ some k_ ≠ (.slice Ao100 t171.length co100 : Value).ownBlock ∧ some k_ ≠ (v179 : Value).ownBlock) (fun _ => False) rfl rfl ?aO ?aR (fun _ _ h => h) (fun _ h => h.elim) ?aF ?aB ?aS ?aL ?_; (case aR => repeat (first | exact (Kd.R_reads' HO_9.out).2.2 | (with_reducible refine Kd.C_alloc ?_ _) | (with_reducible refine Kd.C_drewN ?_ _) | (with_reducible refine Kd.C_drew ?_))); (case aB => exact (by repeat (first | (with_reducible first | exact HB.out | apply below_alloc | apply pw_below_drewN | apply below_drew1 | refine below_set ?_ GE161.out) | exact HB.out))); (case aF => exact (fun k_ hk => ⟨Kd.fresh' (Kd.R_lt (by (with_reducible repeat (first | apply Kd.R_alloc | apply Kd.R_drewN | apply Kd.R_drew)); exact HO_6.out)) k_ hk, Kd.fresh' (Kd.R_lt (by (with_reducible repeat (first | apply Kd.R_alloc | apply Kd.R_drewN | apply Kd.R_drew)); exact HO_9.out)) k_ hk, Kd.fresh' (Kd.R_lt (by (with_reducible repeat (first | apply Kd.R_alloc | apply Kd.R_drewN | apply Kd.R_drew)); exact HO_12.out)) k_ hk⟩)); (case aO => exact (by (with_reducible repeat (first | apply Kd.R_alloc | apply Kd.R_drewN | apply Kd.R_drew)); exact HO194.out)); (case aS => exact (below_size (by repeat (first | (with_reducible first | exact HB.out | apply below_alloc | apply pw_below_drewN | apply below_drew1 | refine below_set ?_ GE161.out) | exact HB.out)))); (case aL => have := LMc91.out; omega); intro v196 w99 ho hb hg hat; rw [← Ny195.out] at ho; have n0_ := Aside0.mk (Kd.R_after (ok := (fun k_ => some k_ ≠ (.slice Ao100 t171.length co100 : Value).ownBlock ∧ some k_ ≠ (v179 : Value).ownBlock)) (by (with_reducible repeat (first | apply Kd.R_alloc | apply Kd.R_drewN | apply Kd.R_drew)); exact HO_6.out) hg hat); have n1_ := Aside0.mk (Kd.R_after (ok := (fun k_ => some k_ ≠ (.slice Ao98 t166.length co98 : Value).ownBlock ∧ some k_ ≠ (v179 : Value).ownBlock)) (by (with_reducible repeat (first | apply Kd.R_alloc | apply Kd.R_drewN | apply Kd.R_drew)); exact HO_9.out) hg hat); have n2_ := Aside0.mk (Kd.R_after (ok := (fun k_ => some k_ ≠ (.slice Ao98 t166.length co98 : Value).ownBlock ∧ some k_ ≠ (.slice Ao100 t171.length co100 : Value).ownBlock)) (by (with_reducible repeat (first | apply Kd.R_alloc | apply Kd.R_drewN | apply Kd.R_drew)); exact HO_12.out) hg hat); have n3_ := Aside0.mk (blk_grown (g := gb161) (o := .cells #[.string a0_0, .int .i64 a0_1, .int .i64 a0_2, .slice A0_3 l0_3.length c0_3] 24 (0, 0)) (by (with_reducible repeat (first | refine blk_drewN ?_ _ | refine blk_drew ?_ | refine blk_alloc ?_ _)); exact BK161.out) hg (Kd.R_ne HO194.out BK161.out (by decide))); have n4_ := Aside0.mk (hb); have n5_ := Aside0.mk (ho); clear HO_6; clear HO_9; clear HO_12; clear BK161; clear HB; clear HO194; have HO_6 := n0_; have HO_9 := n1_; have HO_12 := n2_; have BK161 := n3_; have HB := n4_; have HO197 := n5_; clear n0_ n1_ n2_ n3_ n4_ n5_; clear ho hb hg hat; obtain ⟨Ao101, co101, eo101⟩ := Kd.R_slice HO_12.out; subst eo101; obtain ⟨Ao102, co102, eo102⟩ := Kd.R_slice HO197.out; subst eo102) | ((with_reducible refine gate_callee (f := 14) rfl ?_); refine goesL_ (some 126) rfl rfl Tryd.func14 (by kernel_rfl) rfl #[.slice Ao101 t176.length co101, .slice Ao102 y195.length co102] rfl (by (try simp only [List.map_toArray, List.map_cons, List.map_nil]); first | done | rfl | (simp only [List.length_drop, List.length_take]; rfl)) ?_; (with_reducible refine (colophonkeep_Same.calls kj15 _ _ t176 _ _ y195 true _ ?side1 ?side2 ?side3 ?side4 A92.out).mono ?_); (case side1 => repeat (first | exact (Kd.R_reads' HO_12.out).2.2 | (with_reducible refine Kd.C_alloc ?_ _) | (with_reducible refine Kd.C_drewN ?_ _) | (with_reducible refine Kd.C_drew ?_))); (case side2 => exact (Kd.R_reads' HO_12.out).2.1); (case side3 => repeat (first | exact (Kd.R_reads' HO197.out).2.2 | (with_reducible refine Kd.C_alloc ?_ _) | (with_reducible refine Kd.C_drewN ?_ _) | (with_reducible refine Kd.C_drew ?_))); (case side4 => exact (Kd.R_reads' HO197.out).2.1); rintro e w' ⟨rfl, ⟨nd, rfl⟩⟩; refine ⟨_, rfl, ?_⟩) | (go_at_call 8; (with_reducible refine (colophonlaw28_wakes.calls kj15  t199 _ ?side1 A94.out).mono ?_); (case side1 => exact Lw.below hLW (by repeat (first | (with_reducible first | exact HB.out | apply below_alloc | apply pw_below_drewN | apply below_drew1 | refine below_set ?_ GE161.out) | exact HB.out))); rintro e w103 ⟨rfl, hb⟩; have n0_ := Aside0.mk (Kd.R_below (by (with_reducible repeat (first | apply Kd.R_alloc | apply Kd.R_drewN | apply Kd.R_drew)); exact HO_6.out) hb); have n1_ := Aside0.mk (Kd.R_below (by (with_reducible repeat (first | apply Kd.R_alloc | apply Kd.R_drewN | apply Kd.R_drew)); exact HO_9.out) hb); have n2_ := Aside0.mk (Kd.R_below (by (with_reducible repeat (first | apply Kd.R_alloc | apply Kd.R_drewN | apply Kd.R_drew)); exact HO_12.out) hb); have n3_ := Aside0.mk (Kd.R_below (by (with_reducible repeat (first | apply Kd.R_alloc | apply Kd.R_drewN | apply Kd.R_drew)); exact HO197.out) hb); have n4_ := Aside0.mk (blk_below (g := gb161) (o := .cells #[.string a0_0, .int .i64 a0_1, .int .i64 a0_2, .slice A0_3 l0_3.length c0_3] 24 (0, 0)) (by (with_reducible repeat (first | refine blk_drewN ?_ _ | refine blk_drew ?_ | refine blk_alloc ?_ _)); exact BK161.out) hb); have n5_ := Aside0.mk (below_step (by repeat (first | (with_reducible first | exact HB.out | apply below_alloc | apply pw_below_drewN | apply below_drew1 | refine below_set ?_ GE161.out) | exact HB.out)) hb); clear HO_6; clear HO_9; clear HO_12; clear HO197; clear BK161; clear HB; have HO_6 := n0_; have HO_9 := n1_; have HO_12 := n2_; have HO197 := n3_; have BK161 := n4_; have HB := n5_; clear n0_ n1_ n2_ n3_ n4_ n5_; (try clear hb); (try clear hb2); (try clear hk); (try clear hi)))
                      go_ret
                      exact ⟨by first | rfl | (simp [errW_none, errW_some] <;> rfl) | (simp [*, errW_none, errW_some] <;> rfl), by repeat (first | (with_reducible first | exact HB.out | apply below_alloc | apply pw_below_drewN | apply below_drew1 | refine below_set ?_ GE161.out) | exact HB.out)⟩
                    · replace c93 := Bool.eq_false_iff.mpr c93
                      subst c93
                      have H1 : (some false) = some r := by rw [if_neg (show ¬ (false = true) by decide)] at H; exact H
                      clear H
                      have H := H1
                      clear H1
                      obtain rfl := Option.some.inj H
                      go_wp2_with (first | ((with_reducible refine gate_dst (N := 121) rfl ?_); (try (refine gate_guard (by rfl) ?_; dsimp only)); refine Kd.R_lit (Kd.int .i64) _ 3 ?hg (N := 121) ?hd (xs := ([] : List Int)) (inner := []) (ok := fun _ => True) (okp := fun _ => True) ?hr ?hp (fun _ hk => hk) trivial (Below.refl _ _) (Nat.le_refl _) (by simp) ?_; (case hd => rfl); (case hg => rfl); (case hr => first | (go_simp; done) | (go_simp; rfl)); (case hp => exact (Reps.none _ _)); intro v190 w104 ho105 hb hg_ hnew_; clear hg_ hnew_; (first | rw [← Ny189.out] at ho105 | (simp only [Int.reduceToNat] at ho105; rw [← Ny189.out] at ho105)); have n0_ := Aside0.mk (Kd.R_elder' (by (with_reducible repeat (first | apply Kd.R_alloc | apply Kd.R_drewN | apply Kd.R_drew)); exact HO_6.out) (Kd.R_base ho105) hb); have n1_ := Aside0.mk (Kd.R_elder' (by (with_reducible repeat (first | apply Kd.R_alloc | apply Kd.R_drewN | apply Kd.R_drew)); exact HO_9.out) (Kd.R_base ho105) hb); have n2_ := Aside0.mk (Kd.R_elder' (by (with_reducible repeat (first | apply Kd.R_alloc | apply Kd.R_drewN | apply Kd.R_drew)); exact HO_12.out) (Kd.R_base ho105) hb); have n3_ := Aside0.mk (Kd.R_lower (Kd.R_new' (Kd.R_new' (Kd.R_new' ho105 (Kd.R_lt (by (with_reducible repeat (first | apply Kd.R_alloc | apply Kd.R_drewN | apply Kd.R_drew)); exact HO_6.out))) (Kd.R_lt (by (with_reducible repeat (first | apply Kd.R_alloc | apply Kd.R_drewN | apply Kd.R_drew)); exact HO_9.out))) (Kd.R_lt (by (with_reducible repeat (first | apply Kd.R_alloc | apply Kd.R_drewN | apply Kd.R_drew)); exact HO_12.out))) (below_size (by repeat (first | (with_reducible first | exact HB.out | apply below_alloc | apply pw_below_drewN | apply below_drew1 | refine below_set ?_ GE161.out) | exact HB.out)))); have n4_ := Aside0.mk (blk_below (g := gb161) (o := .cells #[.string a0_0, .int .i64 a0_1, .int .i64 a0_2, .slice A0_3 l0_3.length c0_3] 24 (0, 0)) (by (with_reducible repeat (first | refine blk_drewN ?_ _ | refine blk_drew ?_ | refine blk_alloc ?_ _)); exact BK161.out) hb); have n5_ := Aside0.mk (below_step (by repeat (first | (with_reducible first | exact HB.out | apply below_alloc | apply pw_below_drewN | apply below_drew1 | refine below_set ?_ GE161.out) | exact HB.out)) hb); clear HO_6; clear HO_9; clear HO_12; clear BK161; clear HB; have HO_6 := n0_; have HO_9 := n1_; have HO_12 := n2_; have HO191 := n3_; have BK161 := n4_; have HB := n5_; clear n0_ n1_ n2_ n3_ n4_ n5_; clear hb ho105; obtain ⟨Ao107, co107, eo107⟩ := Kd.R_slice HO_6.out; subst eo107) | ((with_reducible refine gate_builtin (b := .append) (xs := #[.tmp 121, .tmp 122]) rfl ?_); (try (refine gate_guard (by rfl) ?_; dsimp only)); at_builtin; refine Kd.R_append_rows (Kd.int .i64) (w0 := w) w.heap.size rfl (.tmp 121) (.tmp 122) 22 3 (.int .i64 0) 8 rfl Tryd.underlying22 info3 rfl (by decide) (by omega) v190 y189 t166 _ _ _ (fun k_ => some k_ ≠ (.slice Ao107 t166.length co107 : Value).ownBlock ∧ some k_ ≠ (v174 : Value).ownBlock ∧ some k_ ≠ (v179 : Value).ownBlock) (fun _ => False) rfl rfl ?aO ?aR (fun _ _ h => h) (fun _ h => h.elim) ?aF ?aB ?aS ?aL ?_; (case aR => repeat (first | exact (Kd.R_reads' HO_6.out).2.2 | (with_reducible refine Kd.C_alloc ?_ _) | (with_reducible refine Kd.C_drewN ?_ _) | (with_reducible refine Kd.C_drew ?_))); (case aB => exact (by repeat (first | (with_reducible first | exact HB.out | apply below_alloc | apply pw_below_drewN | apply below_drew1 | refine below_set ?_ GE161.out) | exact HB.out))); (case aF => exact (fun k_ hk => ⟨Kd.fresh' (Kd.R_lt (by (with_reducible repeat (first | apply Kd.R_alloc | apply Kd.R_drewN | apply Kd.R_drew)); exact HO_6.out)) k_ hk, Kd.fresh' (Kd.R_lt (by (with_reducible repeat (first | apply Kd.R_alloc | apply Kd.R_drewN | apply Kd.R_drew)); exact HO_9.out)) k_ hk, Kd.fresh' (Kd.R_lt (by (with_reducible repeat (first | apply Kd.R_alloc | apply Kd.R_drewN | apply Kd.R_drew)); exact HO_12.out)) k_ hk⟩)); (case aO => exact (by (with_reducible repeat (first | apply Kd.R_alloc | apply Kd.R_drewN | apply Kd.R_drew)); exact Kd.R_mono HO191.out (fun _ hk => ⟨hk.1.1.2, ⟨hk.1.2, hk.2⟩⟩))); (case aS => exact (below_size (by repeat (first | (with_reducible first | exact HB.out | apply below_alloc | apply pw_below_drewN | apply below_drew1 | refine below_set ?_ GE161.out) | exact HB.out)))); (case aL => have := LMc90.out; omega); intro v193 w106 ho hb hg hat; rw [← Ny192.out] at ho; have n0_ := Aside0.mk (Kd.R_after (ok := (fun k_ => some k_ ≠ (v174 : Value).ownBlock ∧ some k_ ≠ (v179 : Value).ownBlock)) (by (with_reducible repeat (first | apply Kd.R_alloc | apply Kd.R_drewN | apply Kd.R_drew)); exact HO_6.out) hg hat); have n1_ := Aside0.mk (Kd.R_after (ok := (fun k_ => some k_ ≠ (.slice Ao107 t166.length co107 : Value).ownBlock ∧ some k_ ≠ (v179 : Value).ownBlock)) (by (with_reducible repeat (first | apply Kd.R_alloc | apply Kd.R_drewN | apply Kd.R_drew)); exact HO_9.out) hg hat); have n2_ := Aside0.mk (Kd.R_after (ok := (fun k_ => some k_ ≠ (.slice Ao107 t166.length co107 : Value).ownBlock ∧ some k_ ≠ (v174 : Value).ownBlock)) (by (with_reducible repeat (first | apply Kd.R_alloc | apply Kd.R_drewN | apply Kd.R_drew)); exact HO_12.out) hg hat); have n3_ := Aside0.mk (blk_grown (g := gb161) (o := .cells #[.string a0_0, .int .i64 a0_1, .int .i64 a0_2, .slice A0_3 l0_3.length c0_3] 24 (0, 0)) (by (with_reducible repeat (first | refine blk_drewN ?_ _ | refine blk_drew ?_ | refine blk_alloc ?_ _)); exact BK161.out) hg (Kd.R_ne HO191.out BK161.out (by decide))); have n4_ := Aside0.mk (hb); have n5_ := Aside0.mk (ho); clear HO_6; clear HO_9; clear HO_12; clear BK161; clear HB; clear HO191; have HO_6 := n0_; have HO_9 := n1_; have HO_12 := n2_; have BK161 := n3_; have HB := n4_; have HO194 := n5_; clear n0_ n1_ n2_ n3_ n4_ n5_; clear ho hb hg hat; obtain ⟨Ao109, co109, eo109⟩ := Kd.R_slice HO_9.out; subst eo109) | ((with_reducible refine gate_builtin (b := .append) (xs := #[.tmp 123, .tmp 124]) rfl ?_); (try (refine gate_guard (by rfl) ?_; dsimp only)); at_builtin; refine Kd.R_append_rows (Kd.int .i64) (w0 := w) w.heap.size rfl (.tmp 123) (.tmp 124) 22 3 (.int .i64 0) 8 rfl Tryd.underlying22 info3 rfl (by decide) (by omega) v193 y192 t171 _ _ _ (fun k_ => some k_ ≠ (.slice Ao107 t166.length co107 : Value).ownBlock ∧ some k_ ≠ (.slice Ao109 t171.length co109 : Value).ownBlock ∧ some k_ ≠ (v179 : Value).ownBlock) (fun _ => False) rfl rfl ?aO ?aR (fun _ _ h => h) (fun _ h => h.elim) ?aF ?aB ?aS ?aL ?_; (case aR => repeat (first | exact (Kd.R_reads' HO_9.out).2.2 | (with_reducible refine Kd.C_alloc ?_ _) | (with_reducible refine Kd.C_drewN ?_ _) | (with_reducible refine Kd.C_drew ?_))); (case aB => exact (by repeat (first | (with_reducible first | exact HB.out | apply below_alloc | apply pw_below_drewN | apply below_drew1 | refine below_set ?_ GE161.out) | exact HB.out))); (case aF => exact (fun k_ hk => ⟨Kd.fresh' (Kd.R_lt (by (with_reducible repeat (first | apply Kd.R_alloc | apply Kd.R_drewN | apply Kd.R_drew)); exact HO_6.out)) k_ hk, Kd.fresh' (Kd.R_lt (by (with_reducible repeat (first | apply Kd.R_alloc | apply Kd.R_drewN | apply Kd.R_drew)); exact HO_9.out)) k_ hk, Kd.fresh' (Kd.R_lt (by (with_reducible repeat (first | apply Kd.R_alloc | apply Kd.R_drewN | apply Kd.R_drew)); exact HO_12.out)) k_ hk⟩)); (case aO => exact (by (with_reducible repeat (first | apply Kd.R_alloc | apply Kd.R_drewN | apply Kd.R_drew)); exact HO194.out)); (case aS => exact (below_size (by repeat (first | (with_reducible first | exact HB.out | apply below_alloc | apply pw_below_drewN | apply below_drew1 | refine below_set ?_ GE161.out) | exact HB.out)))); (case aL => have := LMc91.out; omega); intro v196 w108 ho hb hg hat; rw [← Ny195.out] at ho; have n0_ := Aside0.mk (Kd.R_after (ok := (fun k_ => some k_ ≠ (.slice Ao109 t171.length co109 : Value).ownBlock ∧ some k_ ≠ (v179 : Value).ownBlock)) (by (with_reducible repeat (first | apply Kd.R_alloc | apply Kd.R_drewN | apply Kd.R_drew)); exact HO_6.out) hg hat); have n1_ := Aside0.mk (Kd.R_after (ok := (fun k_ => some k_ ≠ (.slice Ao107 t166.length co107 : Value).ownBlock ∧ some k_ ≠ (v179 : Value).ownBlock)) (by (with_reducible repeat (first | apply Kd.R_alloc | apply Kd.R_drewN | apply Kd.R_drew)); exact HO_9.out) hg hat); have n2_ := Aside0.mk (Kd.R_after (ok := (fun k_ => some k_ ≠ (.slice Ao107 t166.length co107 : Value).ownBlock ∧ some k_ ≠ (.slice Ao109 t171.length co109 : Value).ownBlock)) (by (with_reducible repeat (first | apply Kd.R_alloc | apply Kd.R_drewN | apply Kd.R_drew)); exact HO_12.out) hg hat); have n3_ := Aside0.mk (blk_grown (g := gb161) (o := .cells #[.string a0_0, .int .i64 a0_1, .int .i64 a0_2, .slice A0_3 l0_3.length c0_3] 24 (0, 0)) (by (with_reducible repeat (first | refine blk_drewN ?_ _ | refine blk_drew ?_ | refine blk_alloc ?_ _)); exact BK161.out) hg (Kd.R_ne HO194.out BK161.out (by decide))); have n4_ := Aside0.mk (hb); have n5_ := Aside0.mk (ho); clear HO_6; clear HO_9; clear HO_12; clear BK161; clear HB; clear HO194; have HO_6 := n0_; have HO_9 := n1_; have HO_12 := n2_; have BK161 := n3_; have HB := n4_; have HO197 := n5_; clear n0_ n1_ n2_ n3_ n4_ n5_; clear ho hb hg hat; obtain ⟨Ao110, co110, eo110⟩ := Kd.R_slice HO_12.out; subst eo110; obtain ⟨Ao111, co111, eo111⟩ := Kd.R_slice HO197.out; subst eo111) | ((with_reducible refine gate_callee (f := 14) rfl ?_); refine goesL_ (some 126) rfl rfl Tryd.func14 (by kernel_rfl) rfl #[.slice Ao110 t176.length co110, .slice Ao111 y195.length co111] rfl (by (try simp only [List.map_toArray, List.map_cons, List.map_nil]); first | done | rfl | (simp only [List.length_drop, List.length_take]; rfl)) ?_; (with_reducible refine (colophonkeep_Same.calls kj15 _ _ t176 _ _ y195 false _ ?side1 ?side2 ?side3 ?side4 A92.out).mono ?_); (case side1 => repeat (first | exact (Kd.R_reads' HO_12.out).2.2 | (with_reducible refine Kd.C_alloc ?_ _) | (with_reducible refine Kd.C_drewN ?_ _) | (with_reducible refine Kd.C_drew ?_))); (case side2 => exact (Kd.R_reads' HO_12.out).2.1); (case side3 => repeat (first | exact (Kd.R_reads' HO197.out).2.2 | (with_reducible refine Kd.C_alloc ?_ _) | (with_reducible refine Kd.C_drewN ?_ _) | (with_reducible refine Kd.C_drew ?_))); (case side4 => exact (Kd.R_reads' HO197.out).2.1); rintro e w' ⟨rfl, ⟨nd, rfl⟩⟩; refine ⟨_, rfl, ?_⟩))
                      go_ret
                      exact ⟨by first | rfl | (simp [errW_none, errW_some] <;> rfl) | (simp [*, errW_none, errW_some] <;> rfl), by repeat (first | (with_reducible first | exact HB.out | apply below_alloc | apply pw_below_drewN | apply below_drew1 | refine below_set ?_ GE161.out) | exact HB.out)⟩
                  · rw [if_neg c91] at H
                    exact absurd H (by simp)
                · rw [if_neg c90] at H
                  exact absurd H (by simp)
        · rw [if_neg c14] at H
          exact absurd H (by simp)

end Go.Proofs.YtmcdcpejkldepaaDoor.PFurnishJoins
