-- Written by a copy of the print that this session has turned (wip/tools/patchprint.py): arrays as records.
import Derived.Test.YtmllebfeghlmbaaBadW
import Derived.Test.YtmllebfeghlmbaaPBadPairsx0
namespace Go.Proofs.Ytmllebfeghlmbaa.PBadPairs
open Go.RowKit Go.Proofs.YtmllebfeghlmbaaW.PrintWords Go.Proofs.YtmllebfeghlmbaaW.PrintLast Go.Proofs.YtmllebfeghlmbaaW.PrintMore
attribute [local go_sem] max2_int min2_int max_two min_two max_three min_three max_four min_four   -- for this text's walks alone
set_option linter.unusedVariables false
set_option linter.unusedSimpArgs false

/-! ### badness_Bad: function 7 -/
def badness_Bad.f (a0 : Int) (a1 : Int) : Option (Int) := if (mn (mx a0 0) 1099511627776) = 0 then (some 0) else (if (mn (mx a1 0) 1099511627776) = 0 then (some 10000) else (if (wrap64 ((297 * (mn (mx a0 0) 1099511627776)) / (mn (mx a1 0) 1099511627776))) > 1290 then (some 10000) else (some ((wrap64 ((wrap64 ((wrap64 ((wrap64 ((297 * (mn (mx a0 0) 1099511627776)) / (mn (mx a1 0) 1099511627776))) * (wrap64 ((297 * (mn (mx a0 0) 1099511627776)) / (mn (mx a1 0) 1099511627776))))) * (wrap64 ((297 * (mn (mx a0 0) 1099511627776)) / (mn (mx a1 0) 1099511627776))))) + 131072)) / 262144))))
section
open BadW
theorem bad_f (t s : Int) : badness_Bad.f t s = some (badV (cl t) (cl s)) := by
  unfold badness_Bad.f badV
  show (if cl t = 0 then (some 0) else (if cl s = 0 then (some 10000) else (if (wrap64 ((297 * (cl t)) / (cl s))) > 1290 then (some 10000) else (some ((wrap64 ((wrap64 ((wrap64 ((wrap64 ((297 * (cl t)) / (cl s))) * (wrap64 ((297 * (cl t)) / (cl s))))) * (wrap64 ((297 * (cl t)) / (cl s))))) + 131072)) / 262144)))) : Option Int) = _
  have ht := cl_spec t
  have hs := cl_spec s
  by_cases h1 : cl t = 0
  · rw [if_pos h1, if_pos h1]
  · rw [if_neg h1, if_neg h1]
    by_cases h2 : cl s = 0
    · rw [if_pos h2, if_pos h2]
    · rw [if_neg h2, if_neg h2]
      have hd := div_bd ht.1 ht.2.1 (show 0 < cl s by omega)
      generalize 297 * cl t / cl s = r at *
      rw [w_in (e := r) (by omega)]
      by_cases h3 : r > 1290
      · rw [if_pos h3, if_pos h3]
      · rw [if_neg h3, if_neg h3]
        have hc := cube_bd hd.1 (by omega)
        rw [w_in (e := r * r) (by omega), w_in (e := r * r * r) (by omega), w_in (by omega)]
end
theorem badness_Bad.calls (a0 : Int) (a1 : Int) (r : Int) (w : World) (h : badness_Bad.f a0 a1 = some r) :
    Calls Try.prog 7 #[.int .i64 a0, .int .i64 a1] w fun e w' => e = .returned (.int .i64 r) ∧ Below w.heap.size w w' := by
  have hr : BadW.badV (BadW.cl a0) (BadW.cl a1) = r := Option.some.inj ((bad_f a0 a1).symm.trans h)
  refine (BadW.bad_any a0 a1 w).mono fun e w' ⟨h1, h2⟩ => ⟨?_, ?_⟩
  · rw [h1, hr]
  · rw [h2]; exact Below.refl _ _

/-! ### badness_limits: function 20 -/
def badness_limits.f  : Option (Int × Int × Int) := some (12, 99, 10000)
set_option maxHeartbeats 8000000 in
set_option maxRecDepth 100000 in
theorem badness_limits.calls  (r1 : Int) (r2 : Int) (r3 : Int) (w : World) (h : badness_limits.f  = some (r1, r2, r3)) :
    Calls Try.prog 20 #[] w fun e w' => e = .returned (.agg #[.int .i64 r1, .int .i64 r2, .int .i64 r3]) ∧ Below w.heap.size w w' := by
  have hu38 := Try.underlying38
  have HB := Aside0.mk (Below.refl w.heap.size w)
  have H : (some (12, 99, 10000)) = some (r1, r2, r3) := h
  clear h
  simp only [Option.some.injEq, Prod.mk.injEq] at H
  obtain ⟨rfl, rfl, rfl⟩ := H
  go_enter Try.func20, Try.ntmps20
  go_wp2_with (first | ((with_reducible refine gate_dst (N := 0) rfl ?_); refine box_event ?hg (N := 0) ?hd (cs := #[.int .i64 0, .int .i64 0, .int .i64 0]) (t := 38) ?hr ?_; (case hd => rfl); (case hg => rfl); (case hr => first | (go_simp; done) | (go_simp; rfl)); intro gb101 hg w1 hbox hb; have n0_ := Aside0.mk (below_step (by repeat (first | (with_reducible first | exact HB.out | apply below_alloc | apply pw_below_drewN | apply below_drew1) | exact HB.out)) hb); have n1_ := Aside0.mk (hbox); have n2_ := Aside0.mk ((by rw [hg]; exact (below_size (by repeat (first | (with_reducible first | exact HB.out | apply below_alloc | apply pw_below_drewN | apply below_drew1) | exact HB.out))) : w.heap.size ≤ gb101)); have n3_ := Aside0.mk ((by rw [hg]; exact (below_size (by repeat (first | (with_reducible first | exact HB.out | apply below_alloc | apply pw_below_drewN | apply below_drew1) | exact HB.out))) : w.heap.size ≤ gb101)); clear HB; have HB := n0_; have BK101 := n1_; have GW101 := n2_; have GE101 := n3_; clear n0_ n1_ n2_ n3_; clear hb hbox hg; have hcz2_0 : w1.cell? ⟨gb101, 0, none⟩ = some (.int .i64 0) := (blk_cell BK101.out 0).trans rfl; have hcz2_1 : w1.cell? ⟨gb101, 1, none⟩ = some (.int .i64 0) := (blk_cell BK101.out 1).trans rfl; have hcz2_2 : w1.cell? ⟨gb101, 2, none⟩ = some (.int .i64 0) := (blk_cell BK101.out 2).trans rfl; have hfz2_0 := blk_frozen BK101.out 0; have hfz2_1 := blk_frozen BK101.out 1; have hfz2_2 := blk_frozen BK101.out 2))
  refine bodyPost_ret (results_cell_row rfl _ _ gb101 38 #[.int .i64 12, .int .i64 99, .int .i64 10000] (0, 0) _ rfl (by (with_reducible repeat (first | refine blk_drewN ?_ _ | refine blk_drew ?_ | refine blk_alloc ?_ _)); refine blk_put (cs := #[.int .i64 12, .int .i64 99, .int .i64 0]) ?_ 2 _ rfl; (with_reducible repeat (first | refine blk_drewN ?_ _ | refine blk_drew ?_ | refine blk_alloc ?_ _)); refine blk_put (cs := #[.int .i64 12, .int .i64 0, .int .i64 0]) ?_ 1 _ rfl; (with_reducible repeat (first | refine blk_drewN ?_ _ | refine blk_drew ?_ | refine blk_alloc ?_ _)); refine blk_put (cs := #[.int .i64 0, .int .i64 0, .int .i64 0]) ?_ 0 _ rfl; (with_reducible repeat (first | refine blk_drewN ?_ _ | refine blk_drew ?_ | refine blk_alloc ?_ _)); exact BK101.out) Try.underlying38 rfl (by kernel_rfl)) rfl ?_
  exact ⟨by first | rfl | (simp [errW_none, errW_some] <;> rfl) | (simp [*, errW_none, errW_some] <;> rfl), by repeat (first | (with_reducible first | exact HB.out | apply below_alloc | apply pw_below_drewN | apply below_drew1 | refine below_set ?_ GE101.out) | exact HB.out)⟩

/-! ### badness_Class: function 9 -/
def badness_Class.f (a0 : Int) (a1 : Int) (a2 : Bool) : Option (Int) := (badness_limits.f).bind fun bt102 => ((badness_Bad.f a0 a1).bind fun t106 => (if t106 ≤ bt102.1 then (some 1) else (if a2 = true then (some 0) else (if t106 ≤ bt102.2.1 then (some 2) else (some 3)))))
set_option maxHeartbeats 8000000 in
set_option maxRecDepth 100000 in
theorem badness_Class.calls (a0 : Int) (a1 : Int) (a2 : Bool) (r : Int) (w : World) (h : badness_Class.f a0 a1 a2 = some r) :
    Calls Try.prog 9 #[.int .i64 a0, .int .i64 a1, .bool a2] w fun e w' => e = .returned (.int .i64 r) ∧ Below w.heap.size w w' := by
  have hu38 := Try.underlying38
  have HB := Aside0.mk (Below.refl w.heap.size w)
  have H : ((badness_limits.f).bind fun bt102 => ((badness_Bad.f a0 a1).bind fun t106 => (if t106 ≤ bt102.1 then (some 1) else (if a2 = true then (some 0) else (if t106 ≤ bt102.2.1 then (some 2) else (some 3)))))) = some r := h
  clear h
  replace H := Option.bind_eq_some_iff.mp H
  obtain ⟨⟨t102, t103, t104⟩, A40, H⟩ := H
  replace H : ((badness_Bad.f a0 a1).bind fun t106 => (if t106 ≤ t102 then (some 1) else (if a2 = true then (some 0) else (if t106 ≤ t103 then (some 2) else (some 3))))) = some r := H
  have A4 := Aside0.mk A40
  clear A40
  replace H := Option.bind_eq_some_iff.mp H
  obtain ⟨t106, A50, H⟩ := H
  replace H : (if t106 ≤ t102 then (some 1) else (if a2 = true then (some 0) else (if t106 ≤ t103 then (some 2) else (some 3)))) = some r := H
  have A5 := Aside0.mk A50
  clear A50
  by_cases c6 : t106 ≤ t102
  · rw [if_pos c6] at H
    have c6b0 : decide (t106 ≤ t102) = true := decide_eq_true c6
    clear c6
    obtain rfl := Option.some.inj H
    go_enter Try.func9, Try.ntmps9
    go_wp2_with (first | ((with_reducible refine gate_callee (f := 20) rfl ?_); refine goesL_ (some 9) rfl rfl Try.func20 (by kernel_rfl) rfl #[] rfl (by (try simp only [List.map_toArray, List.map_cons, List.map_nil]); first | done | rfl | (simp only [List.length_drop, List.length_take]; rfl)) ?_; (with_reducible refine (badness_limits.calls  t102 t103 t104 _ A4.out).mono ?_); rintro e w7 ⟨rfl, hb⟩; refine ⟨_, rfl, ?_⟩; have n0_ := Aside0.mk (below_step (by repeat (first | (with_reducible first | exact HB.out | apply below_alloc | apply pw_below_drewN | apply below_drew1) | exact HB.out)) hb); clear HB; have HB := n0_; clear n0_; (try clear hb); (try clear hb2); (try clear hk); (try clear hi)) | ((with_reducible refine gate_dst (N := 7) rfl ?_); refine box_event ?hg (N := 7) ?hd (cs := #[.int .i64 0, .int .i64 0, .int .i64 0]) (t := 38) ?hr ?_; (case hd => rfl); (case hg => rfl); (case hr => first | (go_simp; done) | (go_simp; rfl)); intro gb105 hg w8 hbox hb; have n0_ := Aside0.mk (below_step (by repeat (first | (with_reducible first | exact HB.out | apply below_alloc | apply pw_below_drewN | apply below_drew1) | exact HB.out)) hb); have n1_ := Aside0.mk (hbox); have n2_ := Aside0.mk ((by rw [hg]; exact (below_size (by repeat (first | (with_reducible first | exact HB.out | apply below_alloc | apply pw_below_drewN | apply below_drew1) | exact HB.out))) : w.heap.size ≤ gb105)); have n3_ := Aside0.mk ((by rw [hg]; exact (below_size (by repeat (first | (with_reducible first | exact HB.out | apply below_alloc | apply pw_below_drewN | apply below_drew1) | exact HB.out))) : w.heap.size ≤ gb105)); clear HB; have HB := n0_; have BK105 := n1_; have GW105 := n2_; have GE105 := n3_; clear n0_ n1_ n2_ n3_; clear hb hbox hg; have hcz9_0 : w8.cell? ⟨gb105, 0, none⟩ = some (.int .i64 0) := (blk_cell BK105.out 0).trans rfl; have hcz9_1 : w8.cell? ⟨gb105, 1, none⟩ = some (.int .i64 0) := (blk_cell BK105.out 1).trans rfl; have hcz9_2 : w8.cell? ⟨gb105, 2, none⟩ = some (.int .i64 0) := (blk_cell BK105.out 2).trans rfl; have hfz9_0 := blk_frozen BK105.out 0; have hfz9_1 := blk_frozen BK105.out 1; have hfz9_2 := blk_frozen BK105.out 2) | ((with_reducible refine gate_callee (f := 7) rfl ?_); refine goesL_ (some 12) rfl rfl Try.func7 (by kernel_rfl) rfl #[.int .i64 a0, .int .i64 a1] rfl (by (try simp only [List.map_toArray, List.map_cons, List.map_nil]); first | done | rfl | (simp only [List.length_drop, List.length_take]; rfl)) ?_; (with_reducible refine (badness_Bad.calls a0 a1 t106 _ A5.out).mono ?_); rintro e w10 ⟨rfl, hb⟩; refine ⟨_, rfl, ?_⟩; have n0_ := Aside0.mk (blk_below (g := gb105) (o := .cells #[.int .i64 t102, .int .i64 t103, .int .i64 t104] 38 (0, 0)) (by (with_reducible repeat (first | refine blk_drewN ?_ _ | refine blk_drew ?_ | refine blk_alloc ?_ _)); refine blk_put (cs := #[.int .i64 t102, .int .i64 t103, .int .i64 0]) ?_ 2 _ rfl; (with_reducible repeat (first | refine blk_drewN ?_ _ | refine blk_drew ?_ | refine blk_alloc ?_ _)); refine blk_put (cs := #[.int .i64 t102, .int .i64 0, .int .i64 0]) ?_ 1 _ rfl; (with_reducible repeat (first | refine blk_drewN ?_ _ | refine blk_drew ?_ | refine blk_alloc ?_ _)); refine blk_put (cs := #[.int .i64 0, .int .i64 0, .int .i64 0]) ?_ 0 _ rfl; (with_reducible repeat (first | refine blk_drewN ?_ _ | refine blk_drew ?_ | refine blk_alloc ?_ _)); exact BK105.out) hb); have n1_ := Aside0.mk (below_step (by repeat (first | (with_reducible first | exact HB.out | apply below_alloc | apply pw_below_drewN | apply below_drew1 | refine below_set ?_ GE105.out) | exact HB.out)) hb); clear BK105; clear HB; have BK105 := n0_; have HB := n1_; clear n0_ n1_; (try clear hb); (try clear hb2); (try clear hk); (try clear hi); have hcz11_0 : w10.cell? ⟨gb105, 0, none⟩ = some (.int .i64 t102) := (blk_cell BK105.out 0).trans rfl; have hcz11_1 : w10.cell? ⟨gb105, 1, none⟩ = some (.int .i64 t103) := (blk_cell BK105.out 1).trans rfl; have hcz11_2 : w10.cell? ⟨gb105, 2, none⟩ = some (.int .i64 t104) := (blk_cell BK105.out 2).trans rfl; have hfz11_0 := blk_frozen BK105.out 0; have hfz11_1 := blk_frozen BK105.out 1; have hfz11_2 := blk_frozen BK105.out 2))
    go_ret
    exact ⟨by first | rfl | (simp [errW_none, errW_some] <;> rfl) | (simp [*, errW_none, errW_some] <;> rfl), by repeat (first | (with_reducible first | exact HB.out | apply below_alloc | apply pw_below_drewN | apply below_drew1 | refine below_set ?_ GE105.out) | exact HB.out)⟩
  · rw [if_neg c6] at H
    have c6b0 : decide (t106 ≤ t102) = false := decide_eq_false c6
    clear c6
    by_cases c12 : a2 = true
    · subst c12
      have H1 : (some 0) = some r := by rw [if_pos rfl] at H; exact H
      clear H
      have H := H1
      clear H1
      obtain rfl := Option.some.inj H
      go_enter Try.func9, Try.ntmps9
      go_wp2_with (first | ((with_reducible refine gate_callee (f := 20) rfl ?_); refine goesL_ (some 9) rfl rfl Try.func20 (by kernel_rfl) rfl #[] rfl (by (try simp only [List.map_toArray, List.map_cons, List.map_nil]); first | done | rfl | (simp only [List.length_drop, List.length_take]; rfl)) ?_; (with_reducible refine (badness_limits.calls  t102 t103 t104 _ A4.out).mono ?_); rintro e w13 ⟨rfl, hb⟩; refine ⟨_, rfl, ?_⟩; have n0_ := Aside0.mk (below_step (by repeat (first | (with_reducible first | exact HB.out | apply below_alloc | apply pw_below_drewN | apply below_drew1) | exact HB.out)) hb); clear HB; have HB := n0_; clear n0_; (try clear hb); (try clear hb2); (try clear hk); (try clear hi)) | ((with_reducible refine gate_dst (N := 7) rfl ?_); refine box_event ?hg (N := 7) ?hd (cs := #[.int .i64 0, .int .i64 0, .int .i64 0]) (t := 38) ?hr ?_; (case hd => rfl); (case hg => rfl); (case hr => first | (go_simp; done) | (go_simp; rfl)); intro gb105 hg w14 hbox hb; have n0_ := Aside0.mk (below_step (by repeat (first | (with_reducible first | exact HB.out | apply below_alloc | apply pw_below_drewN | apply below_drew1) | exact HB.out)) hb); have n1_ := Aside0.mk (hbox); have n2_ := Aside0.mk ((by rw [hg]; exact (below_size (by repeat (first | (with_reducible first | exact HB.out | apply below_alloc | apply pw_below_drewN | apply below_drew1) | exact HB.out))) : w.heap.size ≤ gb105)); have n3_ := Aside0.mk ((by rw [hg]; exact (below_size (by repeat (first | (with_reducible first | exact HB.out | apply below_alloc | apply pw_below_drewN | apply below_drew1) | exact HB.out))) : w.heap.size ≤ gb105)); clear HB; have HB := n0_; have BK105 := n1_; have GW105 := n2_; have GE105 := n3_; clear n0_ n1_ n2_ n3_; clear hb hbox hg; have hcz15_0 : w14.cell? ⟨gb105, 0, none⟩ = some (.int .i64 0) := (blk_cell BK105.out 0).trans rfl; have hcz15_1 : w14.cell? ⟨gb105, 1, none⟩ = some (.int .i64 0) := (blk_cell BK105.out 1).trans rfl; have hcz15_2 : w14.cell? ⟨gb105, 2, none⟩ = some (.int .i64 0) := (blk_cell BK105.out 2).trans rfl; have hfz15_0 := blk_frozen BK105.out 0; have hfz15_1 := blk_frozen BK105.out 1; have hfz15_2 := blk_frozen BK105.out 2) | ((with_reducible refine gate_callee (f := 7) rfl ?_); refine goesL_ (some 12) rfl rfl Try.func7 (by kernel_rfl) rfl #[.int .i64 a0, .int .i64 a1] rfl (by (try simp only [List.map_toArray, List.map_cons, List.map_nil]); first | done | rfl | (simp only [List.length_drop, List.length_take]; rfl)) ?_; (with_reducible refine (badness_Bad.calls a0 a1 t106 _ A5.out).mono ?_); rintro e w16 ⟨rfl, hb⟩; refine ⟨_, rfl, ?_⟩; have n0_ := Aside0.mk (blk_below (g := gb105) (o := .cells #[.int .i64 t102, .int .i64 t103, .int .i64 t104] 38 (0, 0)) (by (with_reducible repeat (first | refine blk_drewN ?_ _ | refine blk_drew ?_ | refine blk_alloc ?_ _)); refine blk_put (cs := #[.int .i64 t102, .int .i64 t103, .int .i64 0]) ?_ 2 _ rfl; (with_reducible repeat (first | refine blk_drewN ?_ _ | refine blk_drew ?_ | refine blk_alloc ?_ _)); refine blk_put (cs := #[.int .i64 t102, .int .i64 0, .int .i64 0]) ?_ 1 _ rfl; (with_reducible repeat (first | refine blk_drewN ?_ _ | refine blk_drew ?_ | refine blk_alloc ?_ _)); refine blk_put (cs := #[.int .i64 0, .int .i64 0, .int .i64 0]) ?_ 0 _ rfl; (with_reducible repeat (first | refine blk_drewN ?_ _ | refine blk_drew ?_ | refine blk_alloc ?_ _)); exact BK105.out) hb); have n1_ := Aside0.mk (below_step (by repeat (first | (with_reducible first | exact HB.out | apply below_alloc | apply pw_below_drewN | apply below_drew1 | refine below_set ?_ GE105.out) | exact HB.out)) hb); clear BK105; clear HB; have BK105 := n0_; have HB := n1_; clear n0_ n1_; (try clear hb); (try clear hb2); (try clear hk); (try clear hi); have hcz17_0 : w16.cell? ⟨gb105, 0, none⟩ = some (.int .i64 t102) := (blk_cell BK105.out 0).trans rfl; have hcz17_1 : w16.cell? ⟨gb105, 1, none⟩ = some (.int .i64 t103) := (blk_cell BK105.out 1).trans rfl; have hcz17_2 : w16.cell? ⟨gb105, 2, none⟩ = some (.int .i64 t104) := (blk_cell BK105.out 2).trans rfl; have hfz17_0 := blk_frozen BK105.out 0; have hfz17_1 := blk_frozen BK105.out 1; have hfz17_2 := blk_frozen BK105.out 2))
      go_ret
      exact ⟨by first | rfl | (simp [errW_none, errW_some] <;> rfl) | (simp [*, errW_none, errW_some] <;> rfl), by repeat (first | (with_reducible first | exact HB.out | apply below_alloc | apply pw_below_drewN | apply below_drew1 | refine below_set ?_ GE105.out) | exact HB.out)⟩
    · replace c12 := Bool.eq_false_iff.mpr c12
      subst c12
      have H1 : (if t106 ≤ t103 then (some 2) else (some 3)) = some r := by rw [if_neg (show ¬ (false = true) by decide)] at H; exact H
      clear H
      have H := H1
      clear H1
      by_cases c18 : t106 ≤ t103
      · rw [if_pos c18] at H
        have c18b0 : decide (t106 ≤ t103) = true := decide_eq_true c18
        clear c18
        obtain rfl := Option.some.inj H
        go_enter Try.func9, Try.ntmps9
        go_wp2_with (first | ((with_reducible refine gate_callee (f := 20) rfl ?_); refine goesL_ (some 9) rfl rfl Try.func20 (by kernel_rfl) rfl #[] rfl (by (try simp only [List.map_toArray, List.map_cons, List.map_nil]); first | done | rfl | (simp only [List.length_drop, List.length_take]; rfl)) ?_; (with_reducible refine (badness_limits.calls  t102 t103 t104 _ A4.out).mono ?_); rintro e w19 ⟨rfl, hb⟩; refine ⟨_, rfl, ?_⟩; have n0_ := Aside0.mk (below_step (by repeat (first | (with_reducible first | exact HB.out | apply below_alloc | apply pw_below_drewN | apply below_drew1) | exact HB.out)) hb); clear HB; have HB := n0_; clear n0_; (try clear hb); (try clear hb2); (try clear hk); (try clear hi)) | ((with_reducible refine gate_dst (N := 7) rfl ?_); refine box_event ?hg (N := 7) ?hd (cs := #[.int .i64 0, .int .i64 0, .int .i64 0]) (t := 38) ?hr ?_; (case hd => rfl); (case hg => rfl); (case hr => first | (go_simp; done) | (go_simp; rfl)); intro gb105 hg w20 hbox hb; have n0_ := Aside0.mk (below_step (by repeat (first | (with_reducible first | exact HB.out | apply below_alloc | apply pw_below_drewN | apply below_drew1) | exact HB.out)) hb); have n1_ := Aside0.mk (hbox); have n2_ := Aside0.mk ((by rw [hg]; exact (below_size (by repeat (first | (with_reducible first | exact HB.out | apply below_alloc | apply pw_below_drewN | apply below_drew1) | exact HB.out))) : w.heap.size ≤ gb105)); have n3_ := Aside0.mk ((by rw [hg]; exact (below_size (by repeat (first | (with_reducible first | exact HB.out | apply below_alloc | apply pw_below_drewN | apply below_drew1) | exact HB.out))) : w.heap.size ≤ gb105)); clear HB; have HB := n0_; have BK105 := n1_; have GW105 := n2_; have GE105 := n3_; clear n0_ n1_ n2_ n3_; clear hb hbox hg; have hcz21_0 : w20.cell? ⟨gb105, 0, none⟩ = some (.int .i64 0) := (blk_cell BK105.out 0).trans rfl; have hcz21_1 : w20.cell? ⟨gb105, 1, none⟩ = some (.int .i64 0) := (blk_cell BK105.out 1).trans rfl; have hcz21_2 : w20.cell? ⟨gb105, 2, none⟩ = some (.int .i64 0) := (blk_cell BK105.out 2).trans rfl; have hfz21_0 := blk_frozen BK105.out 0; have hfz21_1 := blk_frozen BK105.out 1; have hfz21_2 := blk_frozen BK105.out 2) | ((with_reducible refine gate_callee (f := 7) rfl ?_); refine goesL_ (some 12) rfl rfl Try.func7 (by kernel_rfl) rfl #[.int .i64 a0, .int .i64 a1] rfl (by (try simp only [List.map_toArray, List.map_cons, List.map_nil]); first | done | rfl | (simp only [List.length_drop, List.length_take]; rfl)) ?_; (with_reducible refine (badness_Bad.calls a0 a1 t106 _ A5.out).mono ?_); rintro e w22 ⟨rfl, hb⟩; refine ⟨_, rfl, ?_⟩; have n0_ := Aside0.mk (blk_below (g := gb105) (o := .cells #[.int .i64 t102, .int .i64 t103, .int .i64 t104] 38 (0, 0)) (by (with_reducible repeat (first | refine blk_drewN ?_ _ | refine blk_drew ?_ | refine blk_alloc ?_ _)); refine blk_put (cs := #[.int .i64 t102, .int .i64 t103, .int .i64 0]) ?_ 2 _ rfl; (with_reducible repeat (first | refine blk_drewN ?_ _ | refine blk_drew ?_ | refine blk_alloc ?_ _)); refine blk_put (cs := #[.int .i64 t102, .int .i64 0, .int .i64 0]) ?_ 1 _ rfl; (with_reducible repeat (first | refine blk_drewN ?_ _ | refine blk_drew ?_ | refine blk_alloc ?_ _)); refine blk_put (cs := #[.int .i64 0, .int .i64 0, .int .i64 0]) ?_ 0 _ rfl; (with_reducible repeat (first | refine blk_drewN ?_ _ | refine blk_drew ?_ | refine blk_alloc ?_ _)); exact BK105.out) hb); have n1_ := Aside0.mk (below_step (by repeat (first | (with_reducible first | exact HB.out | apply below_alloc | apply pw_below_drewN | apply below_drew1 | refine below_set ?_ GE105.out) | exact HB.out)) hb); clear BK105; clear HB; have BK105 := n0_; have HB := n1_; clear n0_ n1_; (try clear hb); (try clear hb2); (try clear hk); (try clear hi); have hcz23_0 : w22.cell? ⟨gb105, 0, none⟩ = some (.int .i64 t102) := (blk_cell BK105.out 0).trans rfl; have hcz23_1 : w22.cell? ⟨gb105, 1, none⟩ = some (.int .i64 t103) := (blk_cell BK105.out 1).trans rfl; have hcz23_2 : w22.cell? ⟨gb105, 2, none⟩ = some (.int .i64 t104) := (blk_cell BK105.out 2).trans rfl; have hfz23_0 := blk_frozen BK105.out 0; have hfz23_1 := blk_frozen BK105.out 1; have hfz23_2 := blk_frozen BK105.out 2))
        go_ret
        exact ⟨by first | rfl | (simp [errW_none, errW_some] <;> rfl) | (simp [*, errW_none, errW_some] <;> rfl), by repeat (first | (with_reducible first | exact HB.out | apply below_alloc | apply pw_below_drewN | apply below_drew1 | refine below_set ?_ GE105.out) | exact HB.out)⟩
      · rw [if_neg c18] at H
        have c18b0 : decide (t106 ≤ t103) = false := decide_eq_false c18
        clear c18
        obtain rfl := Option.some.inj H
        go_enter Try.func9, Try.ntmps9
        go_wp2_with (first | ((with_reducible refine gate_callee (f := 20) rfl ?_); refine goesL_ (some 9) rfl rfl Try.func20 (by kernel_rfl) rfl #[] rfl (by (try simp only [List.map_toArray, List.map_cons, List.map_nil]); first | done | rfl | (simp only [List.length_drop, List.length_take]; rfl)) ?_; (with_reducible refine (badness_limits.calls  t102 t103 t104 _ A4.out).mono ?_); rintro e w24 ⟨rfl, hb⟩; refine ⟨_, rfl, ?_⟩; have n0_ := Aside0.mk (below_step (by repeat (first | (with_reducible first | exact HB.out | apply below_alloc | apply pw_below_drewN | apply below_drew1) | exact HB.out)) hb); clear HB; have HB := n0_; clear n0_; (try clear hb); (try clear hb2); (try clear hk); (try clear hi)) | ((with_reducible refine gate_dst (N := 7) rfl ?_); refine box_event ?hg (N := 7) ?hd (cs := #[.int .i64 0, .int .i64 0, .int .i64 0]) (t := 38) ?hr ?_; (case hd => rfl); (case hg => rfl); (case hr => first | (go_simp; done) | (go_simp; rfl)); intro gb105 hg w25 hbox hb; have n0_ := Aside0.mk (below_step (by repeat (first | (with_reducible first | exact HB.out | apply below_alloc | apply pw_below_drewN | apply below_drew1) | exact HB.out)) hb); have n1_ := Aside0.mk (hbox); have n2_ := Aside0.mk ((by rw [hg]; exact (below_size (by repeat (first | (with_reducible first | exact HB.out | apply below_alloc | apply pw_below_drewN | apply below_drew1) | exact HB.out))) : w.heap.size ≤ gb105)); have n3_ := Aside0.mk ((by rw [hg]; exact (below_size (by repeat (first | (with_reducible first | exact HB.out | apply below_alloc | apply pw_below_drewN | apply below_drew1) | exact HB.out))) : w.heap.size ≤ gb105)); clear HB; have HB := n0_; have BK105 := n1_; have GW105 := n2_; have GE105 := n3_; clear n0_ n1_ n2_ n3_; clear hb hbox hg; have hcz26_0 : w25.cell? ⟨gb105, 0, none⟩ = some (.int .i64 0) := (blk_cell BK105.out 0).trans rfl; have hcz26_1 : w25.cell? ⟨gb105, 1, none⟩ = some (.int .i64 0) := (blk_cell BK105.out 1).trans rfl; have hcz26_2 : w25.cell? ⟨gb105, 2, none⟩ = some (.int .i64 0) := (blk_cell BK105.out 2).trans rfl; have hfz26_0 := blk_frozen BK105.out 0; have hfz26_1 := blk_frozen BK105.out 1; have hfz26_2 := blk_frozen BK105.out 2) | ((with_reducible refine gate_callee (f := 7) rfl ?_); refine goesL_ (some 12) rfl rfl Try.func7 (by kernel_rfl) rfl #[.int .i64 a0, .int .i64 a1] rfl (by (try simp only [List.map_toArray, List.map_cons, List.map_nil]); first | done | rfl | (simp only [List.length_drop, List.length_take]; rfl)) ?_; (with_reducible refine (badness_Bad.calls a0 a1 t106 _ A5.out).mono ?_); rintro e w27 ⟨rfl, hb⟩; refine ⟨_, rfl, ?_⟩; have n0_ := Aside0.mk (blk_below (g := gb105) (o := .cells #[.int .i64 t102, .int .i64 t103, .int .i64 t104] 38 (0, 0)) (by (with_reducible repeat (first | refine blk_drewN ?_ _ | refine blk_drew ?_ | refine blk_alloc ?_ _)); refine blk_put (cs := #[.int .i64 t102, .int .i64 t103, .int .i64 0]) ?_ 2 _ rfl; (with_reducible repeat (first | refine blk_drewN ?_ _ | refine blk_drew ?_ | refine blk_alloc ?_ _)); refine blk_put (cs := #[.int .i64 t102, .int .i64 0, .int .i64 0]) ?_ 1 _ rfl; (with_reducible repeat (first | refine blk_drewN ?_ _ | refine blk_drew ?_ | refine blk_alloc ?_ _)); refine blk_put (cs := #[.int .i64 0, .int .i64 0, .int .i64 0]) ?_ 0 _ rfl; (with_reducible repeat (first | refine blk_drewN ?_ _ | refine blk_drew ?_ | refine blk_alloc ?_ _)); exact BK105.out) hb); have n1_ := Aside0.mk (below_step (by repeat (first | (with_reducible first | exact HB.out | apply below_alloc | apply pw_below_drewN | apply below_drew1 | refine below_set ?_ GE105.out) | exact HB.out)) hb); clear BK105; clear HB; have BK105 := n0_; have HB := n1_; clear n0_ n1_; (try clear hb); (try clear hb2); (try clear hk); (try clear hi); have hcz28_0 : w27.cell? ⟨gb105, 0, none⟩ = some (.int .i64 t102) := (blk_cell BK105.out 0).trans rfl; have hcz28_1 : w27.cell? ⟨gb105, 1, none⟩ = some (.int .i64 t103) := (blk_cell BK105.out 1).trans rfl; have hcz28_2 : w27.cell? ⟨gb105, 2, none⟩ = some (.int .i64 t104) := (blk_cell BK105.out 2).trans rfl; have hfz28_0 := blk_frozen BK105.out 0; have hfz28_1 := blk_frozen BK105.out 1; have hfz28_2 := blk_frozen BK105.out 2))
        go_ret
        exact ⟨by first | rfl | (simp [errW_none, errW_some] <;> rfl) | (simp [*, errW_none, errW_some] <;> rfl), by repeat (first | (with_reducible first | exact HB.out | apply below_alloc | apply pw_below_drewN | apply below_drew1 | refine below_set ?_ GE105.out) | exact HB.out)⟩

/-! ### badness_Line: function 12 -/
def badness_Line.f (a0 : Int) (a1 : Int) (a2 : Int) : Option (Int) := if (mn (mx a2 (-10000)) 10000) ≥ 0 then (some (wrap64 ((wrap64 (((mn (mx a0 0) 1000) + (mn (mx a1 0) 10000)) * ((mn (mx a0 0) 1000) + (mn (mx a1 0) 10000)))) + (wrap64 ((mn (mx a2 (-10000)) 10000) * (mn (mx a2 (-10000)) 10000)))))) else (if (mn (mx a2 (-10000)) 10000) > (-10000) then (some (wrap64 ((wrap64 (((mn (mx a0 0) 1000) + (mn (mx a1 0) 10000)) * ((mn (mx a0 0) 1000) + (mn (mx a1 0) 10000)))) - (wrap64 ((mn (mx a2 (-10000)) 10000) * (mn (mx a2 (-10000)) 10000)))))) else (some (wrap64 (((mn (mx a0 0) 1000) + (mn (mx a1 0) 10000)) * ((mn (mx a0 0) 1000) + (mn (mx a1 0) 10000))))))
set_option maxHeartbeats 8000000 in
set_option maxRecDepth 100000 in
theorem badness_Line.calls (a0 : Int) (a1 : Int) (a2 : Int) (r : Int) (w : World) (h : badness_Line.f a0 a1 a2 = some r) :
    Calls Try.prog 12 #[.int .i64 a0, .int .i64 a1, .int .i64 a2] w fun e w' => e = .returned (.int .i64 r) ∧ Below w.heap.size w w' := by
  have HB := Aside0.mk (Below.refl w.heap.size w)
  have H : (if (mn (mx a2 (-10000)) 10000) ≥ 0 then (some (wrap64 ((wrap64 (((mn (mx a0 0) 1000) + (mn (mx a1 0) 10000)) * ((mn (mx a0 0) 1000) + (mn (mx a1 0) 10000)))) + (wrap64 ((mn (mx a2 (-10000)) 10000) * (mn (mx a2 (-10000)) 10000)))))) else (if (mn (mx a2 (-10000)) 10000) > (-10000) then (some (wrap64 ((wrap64 (((mn (mx a0 0) 1000) + (mn (mx a1 0) 10000)) * ((mn (mx a0 0) 1000) + (mn (mx a1 0) 10000)))) - (wrap64 ((mn (mx a2 (-10000)) 10000) * (mn (mx a2 (-10000)) 10000)))))) else (some (wrap64 (((mn (mx a0 0) 1000) + (mn (mx a1 0) 10000)) * ((mn (mx a0 0) 1000) + (mn (mx a1 0) 10000))))))) = some r := h
  clear h
  obtain ⟨ji4, hji4⟩ : ∃ j_ : Int, (mx a0 0) = j_ := ⟨_, rfl⟩
  replace H : (if (mn (mx a2 (-10000)) 10000) ≥ 0 then (some (wrap64 ((wrap64 (((mn (ji4) 1000) + (mn (mx a1 0) 10000)) * ((mn (ji4) 1000) + (mn (mx a1 0) 10000)))) + (wrap64 ((mn (mx a2 (-10000)) 10000) * (mn (mx a2 (-10000)) 10000)))))) else (if (mn (mx a2 (-10000)) 10000) > (-10000) then (some (wrap64 ((wrap64 (((mn (ji4) 1000) + (mn (mx a1 0) 10000)) * ((mn (ji4) 1000) + (mn (mx a1 0) 10000)))) - (wrap64 ((mn (mx a2 (-10000)) 10000) * (mn (mx a2 (-10000)) 10000)))))) else (some (wrap64 (((mn (ji4) 1000) + (mn (mx a1 0) 10000)) * ((mn (ji4) 1000) + (mn (mx a1 0) 10000))))))) = some r := by first | (rw [hji4] at H; exact H) | (simp only [hji4] at H ⊢; exact H)
  (try (have hji4l : 0 ≤ ji4 := by (rw [← hji4]; unfold mx; (repeat' split) <;> omega)))
  (try (have hji4m : 0 ≤ ji4 := by omega))
  have hji4_ : (if a0 < 0 then 0 else a0) = ji4 := hji4
  obtain ⟨ji5, hji5⟩ : ∃ j_ : Int, (mn (ji4) 1000) = j_ := ⟨_, rfl⟩
  replace H : (if (mn (mx a2 (-10000)) 10000) ≥ 0 then (some (wrap64 ((wrap64 (((ji5) + (mn (mx a1 0) 10000)) * ((ji5) + (mn (mx a1 0) 10000)))) + (wrap64 ((mn (mx a2 (-10000)) 10000) * (mn (mx a2 (-10000)) 10000)))))) else (if (mn (mx a2 (-10000)) 10000) > (-10000) then (some (wrap64 ((wrap64 (((ji5) + (mn (mx a1 0) 10000)) * ((ji5) + (mn (mx a1 0) 10000)))) - (wrap64 ((mn (mx a2 (-10000)) 10000) * (mn (mx a2 (-10000)) 10000)))))) else (some (wrap64 (((ji5) + (mn (mx a1 0) 10000)) * ((ji5) + (mn (mx a1 0) 10000))))))) = some r := by first | (rw [hji5] at H; exact H) | (simp only [hji5] at H ⊢; exact H)
  have hji5_ : (if 1000 < (ji4) then 1000 else (ji4)) = ji5 := hji5
  obtain ⟨ji6, hji6⟩ : ∃ j_ : Int, (mx a1 0) = j_ := ⟨_, rfl⟩
  replace H : (if (mn (mx a2 (-10000)) 10000) ≥ 0 then (some (wrap64 ((wrap64 (((ji5) + (mn (ji6) 10000)) * ((ji5) + (mn (ji6) 10000)))) + (wrap64 ((mn (mx a2 (-10000)) 10000) * (mn (mx a2 (-10000)) 10000)))))) else (if (mn (mx a2 (-10000)) 10000) > (-10000) then (some (wrap64 ((wrap64 (((ji5) + (mn (ji6) 10000)) * ((ji5) + (mn (ji6) 10000)))) - (wrap64 ((mn (mx a2 (-10000)) 10000) * (mn (mx a2 (-10000)) 10000)))))) else (some (wrap64 (((ji5) + (mn (ji6) 10000)) * ((ji5) + (mn (ji6) 10000))))))) = some r := by first | (rw [hji6] at H; exact H) | (simp only [hji6] at H ⊢; exact H)
  (try (have hji6l : 0 ≤ ji6 := by (rw [← hji6]; unfold mx; (repeat' split) <;> omega)))
  (try (have hji6m : 0 ≤ ji6 := by omega))
  have hji6_ : (if a1 < 0 then 0 else a1) = ji6 := hji6
  obtain ⟨ji7, hji7⟩ : ∃ j_ : Int, (mn (ji6) 10000) = j_ := ⟨_, rfl⟩
  replace H : (if (mn (mx a2 (-10000)) 10000) ≥ 0 then (some (wrap64 ((wrap64 (((ji5) + (ji7)) * ((ji5) + (ji7)))) + (wrap64 ((mn (mx a2 (-10000)) 10000) * (mn (mx a2 (-10000)) 10000)))))) else (if (mn (mx a2 (-10000)) 10000) > (-10000) then (some (wrap64 ((wrap64 (((ji5) + (ji7)) * ((ji5) + (ji7)))) - (wrap64 ((mn (mx a2 (-10000)) 10000) * (mn (mx a2 (-10000)) 10000)))))) else (some (wrap64 (((ji5) + (ji7)) * ((ji5) + (ji7))))))) = some r := by first | (rw [hji7] at H; exact H) | (simp only [hji7] at H ⊢; exact H)
  have hji7_ : (if 10000 < (ji6) then 10000 else (ji6)) = ji7 := hji7
  obtain ⟨ji8, hji8⟩ : ∃ j_ : Int, (mx a2 (-10000)) = j_ := ⟨_, rfl⟩
  replace H : (if (mn (ji8) 10000) ≥ 0 then (some (wrap64 ((wrap64 (((ji5) + (ji7)) * ((ji5) + (ji7)))) + (wrap64 ((mn (ji8) 10000) * (mn (ji8) 10000)))))) else (if (mn (ji8) 10000) > (-10000) then (some (wrap64 ((wrap64 (((ji5) + (ji7)) * ((ji5) + (ji7)))) - (wrap64 ((mn (ji8) 10000) * (mn (ji8) 10000)))))) else (some (wrap64 (((ji5) + (ji7)) * ((ji5) + (ji7))))))) = some r := by first | (rw [hji8] at H; exact H) | (simp only [hji8] at H ⊢; exact H)
  have hji8_ : (if a2 < (-10000) then (-10000) else a2) = ji8 := hji8
  obtain ⟨ji9, hji9⟩ : ∃ j_ : Int, (mn (ji8) 10000) = j_ := ⟨_, rfl⟩
  replace H : (if (ji9) ≥ 0 then (some (wrap64 ((wrap64 (((ji5) + (ji7)) * ((ji5) + (ji7)))) + (wrap64 ((ji9) * (ji9)))))) else (if (ji9) > (-10000) then (some (wrap64 ((wrap64 (((ji5) + (ji7)) * ((ji5) + (ji7)))) - (wrap64 ((ji9) * (ji9)))))) else (some (wrap64 (((ji5) + (ji7)) * ((ji5) + (ji7))))))) = some r := by first | (rw [hji9] at H; exact H) | (simp only [hji9] at H ⊢; exact H)
  have hji9_ : (if 10000 < (ji8) then 10000 else (ji8)) = ji9 := hji9
  by_cases c10 : (ji9) ≥ 0
  · rw [if_pos c10] at H
    have c10b0 : decide (0 ≤ (ji9)) = true := decide_eq_true c10
    clear c10
    obtain rfl := Option.some.inj H
    go_enter Try.func12, Try.ntmps12
    go_wp2
    go_ret
    exact ⟨by first | rfl | (simp [errW_none, errW_some] <;> rfl) | (simp only [← hji4, ← hji5, ← hji6, ← hji7, ← hji8, ← hji9]; first | rfl | (simp [errW_none, errW_some] <;> rfl)) | (simp [*, errW_none, errW_some] <;> rfl), by repeat (first | (with_reducible first | exact HB.out | apply below_alloc | apply pw_below_drewN | apply below_drew1) | exact HB.out)⟩
  · rw [if_neg c10] at H
    have c10b0 : decide (0 ≤ (ji9)) = false := decide_eq_false c10
    clear c10
    by_cases c11 : (ji9) > (-10000)
    · rw [if_pos c11] at H
      have c11b0 : decide ((-10000) < (ji9)) = true := decide_eq_true c11
      clear c11
      obtain rfl := Option.some.inj H
      go_enter Try.func12, Try.ntmps12
      go_wp2
      go_ret
      exact ⟨by first | rfl | (simp [errW_none, errW_some] <;> rfl) | (simp only [← hji4, ← hji5, ← hji6, ← hji7, ← hji8, ← hji9]; first | rfl | (simp [errW_none, errW_some] <;> rfl)) | (simp [*, errW_none, errW_some] <;> rfl), by repeat (first | (with_reducible first | exact HB.out | apply below_alloc | apply pw_below_drewN | apply below_drew1) | exact HB.out)⟩
    · rw [if_neg c11] at H
      have c11b0 : decide ((-10000) < (ji9)) = false := decide_eq_false c11
      clear c11
      obtain rfl := Option.some.inj H
      go_enter Try.func12, Try.ntmps12
      go_wp2
      go_ret
      exact ⟨by first | rfl | (simp [errW_none, errW_some] <;> rfl) | (simp only [← hji4, ← hji5, ← hji6, ← hji7, ← hji8, ← hji9]; first | rfl | (simp [errW_none, errW_some] <;> rfl)) | (simp [*, errW_none, errW_some] <;> rfl), by repeat (first | (with_reducible first | exact HB.out | apply below_alloc | apply pw_below_drewN | apply below_drew1) | exact HB.out)⟩

/-! ### badness_Good: function 16 -/
def badness_Good.f (a0_0 : Int) (a0_1 : Int) (a0_2 : Int) (a0_3 : Int) (a0_4 : Int) : Option (Bool) := if 1 ≤ a0_0 then (if a0_0 ≤ 1073741824 then (if 0 ≤ a0_1 then (if a0_1 ≤ 10000 then (if 0 ≤ a0_2 then (if a0_2 ≤ 1000 then (if 0 ≤ a0_3 then (if a0_3 ≤ 1000000 then (if 0 ≤ a0_4 then (some (decide (a0_4 ≤ 1000000))) else (some false)) else (some false)) else (some false)) else (some false)) else (some false)) else (some false)) else (some false)) else (some false)) else (some false)
set_option maxHeartbeats 8000000 in
set_option maxRecDepth 100000 in
theorem badness_Good.calls (a0_0 : Int) (a0_1 : Int) (a0_2 : Int) (a0_3 : Int) (a0_4 : Int) (r : Bool) (w : World) (h : badness_Good.f a0_0 a0_1 a0_2 a0_3 a0_4 = some r) :
    Calls Try.prog 16 #[.agg #[.int .i64 a0_0, .int .i64 a0_1, .int .i64 a0_2, .int .i64 a0_3, .int .i64 a0_4]] w fun e w' => e = .returned (.bool r) ∧ Below w.heap.size w w' := by
  have hu29 := Try.underlying29
  have HB := Aside0.mk (Below.refl w.heap.size w)
  have H : (if 1 ≤ a0_0 then (if a0_0 ≤ 1073741824 then (if 0 ≤ a0_1 then (if a0_1 ≤ 10000 then (if 0 ≤ a0_2 then (if a0_2 ≤ 1000 then (if 0 ≤ a0_3 then (if a0_3 ≤ 1000000 then (if 0 ≤ a0_4 then (some (decide (a0_4 ≤ 1000000))) else (some false)) else (some false)) else (some false)) else (some false)) else (some false)) else (some false)) else (some false)) else (some false)) else (some false)) = some r := h
  clear h
  by_cases c2 : 1 ≤ a0_0
  · rw [if_pos c2] at H
    have c2b0 : decide (1 ≤ a0_0) = true := decide_eq_true c2
    clear c2
    by_cases c3 : a0_0 ≤ 1073741824
    · rw [if_pos c3] at H
      have c3b0 : decide (a0_0 ≤ 1073741824) = true := decide_eq_true c3
      clear c3
      by_cases c4 : 0 ≤ a0_1
      · rw [if_pos c4] at H
        have c4b0 : decide (0 ≤ a0_1) = true := decide_eq_true c4
        clear c4
        by_cases c5 : a0_1 ≤ 10000
        · rw [if_pos c5] at H
          have c5b0 : decide (a0_1 ≤ 10000) = true := decide_eq_true c5
          clear c5
          by_cases c6 : 0 ≤ a0_2
          · rw [if_pos c6] at H
            have c6b0 : decide (0 ≤ a0_2) = true := decide_eq_true c6
            clear c6
            by_cases c7 : a0_2 ≤ 1000
            · rw [if_pos c7] at H
              have c7b0 : decide (a0_2 ≤ 1000) = true := decide_eq_true c7
              clear c7
              by_cases c8 : 0 ≤ a0_3
              · rw [if_pos c8] at H
                have c8b0 : decide (0 ≤ a0_3) = true := decide_eq_true c8
                clear c8
                by_cases c9 : a0_3 ≤ 1000000
                · rw [if_pos c9] at H
                  have c9b0 : decide (a0_3 ≤ 1000000) = true := decide_eq_true c9
                  clear c9
                  by_cases c10 : 0 ≤ a0_4
                  · rw [if_pos c10] at H
                    have c10b0 : decide (0 ≤ a0_4) = true := decide_eq_true c10
                    clear c10
                    obtain rfl := Option.some.inj H
                    go_enter Try.func16, Try.ntmps16
                    go_wp2_with (first | ((with_reducible refine gate_dst (N := 1) rfl ?_); refine box_event ?hg (N := 1) ?hd (cs := #[.int .i64 a0_0, .int .i64 a0_1, .int .i64 a0_2, .int .i64 a0_3, .int .i64 a0_4]) (t := 29) ?hr ?_; (case hd => rfl); (case hg => rfl); (case hr => first | (go_simp; done) | (go_simp; rfl)); intro gb107 hg w11 hbox hb; have n0_ := Aside0.mk (below_step (by repeat (first | (with_reducible first | exact HB.out | apply below_alloc | apply pw_below_drewN | apply below_drew1) | exact HB.out)) hb); have n1_ := Aside0.mk (hbox); have n2_ := Aside0.mk ((by rw [hg]; exact (below_size (by repeat (first | (with_reducible first | exact HB.out | apply below_alloc | apply pw_below_drewN | apply below_drew1) | exact HB.out))) : w.heap.size ≤ gb107)); have n3_ := Aside0.mk ((by rw [hg]; exact (below_size (by repeat (first | (with_reducible first | exact HB.out | apply below_alloc | apply pw_below_drewN | apply below_drew1) | exact HB.out))) : w.heap.size ≤ gb107)); clear HB; have HB := n0_; have BK107 := n1_; have GW107 := n2_; have GE107 := n3_; clear n0_ n1_ n2_ n3_; clear hb hbox hg; have hcz12_0 : w11.cell? ⟨gb107, 0, none⟩ = some (.int .i64 a0_0) := (blk_cell BK107.out 0).trans rfl; have hcz12_1 : w11.cell? ⟨gb107, 1, none⟩ = some (.int .i64 a0_1) := (blk_cell BK107.out 1).trans rfl; have hcz12_2 : w11.cell? ⟨gb107, 2, none⟩ = some (.int .i64 a0_2) := (blk_cell BK107.out 2).trans rfl; have hcz12_3 : w11.cell? ⟨gb107, 3, none⟩ = some (.int .i64 a0_3) := (blk_cell BK107.out 3).trans rfl; have hcz12_4 : w11.cell? ⟨gb107, 4, none⟩ = some (.int .i64 a0_4) := (blk_cell BK107.out 4).trans rfl; have hfz12_0 := blk_frozen BK107.out 0; have hfz12_1 := blk_frozen BK107.out 1; have hfz12_2 := blk_frozen BK107.out 2; have hfz12_3 := blk_frozen BK107.out 3; have hfz12_4 := blk_frozen BK107.out 4))
                    go_ret
                    exact ⟨by first | rfl | (simp [errW_none, errW_some] <;> rfl) | (simp [*, errW_none, errW_some] <;> rfl), by repeat (first | (with_reducible first | exact HB.out | apply below_alloc | apply pw_below_drewN | apply below_drew1 | refine below_set ?_ GE107.out) | exact HB.out)⟩
                  · rw [if_neg c10] at H
                    have c10b0 : decide (0 ≤ a0_4) = false := decide_eq_false c10
                    clear c10
                    obtain rfl := Option.some.inj H
                    go_enter Try.func16, Try.ntmps16
                    go_wp2_with (first | ((with_reducible refine gate_dst (N := 1) rfl ?_); refine box_event ?hg (N := 1) ?hd (cs := #[.int .i64 a0_0, .int .i64 a0_1, .int .i64 a0_2, .int .i64 a0_3, .int .i64 a0_4]) (t := 29) ?hr ?_; (case hd => rfl); (case hg => rfl); (case hr => first | (go_simp; done) | (go_simp; rfl)); intro gb107 hg w13 hbox hb; have n0_ := Aside0.mk (below_step (by repeat (first | (with_reducible first | exact HB.out | apply below_alloc | apply pw_below_drewN | apply below_drew1) | exact HB.out)) hb); have n1_ := Aside0.mk (hbox); have n2_ := Aside0.mk ((by rw [hg]; exact (below_size (by repeat (first | (with_reducible first | exact HB.out | apply below_alloc | apply pw_below_drewN | apply below_drew1) | exact HB.out))) : w.heap.size ≤ gb107)); have n3_ := Aside0.mk ((by rw [hg]; exact (below_size (by repeat (first | (with_reducible first | exact HB.out | apply below_alloc | apply pw_below_drewN | apply below_drew1) | exact HB.out))) : w.heap.size ≤ gb107)); clear HB; have HB := n0_; have BK107 := n1_; have GW107 := n2_; have GE107 := n3_; clear n0_ n1_ n2_ n3_; clear hb hbox hg; have hcz14_0 : w13.cell? ⟨gb107, 0, none⟩ = some (.int .i64 a0_0) := (blk_cell BK107.out 0).trans rfl; have hcz14_1 : w13.cell? ⟨gb107, 1, none⟩ = some (.int .i64 a0_1) := (blk_cell BK107.out 1).trans rfl; have hcz14_2 : w13.cell? ⟨gb107, 2, none⟩ = some (.int .i64 a0_2) := (blk_cell BK107.out 2).trans rfl; have hcz14_3 : w13.cell? ⟨gb107, 3, none⟩ = some (.int .i64 a0_3) := (blk_cell BK107.out 3).trans rfl; have hcz14_4 : w13.cell? ⟨gb107, 4, none⟩ = some (.int .i64 a0_4) := (blk_cell BK107.out 4).trans rfl; have hfz14_0 := blk_frozen BK107.out 0; have hfz14_1 := blk_frozen BK107.out 1; have hfz14_2 := blk_frozen BK107.out 2; have hfz14_3 := blk_frozen BK107.out 3; have hfz14_4 := blk_frozen BK107.out 4))
                    go_ret
                    exact ⟨by first | rfl | (simp [errW_none, errW_some] <;> rfl) | (simp [*, errW_none, errW_some] <;> rfl), by repeat (first | (with_reducible first | exact HB.out | apply below_alloc | apply pw_below_drewN | apply below_drew1 | refine below_set ?_ GE107.out) | exact HB.out)⟩
                · rw [if_neg c9] at H
                  have c9b0 : decide (a0_3 ≤ 1000000) = false := decide_eq_false c9
                  clear c9
                  obtain rfl := Option.some.inj H
                  go_enter Try.func16, Try.ntmps16
                  go_wp2_with (first | ((with_reducible refine gate_dst (N := 1) rfl ?_); refine box_event ?hg (N := 1) ?hd (cs := #[.int .i64 a0_0, .int .i64 a0_1, .int .i64 a0_2, .int .i64 a0_3, .int .i64 a0_4]) (t := 29) ?hr ?_; (case hd => rfl); (case hg => rfl); (case hr => first | (go_simp; done) | (go_simp; rfl)); intro gb107 hg w15 hbox hb; have n0_ := Aside0.mk (below_step (by repeat (first | (with_reducible first | exact HB.out | apply below_alloc | apply pw_below_drewN | apply below_drew1) | exact HB.out)) hb); have n1_ := Aside0.mk (hbox); have n2_ := Aside0.mk ((by rw [hg]; exact (below_size (by repeat (first | (with_reducible first | exact HB.out | apply below_alloc | apply pw_below_drewN | apply below_drew1) | exact HB.out))) : w.heap.size ≤ gb107)); have n3_ := Aside0.mk ((by rw [hg]; exact (below_size (by repeat (first | (with_reducible first | exact HB.out | apply below_alloc | apply pw_below_drewN | apply below_drew1) | exact HB.out))) : w.heap.size ≤ gb107)); clear HB; have HB := n0_; have BK107 := n1_; have GW107 := n2_; have GE107 := n3_; clear n0_ n1_ n2_ n3_; clear hb hbox hg; have hcz16_0 : w15.cell? ⟨gb107, 0, none⟩ = some (.int .i64 a0_0) := (blk_cell BK107.out 0).trans rfl; have hcz16_1 : w15.cell? ⟨gb107, 1, none⟩ = some (.int .i64 a0_1) := (blk_cell BK107.out 1).trans rfl; have hcz16_2 : w15.cell? ⟨gb107, 2, none⟩ = some (.int .i64 a0_2) := (blk_cell BK107.out 2).trans rfl; have hcz16_3 : w15.cell? ⟨gb107, 3, none⟩ = some (.int .i64 a0_3) := (blk_cell BK107.out 3).trans rfl; have hcz16_4 : w15.cell? ⟨gb107, 4, none⟩ = some (.int .i64 a0_4) := (blk_cell BK107.out 4).trans rfl; have hfz16_0 := blk_frozen BK107.out 0; have hfz16_1 := blk_frozen BK107.out 1; have hfz16_2 := blk_frozen BK107.out 2; have hfz16_3 := blk_frozen BK107.out 3; have hfz16_4 := blk_frozen BK107.out 4))
                  go_ret
                  exact ⟨by first | rfl | (simp [errW_none, errW_some] <;> rfl) | (simp [*, errW_none, errW_some] <;> rfl), by repeat (first | (with_reducible first | exact HB.out | apply below_alloc | apply pw_below_drewN | apply below_drew1 | refine below_set ?_ GE107.out) | exact HB.out)⟩
              · rw [if_neg c8] at H
                have c8b0 : decide (0 ≤ a0_3) = false := decide_eq_false c8
                clear c8
                obtain rfl := Option.some.inj H
                go_enter Try.func16, Try.ntmps16
                go_wp2_with (first | ((with_reducible refine gate_dst (N := 1) rfl ?_); refine box_event ?hg (N := 1) ?hd (cs := #[.int .i64 a0_0, .int .i64 a0_1, .int .i64 a0_2, .int .i64 a0_3, .int .i64 a0_4]) (t := 29) ?hr ?_; (case hd => rfl); (case hg => rfl); (case hr => first | (go_simp; done) | (go_simp; rfl)); intro gb107 hg w17 hbox hb; have n0_ := Aside0.mk (below_step (by repeat (first | (with_reducible first | exact HB.out | apply below_alloc | apply pw_below_drewN | apply below_drew1) | exact HB.out)) hb); have n1_ := Aside0.mk (hbox); have n2_ := Aside0.mk ((by rw [hg]; exact (below_size (by repeat (first | (with_reducible first | exact HB.out | apply below_alloc | apply pw_below_drewN | apply below_drew1) | exact HB.out))) : w.heap.size ≤ gb107)); have n3_ := Aside0.mk ((by rw [hg]; exact (below_size (by repeat (first | (with_reducible first | exact HB.out | apply below_alloc | apply pw_below_drewN | apply below_drew1) | exact HB.out))) : w.heap.size ≤ gb107)); clear HB; have HB := n0_; have BK107 := n1_; have GW107 := n2_; have GE107 := n3_; clear n0_ n1_ n2_ n3_; clear hb hbox hg; have hcz18_0 : w17.cell? ⟨gb107, 0, none⟩ = some (.int .i64 a0_0) := (blk_cell BK107.out 0).trans rfl; have hcz18_1 : w17.cell? ⟨gb107, 1, none⟩ = some (.int .i64 a0_1) := (blk_cell BK107.out 1).trans rfl; have hcz18_2 : w17.cell? ⟨gb107, 2, none⟩ = some (.int .i64 a0_2) := (blk_cell BK107.out 2).trans rfl; have hcz18_3 : w17.cell? ⟨gb107, 3, none⟩ = some (.int .i64 a0_3) := (blk_cell BK107.out 3).trans rfl; have hcz18_4 : w17.cell? ⟨gb107, 4, none⟩ = some (.int .i64 a0_4) := (blk_cell BK107.out 4).trans rfl; have hfz18_0 := blk_frozen BK107.out 0; have hfz18_1 := blk_frozen BK107.out 1; have hfz18_2 := blk_frozen BK107.out 2; have hfz18_3 := blk_frozen BK107.out 3; have hfz18_4 := blk_frozen BK107.out 4))
                go_ret
                exact ⟨by first | rfl | (simp [errW_none, errW_some] <;> rfl) | (simp [*, errW_none, errW_some] <;> rfl), by repeat (first | (with_reducible first | exact HB.out | apply below_alloc | apply pw_below_drewN | apply below_drew1 | refine below_set ?_ GE107.out) | exact HB.out)⟩
            · rw [if_neg c7] at H
              have c7b0 : decide (a0_2 ≤ 1000) = false := decide_eq_false c7
              clear c7
              obtain rfl := Option.some.inj H
              go_enter Try.func16, Try.ntmps16
              go_wp2_with (first | ((with_reducible refine gate_dst (N := 1) rfl ?_); refine box_event ?hg (N := 1) ?hd (cs := #[.int .i64 a0_0, .int .i64 a0_1, .int .i64 a0_2, .int .i64 a0_3, .int .i64 a0_4]) (t := 29) ?hr ?_; (case hd => rfl); (case hg => rfl); (case hr => first | (go_simp; done) | (go_simp; rfl)); intro gb107 hg w19 hbox hb; have n0_ := Aside0.mk (below_step (by repeat (first | (with_reducible first | exact HB.out | apply below_alloc | apply pw_below_drewN | apply below_drew1) | exact HB.out)) hb); have n1_ := Aside0.mk (hbox); have n2_ := Aside0.mk ((by rw [hg]; exact (below_size (by repeat (first | (with_reducible first | exact HB.out | apply below_alloc | apply pw_below_drewN | apply below_drew1) | exact HB.out))) : w.heap.size ≤ gb107)); have n3_ := Aside0.mk ((by rw [hg]; exact (below_size (by repeat (first | (with_reducible first | exact HB.out | apply below_alloc | apply pw_below_drewN | apply below_drew1) | exact HB.out))) : w.heap.size ≤ gb107)); clear HB; have HB := n0_; have BK107 := n1_; have GW107 := n2_; have GE107 := n3_; clear n0_ n1_ n2_ n3_; clear hb hbox hg; have hcz20_0 : w19.cell? ⟨gb107, 0, none⟩ = some (.int .i64 a0_0) := (blk_cell BK107.out 0).trans rfl; have hcz20_1 : w19.cell? ⟨gb107, 1, none⟩ = some (.int .i64 a0_1) := (blk_cell BK107.out 1).trans rfl; have hcz20_2 : w19.cell? ⟨gb107, 2, none⟩ = some (.int .i64 a0_2) := (blk_cell BK107.out 2).trans rfl; have hcz20_3 : w19.cell? ⟨gb107, 3, none⟩ = some (.int .i64 a0_3) := (blk_cell BK107.out 3).trans rfl; have hcz20_4 : w19.cell? ⟨gb107, 4, none⟩ = some (.int .i64 a0_4) := (blk_cell BK107.out 4).trans rfl; have hfz20_0 := blk_frozen BK107.out 0; have hfz20_1 := blk_frozen BK107.out 1; have hfz20_2 := blk_frozen BK107.out 2; have hfz20_3 := blk_frozen BK107.out 3; have hfz20_4 := blk_frozen BK107.out 4))
              go_ret
              exact ⟨by first | rfl | (simp [errW_none, errW_some] <;> rfl) | (simp [*, errW_none, errW_some] <;> rfl), by repeat (first | (with_reducible first | exact HB.out | apply below_alloc | apply pw_below_drewN | apply below_drew1 | refine below_set ?_ GE107.out) | exact HB.out)⟩
          · rw [if_neg c6] at H
            have c6b0 : decide (0 ≤ a0_2) = false := decide_eq_false c6
            clear c6
            obtain rfl := Option.some.inj H
            go_enter Try.func16, Try.ntmps16
            go_wp2_with (first | ((with_reducible refine gate_dst (N := 1) rfl ?_); refine box_event ?hg (N := 1) ?hd (cs := #[.int .i64 a0_0, .int .i64 a0_1, .int .i64 a0_2, .int .i64 a0_3, .int .i64 a0_4]) (t := 29) ?hr ?_; (case hd => rfl); (case hg => rfl); (case hr => first | (go_simp; done) | (go_simp; rfl)); intro gb107 hg w21 hbox hb; have n0_ := Aside0.mk (below_step (by repeat (first | (with_reducible first | exact HB.out | apply below_alloc | apply pw_below_drewN | apply below_drew1) | exact HB.out)) hb); have n1_ := Aside0.mk (hbox); have n2_ := Aside0.mk ((by rw [hg]; exact (below_size (by repeat (first | (with_reducible first | exact HB.out | apply below_alloc | apply pw_below_drewN | apply below_drew1) | exact HB.out))) : w.heap.size ≤ gb107)); have n3_ := Aside0.mk ((by rw [hg]; exact (below_size (by repeat (first | (with_reducible first | exact HB.out | apply below_alloc | apply pw_below_drewN | apply below_drew1) | exact HB.out))) : w.heap.size ≤ gb107)); clear HB; have HB := n0_; have BK107 := n1_; have GW107 := n2_; have GE107 := n3_; clear n0_ n1_ n2_ n3_; clear hb hbox hg; have hcz22_0 : w21.cell? ⟨gb107, 0, none⟩ = some (.int .i64 a0_0) := (blk_cell BK107.out 0).trans rfl; have hcz22_1 : w21.cell? ⟨gb107, 1, none⟩ = some (.int .i64 a0_1) := (blk_cell BK107.out 1).trans rfl; have hcz22_2 : w21.cell? ⟨gb107, 2, none⟩ = some (.int .i64 a0_2) := (blk_cell BK107.out 2).trans rfl; have hcz22_3 : w21.cell? ⟨gb107, 3, none⟩ = some (.int .i64 a0_3) := (blk_cell BK107.out 3).trans rfl; have hcz22_4 : w21.cell? ⟨gb107, 4, none⟩ = some (.int .i64 a0_4) := (blk_cell BK107.out 4).trans rfl; have hfz22_0 := blk_frozen BK107.out 0; have hfz22_1 := blk_frozen BK107.out 1; have hfz22_2 := blk_frozen BK107.out 2; have hfz22_3 := blk_frozen BK107.out 3; have hfz22_4 := blk_frozen BK107.out 4))
            go_ret
            exact ⟨by first | rfl | (simp [errW_none, errW_some] <;> rfl) | (simp [*, errW_none, errW_some] <;> rfl), by repeat (first | (with_reducible first | exact HB.out | apply below_alloc | apply pw_below_drewN | apply below_drew1 | refine below_set ?_ GE107.out) | exact HB.out)⟩
        · rw [if_neg c5] at H
          have c5b0 : decide (a0_1 ≤ 10000) = false := decide_eq_false c5
          clear c5
          obtain rfl := Option.some.inj H
          go_enter Try.func16, Try.ntmps16
          go_wp2_with (first | ((with_reducible refine gate_dst (N := 1) rfl ?_); refine box_event ?hg (N := 1) ?hd (cs := #[.int .i64 a0_0, .int .i64 a0_1, .int .i64 a0_2, .int .i64 a0_3, .int .i64 a0_4]) (t := 29) ?hr ?_; (case hd => rfl); (case hg => rfl); (case hr => first | (go_simp; done) | (go_simp; rfl)); intro gb107 hg w23 hbox hb; have n0_ := Aside0.mk (below_step (by repeat (first | (with_reducible first | exact HB.out | apply below_alloc | apply pw_below_drewN | apply below_drew1) | exact HB.out)) hb); have n1_ := Aside0.mk (hbox); have n2_ := Aside0.mk ((by rw [hg]; exact (below_size (by repeat (first | (with_reducible first | exact HB.out | apply below_alloc | apply pw_below_drewN | apply below_drew1) | exact HB.out))) : w.heap.size ≤ gb107)); have n3_ := Aside0.mk ((by rw [hg]; exact (below_size (by repeat (first | (with_reducible first | exact HB.out | apply below_alloc | apply pw_below_drewN | apply below_drew1) | exact HB.out))) : w.heap.size ≤ gb107)); clear HB; have HB := n0_; have BK107 := n1_; have GW107 := n2_; have GE107 := n3_; clear n0_ n1_ n2_ n3_; clear hb hbox hg; have hcz24_0 : w23.cell? ⟨gb107, 0, none⟩ = some (.int .i64 a0_0) := (blk_cell BK107.out 0).trans rfl; have hcz24_1 : w23.cell? ⟨gb107, 1, none⟩ = some (.int .i64 a0_1) := (blk_cell BK107.out 1).trans rfl; have hcz24_2 : w23.cell? ⟨gb107, 2, none⟩ = some (.int .i64 a0_2) := (blk_cell BK107.out 2).trans rfl; have hcz24_3 : w23.cell? ⟨gb107, 3, none⟩ = some (.int .i64 a0_3) := (blk_cell BK107.out 3).trans rfl; have hcz24_4 : w23.cell? ⟨gb107, 4, none⟩ = some (.int .i64 a0_4) := (blk_cell BK107.out 4).trans rfl; have hfz24_0 := blk_frozen BK107.out 0; have hfz24_1 := blk_frozen BK107.out 1; have hfz24_2 := blk_frozen BK107.out 2; have hfz24_3 := blk_frozen BK107.out 3; have hfz24_4 := blk_frozen BK107.out 4))
          go_ret
          exact ⟨by first | rfl | (simp [errW_none, errW_some] <;> rfl) | (simp [*, errW_none, errW_some] <;> rfl), by repeat (first | (with_reducible first | exact HB.out | apply below_alloc | apply pw_below_drewN | apply below_drew1 | refine below_set ?_ GE107.out) | exact HB.out)⟩
      · rw [if_neg c4] at H
        have c4b0 : decide (0 ≤ a0_1) = false := decide_eq_false c4
        clear c4
        obtain rfl := Option.some.inj H
        go_enter Try.func16, Try.ntmps16
        go_wp2_with (first | ((with_reducible refine gate_dst (N := 1) rfl ?_); refine box_event ?hg (N := 1) ?hd (cs := #[.int .i64 a0_0, .int .i64 a0_1, .int .i64 a0_2, .int .i64 a0_3, .int .i64 a0_4]) (t := 29) ?hr ?_; (case hd => rfl); (case hg => rfl); (case hr => first | (go_simp; done) | (go_simp; rfl)); intro gb107 hg w25 hbox hb; have n0_ := Aside0.mk (below_step (by repeat (first | (with_reducible first | exact HB.out | apply below_alloc | apply pw_below_drewN | apply below_drew1) | exact HB.out)) hb); have n1_ := Aside0.mk (hbox); have n2_ := Aside0.mk ((by rw [hg]; exact (below_size (by repeat (first | (with_reducible first | exact HB.out | apply below_alloc | apply pw_below_drewN | apply below_drew1) | exact HB.out))) : w.heap.size ≤ gb107)); have n3_ := Aside0.mk ((by rw [hg]; exact (below_size (by repeat (first | (with_reducible first | exact HB.out | apply below_alloc | apply pw_below_drewN | apply below_drew1) | exact HB.out))) : w.heap.size ≤ gb107)); clear HB; have HB := n0_; have BK107 := n1_; have GW107 := n2_; have GE107 := n3_; clear n0_ n1_ n2_ n3_; clear hb hbox hg; have hcz26_0 : w25.cell? ⟨gb107, 0, none⟩ = some (.int .i64 a0_0) := (blk_cell BK107.out 0).trans rfl; have hcz26_1 : w25.cell? ⟨gb107, 1, none⟩ = some (.int .i64 a0_1) := (blk_cell BK107.out 1).trans rfl; have hcz26_2 : w25.cell? ⟨gb107, 2, none⟩ = some (.int .i64 a0_2) := (blk_cell BK107.out 2).trans rfl; have hcz26_3 : w25.cell? ⟨gb107, 3, none⟩ = some (.int .i64 a0_3) := (blk_cell BK107.out 3).trans rfl; have hcz26_4 : w25.cell? ⟨gb107, 4, none⟩ = some (.int .i64 a0_4) := (blk_cell BK107.out 4).trans rfl; have hfz26_0 := blk_frozen BK107.out 0; have hfz26_1 := blk_frozen BK107.out 1; have hfz26_2 := blk_frozen BK107.out 2; have hfz26_3 := blk_frozen BK107.out 3; have hfz26_4 := blk_frozen BK107.out 4))
        go_ret
        exact ⟨by first | rfl | (simp [errW_none, errW_some] <;> rfl) | (simp [*, errW_none, errW_some] <;> rfl), by repeat (first | (with_reducible first | exact HB.out | apply below_alloc | apply pw_below_drewN | apply below_drew1 | refine below_set ?_ GE107.out) | exact HB.out)⟩
    · rw [if_neg c3] at H
      have c3b0 : decide (a0_0 ≤ 1073741824) = false := decide_eq_false c3
      clear c3
      obtain rfl := Option.some.inj H
      go_enter Try.func16, Try.ntmps16
      go_wp2_with (first | ((with_reducible refine gate_dst (N := 1) rfl ?_); refine box_event ?hg (N := 1) ?hd (cs := #[.int .i64 a0_0, .int .i64 a0_1, .int .i64 a0_2, .int .i64 a0_3, .int .i64 a0_4]) (t := 29) ?hr ?_; (case hd => rfl); (case hg => rfl); (case hr => first | (go_simp; done) | (go_simp; rfl)); intro gb107 hg w27 hbox hb; have n0_ := Aside0.mk (below_step (by repeat (first | (with_reducible first | exact HB.out | apply below_alloc | apply pw_below_drewN | apply below_drew1) | exact HB.out)) hb); have n1_ := Aside0.mk (hbox); have n2_ := Aside0.mk ((by rw [hg]; exact (below_size (by repeat (first | (with_reducible first | exact HB.out | apply below_alloc | apply pw_below_drewN | apply below_drew1) | exact HB.out))) : w.heap.size ≤ gb107)); have n3_ := Aside0.mk ((by rw [hg]; exact (below_size (by repeat (first | (with_reducible first | exact HB.out | apply below_alloc | apply pw_below_drewN | apply below_drew1) | exact HB.out))) : w.heap.size ≤ gb107)); clear HB; have HB := n0_; have BK107 := n1_; have GW107 := n2_; have GE107 := n3_; clear n0_ n1_ n2_ n3_; clear hb hbox hg; have hcz28_0 : w27.cell? ⟨gb107, 0, none⟩ = some (.int .i64 a0_0) := (blk_cell BK107.out 0).trans rfl; have hcz28_1 : w27.cell? ⟨gb107, 1, none⟩ = some (.int .i64 a0_1) := (blk_cell BK107.out 1).trans rfl; have hcz28_2 : w27.cell? ⟨gb107, 2, none⟩ = some (.int .i64 a0_2) := (blk_cell BK107.out 2).trans rfl; have hcz28_3 : w27.cell? ⟨gb107, 3, none⟩ = some (.int .i64 a0_3) := (blk_cell BK107.out 3).trans rfl; have hcz28_4 : w27.cell? ⟨gb107, 4, none⟩ = some (.int .i64 a0_4) := (blk_cell BK107.out 4).trans rfl; have hfz28_0 := blk_frozen BK107.out 0; have hfz28_1 := blk_frozen BK107.out 1; have hfz28_2 := blk_frozen BK107.out 2; have hfz28_3 := blk_frozen BK107.out 3; have hfz28_4 := blk_frozen BK107.out 4))
      go_ret
      exact ⟨by first | rfl | (simp [errW_none, errW_some] <;> rfl) | (simp [*, errW_none, errW_some] <;> rfl), by repeat (first | (with_reducible first | exact HB.out | apply below_alloc | apply pw_below_drewN | apply below_drew1 | refine below_set ?_ GE107.out) | exact HB.out)⟩
  · rw [if_neg c2] at H
    have c2b0 : decide (1 ≤ a0_0) = false := decide_eq_false c2
    clear c2
    obtain rfl := Option.some.inj H
    go_enter Try.func16, Try.ntmps16
    go_wp2_with (first | ((with_reducible refine gate_dst (N := 1) rfl ?_); refine box_event ?hg (N := 1) ?hd (cs := #[.int .i64 a0_0, .int .i64 a0_1, .int .i64 a0_2, .int .i64 a0_3, .int .i64 a0_4]) (t := 29) ?hr ?_; (case hd => rfl); (case hg => rfl); (case hr => first | (go_simp; done) | (go_simp; rfl)); intro gb107 hg w29 hbox hb; have n0_ := Aside0.mk (below_step (by repeat (first | (with_reducible first | exact HB.out | apply below_alloc | apply pw_below_drewN | apply below_drew1) | exact HB.out)) hb); have n1_ := Aside0.mk (hbox); have n2_ := Aside0.mk ((by rw [hg]; exact (below_size (by repeat (first | (with_reducible first | exact HB.out | apply below_alloc | apply pw_below_drewN | apply below_drew1) | exact HB.out))) : w.heap.size ≤ gb107)); have n3_ := Aside0.mk ((by rw [hg]; exact (below_size (by repeat (first | (with_reducible first | exact HB.out | apply below_alloc | apply pw_below_drewN | apply below_drew1) | exact HB.out))) : w.heap.size ≤ gb107)); clear HB; have HB := n0_; have BK107 := n1_; have GW107 := n2_; have GE107 := n3_; clear n0_ n1_ n2_ n3_; clear hb hbox hg; have hcz30_0 : w29.cell? ⟨gb107, 0, none⟩ = some (.int .i64 a0_0) := (blk_cell BK107.out 0).trans rfl; have hcz30_1 : w29.cell? ⟨gb107, 1, none⟩ = some (.int .i64 a0_1) := (blk_cell BK107.out 1).trans rfl; have hcz30_2 : w29.cell? ⟨gb107, 2, none⟩ = some (.int .i64 a0_2) := (blk_cell BK107.out 2).trans rfl; have hcz30_3 : w29.cell? ⟨gb107, 3, none⟩ = some (.int .i64 a0_3) := (blk_cell BK107.out 3).trans rfl; have hcz30_4 : w29.cell? ⟨gb107, 4, none⟩ = some (.int .i64 a0_4) := (blk_cell BK107.out 4).trans rfl; have hfz30_0 := blk_frozen BK107.out 0; have hfz30_1 := blk_frozen BK107.out 1; have hfz30_2 := blk_frozen BK107.out 2; have hfz30_3 := blk_frozen BK107.out 3; have hfz30_4 := blk_frozen BK107.out 4))
    go_ret
    exact ⟨by first | rfl | (simp [errW_none, errW_some] <;> rfl) | (simp [*, errW_none, errW_some] <;> rfl), by repeat (first | (with_reducible first | exact HB.out | apply below_alloc | apply pw_below_drewN | apply below_drew1 | refine below_set ?_ GE107.out) | exact HB.out)⟩

/-! ### colophonlaw23_wakes: function 11 -/
def colophonlaw23_wakes.f  : Option (Bool) := (badness_Bad.f 5 5).bind fun t108 => (if t108 = 100 then ((badness_Bad.f 1 0).bind fun t109 => (if t109 = 10000 then ((badness_Class.f 3 4 false).bind fun t110 => (if t110 = 2 then ((badness_Line.f 10 12 (-50)).bind fun t111 => (if t111 = (-2016) then ((badness_Good.f 1 0 0 0 0).bind fun t112 => (some t112)) else (some false))) else (some false))) else (some false))) else (some false))
set_option maxHeartbeats 8000000 in
set_option maxRecDepth 100000 in
theorem colophonlaw23_wakes.calls  (r : Bool) (w : World) (h : colophonlaw23_wakes.f  = some r) :
    Calls Try.prog 11 #[] w fun e w' => e = .returned (.bool r) ∧ Below w.heap.size w w' := by
  have hu29 := Try.underlying29
  have HB := Aside0.mk (Below.refl w.heap.size w)
  have H : ((badness_Bad.f 5 5).bind fun t108 => (if t108 = 100 then ((badness_Bad.f 1 0).bind fun t109 => (if t109 = 10000 then ((badness_Class.f 3 4 false).bind fun t110 => (if t110 = 2 then ((badness_Line.f 10 12 (-50)).bind fun t111 => (if t111 = (-2016) then ((badness_Good.f 1 0 0 0 0).bind fun t112 => (some t112)) else (some false))) else (some false))) else (some false))) else (some false))) = some r := h
  clear h
  replace H := Option.bind_eq_some_iff.mp H
  obtain ⟨t108, A10, H⟩ := H
  replace H : (if t108 = 100 then ((badness_Bad.f 1 0).bind fun t109 => (if t109 = 10000 then ((badness_Class.f 3 4 false).bind fun t110 => (if t110 = 2 then ((badness_Line.f 10 12 (-50)).bind fun t111 => (if t111 = (-2016) then ((badness_Good.f 1 0 0 0 0).bind fun t112 => (some t112)) else (some false))) else (some false))) else (some false))) else (some false)) = some r := H
  have A1 := Aside0.mk A10
  clear A10
  by_cases c2 : t108 = 100
  · rw [if_pos c2] at H
    have c2b0 : (t108 == 100) = true := beq_iff_eq.mpr c2
    have c2b1 : (t108 != 100) = false := bne_eq_false_iff_eq.mpr c2
    clear c2
    replace H := Option.bind_eq_some_iff.mp H
    obtain ⟨t109, A30, H⟩ := H
    replace H : (if t109 = 10000 then ((badness_Class.f 3 4 false).bind fun t110 => (if t110 = 2 then ((badness_Line.f 10 12 (-50)).bind fun t111 => (if t111 = (-2016) then ((badness_Good.f 1 0 0 0 0).bind fun t112 => (some t112)) else (some false))) else (some false))) else (some false)) = some r := H
    have A3 := Aside0.mk A30
    clear A30
    by_cases c4 : t109 = 10000
    · rw [if_pos c4] at H
      have c4b0 : (t109 == 10000) = true := beq_iff_eq.mpr c4
      have c4b1 : (t109 != 10000) = false := bne_eq_false_iff_eq.mpr c4
      clear c4
      replace H := Option.bind_eq_some_iff.mp H
      obtain ⟨t110, A50, H⟩ := H
      replace H : (if t110 = 2 then ((badness_Line.f 10 12 (-50)).bind fun t111 => (if t111 = (-2016) then ((badness_Good.f 1 0 0 0 0).bind fun t112 => (some t112)) else (some false))) else (some false)) = some r := H
      have A5 := Aside0.mk A50
      clear A50
      by_cases c6 : t110 = 2
      · rw [if_pos c6] at H
        have c6b0 : (t110 == 2) = true := beq_iff_eq.mpr c6
        have c6b1 : (t110 != 2) = false := bne_eq_false_iff_eq.mpr c6
        clear c6
        replace H := Option.bind_eq_some_iff.mp H
        obtain ⟨t111, A70, H⟩ := H
        replace H : (if t111 = (-2016) then ((badness_Good.f 1 0 0 0 0).bind fun t112 => (some t112)) else (some false)) = some r := H
        have A7 := Aside0.mk A70
        clear A70
        by_cases c8 : t111 = (-2016)
        · rw [if_pos c8] at H
          have c8b0 : (t111 == (-2016)) = true := beq_iff_eq.mpr c8
          have c8b1 : (t111 != (-2016)) = false := bne_eq_false_iff_eq.mpr c8
          clear c8
          replace H := Option.bind_eq_some_iff.mp H
          obtain ⟨t112, A90, H⟩ := H
          replace H : (some t112) = some r := H
          have A9 := Aside0.mk A90
          clear A90
          obtain rfl := Option.some.inj H
          go_enter Try.func11, Try.ntmps11
          go_wp2_with (first | ((with_reducible refine gate_callee (f := 7) rfl ?_); refine goesL_ (some 1) rfl rfl Try.func7 (by kernel_rfl) rfl #[.int .i64 5, .int .i64 5] rfl (by (try simp only [List.map_toArray, List.map_cons, List.map_nil]); first | done | rfl | (simp only [List.length_drop, List.length_take]; rfl)) ?_; (with_reducible refine (badness_Bad.calls 5 5 t108 _ A1.out).mono ?_); rintro e w10 ⟨rfl, hb⟩; refine ⟨_, rfl, ?_⟩; have n0_ := Aside0.mk (below_step (by repeat (first | (with_reducible first | exact HB.out | apply below_alloc | apply pw_below_drewN | apply below_drew1) | exact HB.out)) hb); clear HB; have HB := n0_; clear n0_; (try clear hb); (try clear hb2); (try clear hk); (try clear hi)) | (go_at_call 7; (with_reducible refine (badness_Bad.calls 1 0 t109 _ A3.out).mono ?_); rintro e w11 ⟨rfl, hb⟩; have n0_ := Aside0.mk (below_step (by repeat (first | (with_reducible first | exact HB.out | apply below_alloc | apply pw_below_drewN | apply below_drew1) | exact HB.out)) hb); clear HB; have HB := n0_; clear n0_; (try clear hb); (try clear hb2); (try clear hk); (try clear hi)) | (go_at_call 9; (with_reducible refine (badness_Class.calls 3 4 false t110 _ A5.out).mono ?_); rintro e w12 ⟨rfl, hb⟩; have n0_ := Aside0.mk (below_step (by repeat (first | (with_reducible first | exact HB.out | apply below_alloc | apply pw_below_drewN | apply below_drew1) | exact HB.out)) hb); clear HB; have HB := n0_; clear n0_; (try clear hb); (try clear hb2); (try clear hk); (try clear hi)) | (go_at_call 12; (with_reducible refine (badness_Line.calls 10 12 (-50) t111 _ A7.out).mono ?_); rintro e w13 ⟨rfl, hb⟩; have n0_ := Aside0.mk (below_step (by repeat (first | (with_reducible first | exact HB.out | apply below_alloc | apply pw_below_drewN | apply below_drew1) | exact HB.out)) hb); clear HB; have HB := n0_; clear n0_; (try clear hb); (try clear hb2); (try clear hk); (try clear hi)) | (go_at_call 16; (with_reducible refine (badness_Good.calls 1 0 0 0 0 t112 _ A9.out).mono ?_); rintro e w14 ⟨rfl, hb⟩; have n0_ := Aside0.mk (below_step (by repeat (first | (with_reducible first | exact HB.out | apply below_alloc | apply pw_below_drewN | apply below_drew1) | exact HB.out)) hb); clear HB; have HB := n0_; clear n0_; (try clear hb); (try clear hb2); (try clear hk); (try clear hi)))
          go_ret
          exact ⟨by first | rfl | (simp [errW_none, errW_some] <;> rfl) | (simp [*, errW_none, errW_some] <;> rfl), by repeat (first | (with_reducible first | exact HB.out | apply below_alloc | apply pw_below_drewN | apply below_drew1) | exact HB.out)⟩
        · rw [if_neg c8] at H
          have c8b0 : (t111 == (-2016)) = false := beq_eq_false_iff_ne.mpr c8
          have c8b1 : (t111 != (-2016)) = true := bne_iff_ne.mpr c8
          obtain rfl := Option.some.inj H
          go_enter Try.func11, Try.ntmps11
          go_wp2_with (first | ((with_reducible refine gate_callee (f := 7) rfl ?_); refine goesL_ (some 1) rfl rfl Try.func7 (by kernel_rfl) rfl #[.int .i64 5, .int .i64 5] rfl (by (try simp only [List.map_toArray, List.map_cons, List.map_nil]); first | done | rfl | (simp only [List.length_drop, List.length_take]; rfl)) ?_; (with_reducible refine (badness_Bad.calls 5 5 t108 _ A1.out).mono ?_); rintro e w15 ⟨rfl, hb⟩; refine ⟨_, rfl, ?_⟩; have n0_ := Aside0.mk (below_step (by repeat (first | (with_reducible first | exact HB.out | apply below_alloc | apply pw_below_drewN | apply below_drew1) | exact HB.out)) hb); clear HB; have HB := n0_; clear n0_; (try clear hb); (try clear hb2); (try clear hk); (try clear hi)) | (go_at_call 7; (with_reducible refine (badness_Bad.calls 1 0 t109 _ A3.out).mono ?_); rintro e w16 ⟨rfl, hb⟩; have n0_ := Aside0.mk (below_step (by repeat (first | (with_reducible first | exact HB.out | apply below_alloc | apply pw_below_drewN | apply below_drew1) | exact HB.out)) hb); clear HB; have HB := n0_; clear n0_; (try clear hb); (try clear hb2); (try clear hk); (try clear hi)) | (go_at_call 9; (with_reducible refine (badness_Class.calls 3 4 false t110 _ A5.out).mono ?_); rintro e w17 ⟨rfl, hb⟩; have n0_ := Aside0.mk (below_step (by repeat (first | (with_reducible first | exact HB.out | apply below_alloc | apply pw_below_drewN | apply below_drew1) | exact HB.out)) hb); clear HB; have HB := n0_; clear n0_; (try clear hb); (try clear hb2); (try clear hk); (try clear hi)) | (go_at_call 12; (with_reducible refine (badness_Line.calls 10 12 (-50) t111 _ A7.out).mono ?_); rintro e w18 ⟨rfl, hb⟩; have n0_ := Aside0.mk (below_step (by repeat (first | (with_reducible first | exact HB.out | apply below_alloc | apply pw_below_drewN | apply below_drew1) | exact HB.out)) hb); clear HB; have HB := n0_; clear n0_; (try clear hb); (try clear hb2); (try clear hk); (try clear hi)))
          go_ret
          exact ⟨by first | rfl | (simp [errW_none, errW_some] <;> rfl) | (simp [*, errW_none, errW_some] <;> rfl), by repeat (first | (with_reducible first | exact HB.out | apply below_alloc | apply pw_below_drewN | apply below_drew1) | exact HB.out)⟩
      · rw [if_neg c6] at H
        have c6b0 : (t110 == 2) = false := beq_eq_false_iff_ne.mpr c6
        have c6b1 : (t110 != 2) = true := bne_iff_ne.mpr c6
        obtain rfl := Option.some.inj H
        go_enter Try.func11, Try.ntmps11
        go_wp2_with (first | ((with_reducible refine gate_callee (f := 7) rfl ?_); refine goesL_ (some 1) rfl rfl Try.func7 (by kernel_rfl) rfl #[.int .i64 5, .int .i64 5] rfl (by (try simp only [List.map_toArray, List.map_cons, List.map_nil]); first | done | rfl | (simp only [List.length_drop, List.length_take]; rfl)) ?_; (with_reducible refine (badness_Bad.calls 5 5 t108 _ A1.out).mono ?_); rintro e w19 ⟨rfl, hb⟩; refine ⟨_, rfl, ?_⟩; have n0_ := Aside0.mk (below_step (by repeat (first | (with_reducible first | exact HB.out | apply below_alloc | apply pw_below_drewN | apply below_drew1) | exact HB.out)) hb); clear HB; have HB := n0_; clear n0_; (try clear hb); (try clear hb2); (try clear hk); (try clear hi)) | (go_at_call 7; (with_reducible refine (badness_Bad.calls 1 0 t109 _ A3.out).mono ?_); rintro e w20 ⟨rfl, hb⟩; have n0_ := Aside0.mk (below_step (by repeat (first | (with_reducible first | exact HB.out | apply below_alloc | apply pw_below_drewN | apply below_drew1) | exact HB.out)) hb); clear HB; have HB := n0_; clear n0_; (try clear hb); (try clear hb2); (try clear hk); (try clear hi)) | (go_at_call 9; (with_reducible refine (badness_Class.calls 3 4 false t110 _ A5.out).mono ?_); rintro e w21 ⟨rfl, hb⟩; have n0_ := Aside0.mk (below_step (by repeat (first | (with_reducible first | exact HB.out | apply below_alloc | apply pw_below_drewN | apply below_drew1) | exact HB.out)) hb); clear HB; have HB := n0_; clear n0_; (try clear hb); (try clear hb2); (try clear hk); (try clear hi)))
        go_ret
        exact ⟨by first | rfl | (simp [errW_none, errW_some] <;> rfl) | (simp [*, errW_none, errW_some] <;> rfl), by repeat (first | (with_reducible first | exact HB.out | apply below_alloc | apply pw_below_drewN | apply below_drew1) | exact HB.out)⟩
    · rw [if_neg c4] at H
      have c4b0 : (t109 == 10000) = false := beq_eq_false_iff_ne.mpr c4
      have c4b1 : (t109 != 10000) = true := bne_iff_ne.mpr c4
      obtain rfl := Option.some.inj H
      go_enter Try.func11, Try.ntmps11
      go_wp2_with (first | ((with_reducible refine gate_callee (f := 7) rfl ?_); refine goesL_ (some 1) rfl rfl Try.func7 (by kernel_rfl) rfl #[.int .i64 5, .int .i64 5] rfl (by (try simp only [List.map_toArray, List.map_cons, List.map_nil]); first | done | rfl | (simp only [List.length_drop, List.length_take]; rfl)) ?_; (with_reducible refine (badness_Bad.calls 5 5 t108 _ A1.out).mono ?_); rintro e w22 ⟨rfl, hb⟩; refine ⟨_, rfl, ?_⟩; have n0_ := Aside0.mk (below_step (by repeat (first | (with_reducible first | exact HB.out | apply below_alloc | apply pw_below_drewN | apply below_drew1) | exact HB.out)) hb); clear HB; have HB := n0_; clear n0_; (try clear hb); (try clear hb2); (try clear hk); (try clear hi)) | (go_at_call 7; (with_reducible refine (badness_Bad.calls 1 0 t109 _ A3.out).mono ?_); rintro e w23 ⟨rfl, hb⟩; have n0_ := Aside0.mk (below_step (by repeat (first | (with_reducible first | exact HB.out | apply below_alloc | apply pw_below_drewN | apply below_drew1) | exact HB.out)) hb); clear HB; have HB := n0_; clear n0_; (try clear hb); (try clear hb2); (try clear hk); (try clear hi)))
      go_ret
      exact ⟨by first | rfl | (simp [errW_none, errW_some] <;> rfl) | (simp [*, errW_none, errW_some] <;> rfl), by repeat (first | (with_reducible first | exact HB.out | apply below_alloc | apply pw_below_drewN | apply below_drew1) | exact HB.out)⟩
  · rw [if_neg c2] at H
    have c2b0 : (t108 == 100) = false := beq_eq_false_iff_ne.mpr c2
    have c2b1 : (t108 != 100) = true := bne_iff_ne.mpr c2
    obtain rfl := Option.some.inj H
    go_enter Try.func11, Try.ntmps11
    go_wp2_with (first | ((with_reducible refine gate_callee (f := 7) rfl ?_); refine goesL_ (some 1) rfl rfl Try.func7 (by kernel_rfl) rfl #[.int .i64 5, .int .i64 5] rfl (by (try simp only [List.map_toArray, List.map_cons, List.map_nil]); first | done | rfl | (simp only [List.length_drop, List.length_take]; rfl)) ?_; (with_reducible refine (badness_Bad.calls 5 5 t108 _ A1.out).mono ?_); rintro e w24 ⟨rfl, hb⟩; refine ⟨_, rfl, ?_⟩; have n0_ := Aside0.mk (below_step (by repeat (first | (with_reducible first | exact HB.out | apply below_alloc | apply pw_below_drewN | apply below_drew1) | exact HB.out)) hb); clear HB; have HB := n0_; clear n0_; (try clear hb); (try clear hb2); (try clear hk); (try clear hi)))
    go_ret
    exact ⟨by first | rfl | (simp [errW_none, errW_some] <;> rfl) | (simp [*, errW_none, errW_some] <;> rfl), by repeat (first | (with_reducible first | exact HB.out | apply below_alloc | apply pw_below_drewN | apply below_drew1) | exact HB.out)⟩

/-! ### badness_More: function 14 -/
def badness_More.j0 : Nat → Bool → Bool → Int → Bool → Int → Int → Int → Int → Int → Option (Int)
  | 0, _, _, _, _, _, _, _, _, _ => none
  | k + 1, x2, x3, x11, x27, x114000, x114001, x114002, x114003, x114004 => if x27 = true then (if x2 = true then (if x3 = true then (some (wrap64 ((wrap64 (x11 + (mn (mx x114004 0) 1000000))) + (mn (mx x114003 0) 1000000)))) else (some (wrap64 (x11 + (mn (mx x114004 0) 1000000))))) else (some (wrap64 (x11 + (mn (mx x114004 0) 1000000))))) else (if x2 = true then (if x3 = true then (some (wrap64 (x11 + (mn (mx x114003 0) 1000000)))) else (some x11)) else (some x11))
def badness_More.f (k : Nat) (a0 : Int) (a1 : Int) (a2 : Bool) (a3 : Bool) (a4_0 : Int) (a4_1 : Int) (a4_2 : Int) (a4_3 : Int) (a4_4 : Int) : Option (Int) := if ((mn (mx a0 0) 3) - (mn (mx a1 0) 3)) > 1 then (badness_More.j0 k a2 a3 0 true a4_0 a4_1 a4_2 a4_3 a4_4) else (badness_More.j0 k a2 a3 0 (decide (((mn (mx a1 0) 3) - (mn (mx a0 0) 3)) > 1)) a4_0 a4_1 a4_2 a4_3 a4_4)
theorem badness_More.mono_l : ∀ k, (∀ y0 y1 y2 y3 y4 y5 y6 y7 y8, LeO (badness_More.j0 k y0 y1 y2 y3 y4 y5 y6 y7 y8) (badness_More.j0 (k + 1) y0 y1 y2 y3 y4 y5 y6 y7 y8))
  | 0 => fun _ _ _ _ _ _ _ _ _ r h => by simp [badness_More.j0] at h
  | k + 1 => by
    have ih0 := badness_More.mono_l k
    · intro y0 y1 y2 y3 y4 y5 y6 y7 y8
      unfold badness_More.j0
      repeat' first
      | (with_reducible exact ih0 _ _ _ _ _ _ _ _ _)
      | (with_reducible exact LeO.refl _)
      | (with_reducible exact LeO.none _)
      | (with_reducible refine LeO.ite ?_ ?_)
      | (with_reducible refine LeO.bind ?_ (fun _ => ?_))
      | exact ih0 _ _ _ _ _ _ _ _ _
      | exact LeO.none _
      | refine LeO.ite ?_ ?_
      | refine LeO.bind ?_ (fun _ => ?_)
theorem badness_More.mono : ∀ a0 a1 a2 a3 a4 a5 a6 a7 a8 k, LeO (badness_More.f k a0 a1 a2 a3 a4 a5 a6 a7 a8) (badness_More.f (k + 1) a0 a1 a2 a3 a4 a5 a6 a7 a8) := by
  intro a0 a1 a2 a3 a4 a5 a6 a7 a8 k
  have ih0 := badness_More.mono_l k
  unfold badness_More.f
  repeat' first
      | (with_reducible exact ih0 _ _ _ _ _ _ _ _ _)
      | (with_reducible exact LeO.refl _)
      | (with_reducible exact LeO.none _)
      | (with_reducible refine LeO.ite ?_ ?_)
      | (with_reducible refine LeO.bind ?_ (fun _ => ?_))
      | exact ih0 _ _ _ _ _ _ _ _ _
      | exact LeO.none _
      | refine LeO.ite ?_ ?_
      | refine LeO.bind ?_ (fun _ => ?_)
set_option maxHeartbeats 8000000 in
set_option maxRecDepth 100000 in
theorem badness_More.calls (k : Nat) (a0 : Int) (a1 : Int) (a2 : Bool) (a3 : Bool) (a4_0 : Int) (a4_1 : Int) (a4_2 : Int) (a4_3 : Int) (a4_4 : Int) (r : Int) (w : World) (h : badness_More.f k a0 a1 a2 a3 a4_0 a4_1 a4_2 a4_3 a4_4 = some r) :
    Calls Try.prog 14 #[.int .i64 a0, .int .i64 a1, .bool a2, .bool a3, .agg #[.int .i64 a4_0, .int .i64 a4_1, .int .i64 a4_2, .int .i64 a4_3, .int .i64 a4_4]] w fun e w' => e = .returned (.int .i64 r) ∧ Below w.heap.size w w' := by
  have hu29 := Try.underlying29
  have HB := Aside0.mk (Below.refl w.heap.size w)
  have H : (if ((mn (mx a0 0) 3) - (mn (mx a1 0) 3)) > 1 then (badness_More.j0 k a2 a3 0 true a4_0 a4_1 a4_2 a4_3 a4_4) else (badness_More.j0 k a2 a3 0 (decide (((mn (mx a1 0) 3) - (mn (mx a0 0) 3)) > 1)) a4_0 a4_1 a4_2 a4_3 a4_4)) = some r := h
  clear h
  obtain ⟨ji6, hji6⟩ : ∃ j_ : Int, (mx a0 0) = j_ := ⟨_, rfl⟩
  replace H : (if ((mn (ji6) 3) - (mn (mx a1 0) 3)) > 1 then (badness_More.j0 k a2 a3 0 true a4_0 a4_1 a4_2 a4_3 a4_4) else (badness_More.j0 k a2 a3 0 (decide (((mn (mx a1 0) 3) - (mn (ji6) 3)) > 1)) a4_0 a4_1 a4_2 a4_3 a4_4)) = some r := by first | (rw [hji6] at H; exact H) | (simp only [hji6] at H ⊢; exact H)
  (try (have hji6l : 0 ≤ ji6 := by (rw [← hji6]; unfold mx; (repeat' split) <;> omega)))
  (try (have hji6m : 0 ≤ ji6 := by omega))
  have hji6_ : (if a0 < 0 then 0 else a0) = ji6 := hji6
  obtain ⟨ji7, hji7⟩ : ∃ j_ : Int, (mn (ji6) 3) = j_ := ⟨_, rfl⟩
  replace H : (if ((ji7) - (mn (mx a1 0) 3)) > 1 then (badness_More.j0 k a2 a3 0 true a4_0 a4_1 a4_2 a4_3 a4_4) else (badness_More.j0 k a2 a3 0 (decide (((mn (mx a1 0) 3) - (ji7)) > 1)) a4_0 a4_1 a4_2 a4_3 a4_4)) = some r := by first | (rw [hji7] at H; exact H) | (simp only [hji7] at H ⊢; exact H)
  have hji7_ : (if 3 < (ji6) then 3 else (ji6)) = ji7 := hji7
  obtain ⟨ji8, hji8⟩ : ∃ j_ : Int, (mx a1 0) = j_ := ⟨_, rfl⟩
  replace H : (if ((ji7) - (mn (ji8) 3)) > 1 then (badness_More.j0 k a2 a3 0 true a4_0 a4_1 a4_2 a4_3 a4_4) else (badness_More.j0 k a2 a3 0 (decide (((mn (ji8) 3) - (ji7)) > 1)) a4_0 a4_1 a4_2 a4_3 a4_4)) = some r := by first | (rw [hji8] at H; exact H) | (simp only [hji8] at H ⊢; exact H)
  (try (have hji8l : 0 ≤ ji8 := by (rw [← hji8]; unfold mx; (repeat' split) <;> omega)))
  (try (have hji8m : 0 ≤ ji8 := by omega))
  have hji8_ : (if a1 < 0 then 0 else a1) = ji8 := hji8
  obtain ⟨ji9, hji9⟩ : ∃ j_ : Int, (mn (ji8) 3) = j_ := ⟨_, rfl⟩
  replace H : (if ((ji7) - (ji9)) > 1 then (badness_More.j0 k a2 a3 0 true a4_0 a4_1 a4_2 a4_3 a4_4) else (badness_More.j0 k a2 a3 0 (decide (((ji9) - (ji7)) > 1)) a4_0 a4_1 a4_2 a4_3 a4_4)) = some r := by first | (rw [hji9] at H; exact H) | (simp only [hji9] at H ⊢; exact H)
  have hji9_ : (if 3 < (ji8) then 3 else (ji8)) = ji9 := hji9
  have HC10 := Aside0.mk H
  clear H
  go_enter Try.func14, Try.ntmps14
  go_upto_region 3 with (first | ((with_reducible refine gate_dst (N := 9) rfl ?_); refine box_event ?hg (N := 9) ?hd (cs := #[.int .i64 a4_0, .int .i64 a4_1, .int .i64 a4_2, .int .i64 a4_3, .int .i64 a4_4]) (t := 29) ?hr ?_; (case hd => rfl); (case hg => rfl); (case hr => first | (go_simp; done) | (go_simp; rfl)); intro gb113 hg w11 hbox hb; have n0_ := Aside0.mk (below_step (by repeat (first | (with_reducible first | exact HB.out | apply below_alloc | apply pw_below_drewN | apply below_drew1) | exact HB.out)) hb); have n1_ := Aside0.mk (hbox); have n2_ := Aside0.mk ((by rw [hg]; exact (below_size (by repeat (first | (with_reducible first | exact HB.out | apply below_alloc | apply pw_below_drewN | apply below_drew1) | exact HB.out))) : w.heap.size ≤ gb113)); have n3_ := Aside0.mk ((by rw [hg]; exact (below_size (by repeat (first | (with_reducible first | exact HB.out | apply below_alloc | apply pw_below_drewN | apply below_drew1) | exact HB.out))) : w.heap.size ≤ gb113)); clear HB; have HB := n0_; have BK113 := n1_; have GW113 := n2_; have GE113 := n3_; clear n0_ n1_ n2_ n3_; clear hb hbox hg))
  (try simp only [Act.put, List.setIfInBounds_toArray, List.set_cons_zero, List.set_cons_succ])
  go_cut [27] (fun v27 wc => ∃ (kq : Nat) (x27_9 : Bool), v27 = .bool x27_9 ∧ Aside0 (badness_More.j0 kq a2 a3 0 x27_9 a4_0 a4_1 a4_2 a4_3 a4_4 = some r) ∧ Aside0 (kq ≤ k) ∧ Aside0 (wc.heap[gb113]? = some (.cells #[.int .i64 a4_0, .int .i64 a4_1, .int .i64 a4_2, .int .i64 a4_3, .int .i64 a4_4] 29 (0, 0))) ∧ Aside0 (Below w.heap.size w wc))
  case first =>
    have H := HC10.out
    clear HC10
    by_cases c12 : ((ji7) - (ji9)) > 1
    · rw [if_pos c12] at H
      have c12b0 : decide (1 < ((ji7) - (ji9))) = true := decide_eq_true c12
      clear c12
      (first | rw [c12b0] | (simp only [i64_w, i32_w]; rw [c12b0]) | skip)
      have H' := Aside0.mk H
      clear H
      go_wp2
      go_meet
      case rel => exact ⟨_, (true), (by first | rfl | (simp; done) | (simp [*]; done)), H', ⟨by first | omega | exact Nat.le_refl _⟩, ⟨by (with_reducible repeat (first | refine blk_drewN ?_ _ | refine blk_drew ?_ | refine blk_alloc ?_ _)); exact BK113.out⟩, ⟨by repeat (first | (with_reducible first | exact HB.out | apply below_alloc | apply pw_below_drewN | apply below_drew1 | refine below_set ?_ GE113.out) | exact HB.out)⟩⟩
    · rw [if_neg c12] at H
      have c12b0 : decide (1 < ((ji7) - (ji9))) = false := decide_eq_false c12
      clear c12
      (first | rw [c12b0] | (simp only [i64_w, i32_w]; rw [c12b0]) | skip)
      have H' := Aside0.mk H
      clear H
      go_wp2
      go_meet
      case rel => exact ⟨_, (decide (((ji9) - (ji7)) > 1)), (by first | rfl | (simp; done) | (simp only [← hji7, ← hji9] <;> (first | rfl | simp)) | (simp [*]; done)), H', ⟨by first | omega | exact Nat.le_refl _⟩, ⟨by (with_reducible repeat (first | refine blk_drewN ?_ _ | refine blk_drew ?_ | refine blk_alloc ?_ _)); exact BK113.out⟩, ⟨by repeat (first | (with_reducible first | exact HB.out | apply below_alloc | apply pw_below_drewN | apply below_drew1 | refine below_set ?_ GE113.out) | exact HB.out)⟩⟩
  case rest =>
    clear HC10
    try clear c1
    try clear p2
    try clear c12
    try clear c12b0
    obtain ⟨kq, x27_9, rfl, HA, HJ9, BK113, HB⟩ := hcut
    cases kq with
    | zero => exact absurd HA.out (by simp [badness_More.j0])
    | succ kj9 =>
      have H := HA.out
      clear HA
      simp only [badness_More.j0] at H
      by_cases c13 : x27_9 = true
      · subst c13
        have H1 : (if a2 = true then (if a3 = true then (some (wrap64 ((wrap64 (0 + (mn (mx a4_4 0) 1000000))) + (mn (mx a4_3 0) 1000000)))) else (some (wrap64 (0 + (mn (mx a4_4 0) 1000000))))) else (some (wrap64 (0 + (mn (mx a4_4 0) 1000000))))) = some r := by rw [if_pos rfl] at H; exact H
        clear H
        have H := H1
        clear H1
        obtain ⟨ji14, hji14⟩ : ∃ j_ : Int, (mx a4_4 0) = j_ := ⟨_, rfl⟩
        replace H : (if a2 = true then (if a3 = true then (some (wrap64 ((wrap64 (0 + (mn (ji14) 1000000))) + (mn (mx a4_3 0) 1000000)))) else (some (wrap64 (0 + (mn (ji14) 1000000))))) else (some (wrap64 (0 + (mn (ji14) 1000000))))) = some r := by first | (rw [hji14] at H; exact H) | (simp only [hji14] at H ⊢; exact H)
        have hji14_ : (if a4_4 < 0 then 0 else a4_4) = ji14 := hji14
        obtain ⟨ji15, hji15⟩ : ∃ j_ : Int, (mn (ji14) 1000000) = j_ := ⟨_, rfl⟩
        replace H : (if a2 = true then (if a3 = true then (some (wrap64 ((wrap64 (0 + (ji15))) + (mn (mx a4_3 0) 1000000)))) else (some (wrap64 (0 + (ji15))))) else (some (wrap64 (0 + (ji15))))) = some r := by first | (rw [hji15] at H; exact H) | (simp only [hji15] at H ⊢; exact H)
        have hji15_ : (if 1000000 < (ji14) then 1000000 else (ji14)) = ji15 := hji15
        by_cases c16 : a2 = true
        · subst c16
          have H1 : (if a3 = true then (some (wrap64 ((wrap64 (0 + (ji15))) + (mn (mx a4_3 0) 1000000)))) else (some (wrap64 (0 + (ji15))))) = some r := by rw [if_pos rfl] at H; exact H
          clear H
          have H := H1
          clear H1
          by_cases c17 : a3 = true
          · subst c17
            have H1 : (some (wrap64 ((wrap64 (0 + (ji15))) + (mn (mx a4_3 0) 1000000)))) = some r := by rw [if_pos rfl] at H; exact H
            clear H
            have H := H1
            clear H1
            obtain ⟨ji18, hji18⟩ : ∃ j_ : Int, (mx a4_3 0) = j_ := ⟨_, rfl⟩
            replace H : (some (wrap64 ((wrap64 (0 + (ji15))) + (mn (ji18) 1000000)))) = some r := by first | (rw [hji18] at H; exact H) | (simp only [hji18] at H ⊢; exact H)
            have hji18_ : (if a4_3 < 0 then 0 else a4_3) = ji18 := hji18
            obtain ⟨ji19, hji19⟩ : ∃ j_ : Int, (mn (ji18) 1000000) = j_ := ⟨_, rfl⟩
            replace H : (some (wrap64 ((wrap64 (0 + (ji15))) + (ji19)))) = some r := by first | (rw [hji19] at H; exact H) | (simp only [hji19] at H ⊢; exact H)
            have hji19_ : (if 1000000 < (ji18) then 1000000 else (ji18)) = ji19 := hji19
            obtain rfl := Option.some.inj H
            have hcz20_0 : wc.cell? ⟨gb113, 0, none⟩ = some (.int .i64 a4_0) := (blk_cell BK113.out 0).trans rfl
            have hcz20_1 : wc.cell? ⟨gb113, 1, none⟩ = some (.int .i64 a4_1) := (blk_cell BK113.out 1).trans rfl
            have hcz20_2 : wc.cell? ⟨gb113, 2, none⟩ = some (.int .i64 a4_2) := (blk_cell BK113.out 2).trans rfl
            have hcz20_3 : wc.cell? ⟨gb113, 3, none⟩ = some (.int .i64 a4_3) := (blk_cell BK113.out 3).trans rfl
            have hcz20_4 : wc.cell? ⟨gb113, 4, none⟩ = some (.int .i64 a4_4) := (blk_cell BK113.out 4).trans rfl
            have hfz20_0 := blk_frozen BK113.out 0
            have hfz20_1 := blk_frozen BK113.out 1
            have hfz20_2 := blk_frozen BK113.out 2
            have hfz20_3 := blk_frozen BK113.out 3
            have hfz20_4 := blk_frozen BK113.out 4
            go_wp2
            go_ret
            exact ⟨by first | rfl | (have b0 := BadW.mnbd hji14 hji15; have b2 := BadW.mnbd hji18 hji19; refine congrArg (fun x => Ending.returned (.int .i64 x)) ?_; unfold wrap64; omega) | (simp [errW_none, errW_some] <;> rfl) | (simp only [← hji6, ← hji7, ← hji8, ← hji9, ← hji14, ← hji15, ← hji18, ← hji19]; first | rfl | (simp [errW_none, errW_some] <;> rfl)) | (simp [*, errW_none, errW_some] <;> rfl), by repeat (first | (with_reducible first | exact HB.out | apply below_alloc | apply pw_below_drewN | apply below_drew1 | refine below_set ?_ GE113.out) | exact HB.out)⟩
          · replace c17 := Bool.eq_false_iff.mpr c17
            subst c17
            have H1 : (some (wrap64 (0 + (ji15)))) = some r := by rw [if_neg (show ¬ (false = true) by decide)] at H; exact H
            clear H
            have H := H1
            clear H1
            obtain rfl := Option.some.inj H
            have hcz21_0 : wc.cell? ⟨gb113, 0, none⟩ = some (.int .i64 a4_0) := (blk_cell BK113.out 0).trans rfl
            have hcz21_1 : wc.cell? ⟨gb113, 1, none⟩ = some (.int .i64 a4_1) := (blk_cell BK113.out 1).trans rfl
            have hcz21_2 : wc.cell? ⟨gb113, 2, none⟩ = some (.int .i64 a4_2) := (blk_cell BK113.out 2).trans rfl
            have hcz21_3 : wc.cell? ⟨gb113, 3, none⟩ = some (.int .i64 a4_3) := (blk_cell BK113.out 3).trans rfl
            have hcz21_4 : wc.cell? ⟨gb113, 4, none⟩ = some (.int .i64 a4_4) := (blk_cell BK113.out 4).trans rfl
            have hfz21_0 := blk_frozen BK113.out 0
            have hfz21_1 := blk_frozen BK113.out 1
            have hfz21_2 := blk_frozen BK113.out 2
            have hfz21_3 := blk_frozen BK113.out 3
            have hfz21_4 := blk_frozen BK113.out 4
            go_wp2
            go_ret
            exact ⟨by first | rfl | (have b0 := BadW.mnbd hji14 hji15; refine congrArg (fun x => Ending.returned (.int .i64 x)) ?_; unfold wrap64; omega) | (simp [errW_none, errW_some] <;> rfl) | (simp only [← hji6, ← hji7, ← hji8, ← hji9, ← hji14, ← hji15]; first | rfl | (simp [errW_none, errW_some] <;> rfl)) | (simp [*, errW_none, errW_some] <;> rfl), by repeat (first | (with_reducible first | exact HB.out | apply below_alloc | apply pw_below_drewN | apply below_drew1 | refine below_set ?_ GE113.out) | exact HB.out)⟩
        · replace c16 := Bool.eq_false_iff.mpr c16
          subst c16
          have H1 : (some (wrap64 (0 + (ji15)))) = some r := by rw [if_neg (show ¬ (false = true) by decide)] at H; exact H
          clear H
          have H := H1
          clear H1
          obtain rfl := Option.some.inj H
          have hcz22_0 : wc.cell? ⟨gb113, 0, none⟩ = some (.int .i64 a4_0) := (blk_cell BK113.out 0).trans rfl
          have hcz22_1 : wc.cell? ⟨gb113, 1, none⟩ = some (.int .i64 a4_1) := (blk_cell BK113.out 1).trans rfl
          have hcz22_2 : wc.cell? ⟨gb113, 2, none⟩ = some (.int .i64 a4_2) := (blk_cell BK113.out 2).trans rfl
          have hcz22_3 : wc.cell? ⟨gb113, 3, none⟩ = some (.int .i64 a4_3) := (blk_cell BK113.out 3).trans rfl
          have hcz22_4 : wc.cell? ⟨gb113, 4, none⟩ = some (.int .i64 a4_4) := (blk_cell BK113.out 4).trans rfl
          have hfz22_0 := blk_frozen BK113.out 0
          have hfz22_1 := blk_frozen BK113.out 1
          have hfz22_2 := blk_frozen BK113.out 2
          have hfz22_3 := blk_frozen BK113.out 3
          have hfz22_4 := blk_frozen BK113.out 4
          go_wp2
          go_ret
          exact ⟨by first | rfl | (have b0 := BadW.mnbd hji14 hji15; refine congrArg (fun x => Ending.returned (.int .i64 x)) ?_; unfold wrap64; omega) | (simp [errW_none, errW_some] <;> rfl) | (simp only [← hji6, ← hji7, ← hji8, ← hji9, ← hji14, ← hji15]; first | rfl | (simp [errW_none, errW_some] <;> rfl)) | (simp [*, errW_none, errW_some] <;> rfl), by repeat (first | (with_reducible first | exact HB.out | apply below_alloc | apply pw_below_drewN | apply below_drew1 | refine below_set ?_ GE113.out) | exact HB.out)⟩
      · replace c13 := Bool.eq_false_iff.mpr c13
        subst c13
        have H1 : (if a2 = true then (if a3 = true then (some (wrap64 (0 + (mn (mx a4_3 0) 1000000)))) else (some 0)) else (some 0)) = some r := by rw [if_neg (show ¬ (false = true) by decide)] at H; exact H
        clear H
        have H := H1
        clear H1
        by_cases c23 : a2 = true
        · subst c23
          have H1 : (if a3 = true then (some (wrap64 (0 + (mn (mx a4_3 0) 1000000)))) else (some 0)) = some r := by rw [if_pos rfl] at H; exact H
          clear H
          have H := H1
          clear H1
          by_cases c24 : a3 = true
          · subst c24
            have H1 : (some (wrap64 (0 + (mn (mx a4_3 0) 1000000)))) = some r := by rw [if_pos rfl] at H; exact H
            clear H
            have H := H1
            clear H1
            obtain ⟨ji25, hji25⟩ : ∃ j_ : Int, (mx a4_3 0) = j_ := ⟨_, rfl⟩
            replace H : (some (wrap64 (0 + (mn (ji25) 1000000)))) = some r := by first | (rw [hji25] at H; exact H) | (simp only [hji25] at H ⊢; exact H)
            have hji25_ : (if a4_3 < 0 then 0 else a4_3) = ji25 := hji25
            obtain ⟨ji26, hji26⟩ : ∃ j_ : Int, (mn (ji25) 1000000) = j_ := ⟨_, rfl⟩
            replace H : (some (wrap64 (0 + (ji26)))) = some r := by first | (rw [hji26] at H; exact H) | (simp only [hji26] at H ⊢; exact H)
            have hji26_ : (if 1000000 < (ji25) then 1000000 else (ji25)) = ji26 := hji26
            obtain rfl := Option.some.inj H
            have hcz27_0 : wc.cell? ⟨gb113, 0, none⟩ = some (.int .i64 a4_0) := (blk_cell BK113.out 0).trans rfl
            have hcz27_1 : wc.cell? ⟨gb113, 1, none⟩ = some (.int .i64 a4_1) := (blk_cell BK113.out 1).trans rfl
            have hcz27_2 : wc.cell? ⟨gb113, 2, none⟩ = some (.int .i64 a4_2) := (blk_cell BK113.out 2).trans rfl
            have hcz27_3 : wc.cell? ⟨gb113, 3, none⟩ = some (.int .i64 a4_3) := (blk_cell BK113.out 3).trans rfl
            have hcz27_4 : wc.cell? ⟨gb113, 4, none⟩ = some (.int .i64 a4_4) := (blk_cell BK113.out 4).trans rfl
            have hfz27_0 := blk_frozen BK113.out 0
            have hfz27_1 := blk_frozen BK113.out 1
            have hfz27_2 := blk_frozen BK113.out 2
            have hfz27_3 := blk_frozen BK113.out 3
            have hfz27_4 := blk_frozen BK113.out 4
            go_wp2
            go_ret
            exact ⟨by first | rfl | (have b0 := BadW.mnbd hji25 hji26; refine congrArg (fun x => Ending.returned (.int .i64 x)) ?_; unfold wrap64; omega) | (simp [errW_none, errW_some] <;> rfl) | (simp only [← hji6, ← hji7, ← hji8, ← hji9, ← hji25, ← hji26]; first | rfl | (simp [errW_none, errW_some] <;> rfl)) | (simp [*, errW_none, errW_some] <;> rfl), by repeat (first | (with_reducible first | exact HB.out | apply below_alloc | apply pw_below_drewN | apply below_drew1 | refine below_set ?_ GE113.out) | exact HB.out)⟩
          · replace c24 := Bool.eq_false_iff.mpr c24
            subst c24
            have H1 : (some 0) = some r := by rw [if_neg (show ¬ (false = true) by decide)] at H; exact H
            clear H
            have H := H1
            clear H1
            obtain rfl := Option.some.inj H
            go_wp2
            go_ret
            exact ⟨by first | rfl | (refine congrArg (fun x => Ending.returned (.int .i64 x)) ?_; unfold wrap64; omega) | (simp [errW_none, errW_some] <;> rfl) | (simp only [← hji6, ← hji7, ← hji8, ← hji9]; first | rfl | (simp [errW_none, errW_some] <;> rfl)) | (simp [*, errW_none, errW_some] <;> rfl), by repeat (first | (with_reducible first | exact HB.out | apply below_alloc | apply pw_below_drewN | apply below_drew1 | refine below_set ?_ GE113.out) | exact HB.out)⟩
        · replace c23 := Bool.eq_false_iff.mpr c23
          subst c23
          have H1 : (some 0) = some r := by rw [if_neg (show ¬ (false = true) by decide)] at H; exact H
          clear H
          have H := H1
          clear H1
          obtain rfl := Option.some.inj H
          go_wp2
          go_ret
          exact ⟨by first | rfl | (refine congrArg (fun x => Ending.returned (.int .i64 x)) ?_; unfold wrap64; omega) | (simp [errW_none, errW_some] <;> rfl) | (simp only [← hji6, ← hji7, ← hji8, ← hji9]; first | rfl | (simp [errW_none, errW_some] <;> rfl)) | (simp [*, errW_none, errW_some] <;> rfl), by repeat (first | (with_reducible first | exact HB.out | apply below_alloc | apply pw_below_drewN | apply below_drew1 | refine below_set ?_ GE113.out) | exact HB.out)⟩

/-! ### colophonref23_within: function 18 -/
def colophonref23_within.f (a0 : Int) (a1 : Int) (a2 : Int) : Option (Int) := some (mn (mx a0 a1) a2)
set_option maxHeartbeats 8000000 in
set_option maxRecDepth 100000 in
theorem colophonref23_within.calls (a0 : Int) (a1 : Int) (a2 : Int) (r : Int) (w : World) (h : colophonref23_within.f a0 a1 a2 = some r) :
    Calls Try.prog 18 #[.int .i64 a0, .int .i64 a1, .int .i64 a2] w fun e w' => e = .returned (.int .i64 r) ∧ Below w.heap.size w w' := by
  have HB := Aside0.mk (Below.refl w.heap.size w)
  have H : (some (mn (mx a0 a1) a2)) = some r := h
  clear h
  obtain ⟨ji4, hji4⟩ : ∃ j_ : Int, (mx a0 a1) = j_ := ⟨_, rfl⟩
  replace H : (some (mn (ji4) a2)) = some r := by first | (rw [hji4] at H; exact H) | (simp only [hji4] at H ⊢; exact H)
  have hji4_ : (if a0 < a1 then a1 else a0) = ji4 := hji4
  obtain ⟨ji5, hji5⟩ : ∃ j_ : Int, (mn (ji4) a2) = j_ := ⟨_, rfl⟩
  replace H : (some ji5) = some r := by first | (rw [hji5] at H; exact H) | (simp only [hji5] at H ⊢; exact H)
  have hji5_ : (if a2 < (ji4) then a2 else (ji4)) = ji5 := hji5
  obtain rfl := Option.some.inj H
  go_enter Try.func18, Try.ntmps18
  go_wp2
  go_ret
  exact ⟨by first | rfl | (refine congrArg (fun x => Ending.returned (.int .i64 x)) ?_; unfold wrap64; omega) | (simp [errW_none, errW_some] <;> rfl) | (simp only [← hji4, ← hji5]; first | rfl | (simp [errW_none, errW_some] <;> rfl)) | (simp [*, errW_none, errW_some] <;> rfl), by repeat (first | (with_reducible first | exact HB.out | apply below_alloc | apply pw_below_drewN | apply below_drew1) | exact HB.out)⟩

end Go.Proofs.Ytmllebfeghlmbaa.PBadPairs
