/- For StyleIs: the law's own function, walked by hand. -/
import Derived.Test.YtpembifnjlekdaaPStyleIsx5
import Derived.Test.YtpembifnjlekdaaPStyleIsx8
namespace Go.Proofs.Ytpembifnjlekdaa.PStyleIs
open Go.RowKit Go.Proofs.YtpembifnjlekdaaW.PrintWords Go.Proofs.YtpembifnjlekdaaW.PrintLast Go.Proofs.YtpembifnjlekdaaW.PrintMore
attribute [local go_sem] max2_int min2_int max_two min_two max_three min_three max_four min_four
set_option linter.unusedVariables false
set_option linter.unusedSimpArgs false
noncomputable def colophonlaw20_StyleIs.f (k : Nat) (l : List S41) (path : List S56) (a2_0 a2_1 a2_2 a2_3 a2_4 a2_5 a2_6 a2_7 a2_8 : Int) : Option Bool :=
  (colophonlaw20_large.f k l path).bind fun t => if t = true then colophonlaw20_wakes.f k else (colophonref19_Copy.f k l).bind fun t1 => (colophonlaw20_twin.f k path).bind fun t2 =>
    (style_Of.f k t1 t2 a2_0 a2_1 a2_2 a2_3 a2_4 a2_5 a2_6 a2_7 a2_8).bind fun x => (colophonref20_Of.f k l path a2_0 a2_1 a2_2 a2_3 a2_4 a2_5 a2_6 a2_7 a2_8).bind fun y => @ite _ (x = y) (Classical.propDecidable _) (colophonlaw20_wakes.f k) none
set_option maxHeartbeats 8000000 in
set_option maxRecDepth 100000 in
theorem colophonlaw20_StyleIs.calls (k : Nat) (A0 : Option Addr) (c0 : Nat) (l0 : List (S41)) (A1 : Option Addr) (c1 : Nat) (l1 : List (S56)) (a2_0 a2_1 a2_2 a2_3 a2_4 a2_5 a2_6 a2_7 a2_8 : Int) (r : Bool) (w : World) (hr0 : Kd.C k41 w A0 l0.length l0) (hc0 : l0.length ≤ c0) (hr1 : Kd.C k56 w A1 l1.length l1) (hc1 : l1.length ≤ c1) (h : colophonlaw20_StyleIs.f k l0 l1 a2_0 a2_1 a2_2 a2_3 a2_4 a2_5 a2_6 a2_7 a2_8 = some r) :
    Calls Try.prog 4 #[.slice A0 l0.length c0, .slice A1 l1.length c1, .agg #[.int .i64 a2_0, .int .i64 a2_1, .int .i64 a2_2, .int .i64 a2_3, .int .i64 a2_4, .int .i64 a2_5, .int .i64 a2_6, .int .i64 a2_7, .int .i64 a2_8]] w fun e w' => e = .returned (.bool r) ∧ Below w.heap.size w w' := by
  have HR0 := Aside0.mk hr0
  have HC0 := Aside0.mk hc0
  have HR1 := Aside0.mk hr1
  have HC1 := Aside0.mk hc1
  have z5 : St.Arr (w.alloc (.cells #[.int .i64 a2_0, .int .i64 a2_1, .int .i64 a2_2, .int .i64 a2_3, .int .i64 a2_4, .int .i64 a2_5, .int .i64 a2_6, .int .i64 a2_7, .int .i64 a2_8] 33)) w.heap.size 33 [a2_0, a2_1, a2_2, a2_3, a2_4, a2_5, a2_6, a2_7, a2_8] := heap_alloc_new w _
  have Z5 := Aside0.mk z5
  clear hr0 hc0 hr1 hc1 z5
  unfold colophonlaw20_StyleIs.f at h
  obtain ⟨t, AG0, H⟩ := Option.bind_eq_some_iff.mp h
  have AG := Aside0.mk AG0
  clear AG0 h
  cases t with
  | true =>
    rw [if_pos rfl] at H
    have AW := Aside0.mk H
    clear H
    go_enter Try.func4, Try.ntmps4
    go_wp2_with (first | (go_at_call 9; (with_reducible refine (colophonlaw20_large.calls k _ _ l0 _ _ l1 true _ (Kd.C_below HR0.out (below_alloc (Below.refl _ _) _)) HC0.out (Kd.C_below HR1.out (below_alloc (Below.refl _ _) _)) HC1.out AG.out).mono ?_); rintro e w5 ⟨rfl, hb⟩; have n5_ := Aside0.mk (Z5.out.below hb); have nB_ := Aside0.mk (below_step (below_alloc (Below.refl w.heap.size w) _) hb); clear Z5; have Z5 := n5_; have HB := nB_; clear n5_ nB_ hb) | (go_at_call 10; (with_reducible refine (colophonlaw20_wakes.calls k r _ AW.out).mono ?_); rintro e w12 ⟨rfl, hb⟩; have nB_ := Aside0.mk (below_step HB.out hb); clear HB; have HB := nB_; clear nB_; clear hb))
    go_ret
    exact ⟨rfl, HB.out⟩
  | false =>
    rw [if_neg (by decide)] at H
    obtain ⟨t1, AC0, H1⟩ := Option.bind_eq_some_iff.mp H
    obtain ⟨t2, AT0, H2⟩ := Option.bind_eq_some_iff.mp H1
    obtain ⟨x, AO0, H3⟩ := Option.bind_eq_some_iff.mp H2
    clear H H1 H2
    obtain ⟨y, AR0, H⟩ := Option.bind_eq_some_iff.mp H3
    clear H3
    by_cases exy : x = y
    rotate_left
    · rw [if_neg exy] at H
      exact absurd H (by simp)
    rw [if_pos exy] at H
    have AW := Aside0.mk H
    clear H
    subst exy
    obtain ⟨r1, r2, r3, r4, r5, r6, r7, r8, r9⟩ := x
    have AC := Aside0.mk AC0
    have AT := Aside0.mk AT0
    have AO := Aside0.mk AO0
    have AR := Aside0.mk AR0
    clear AC0 AT0 AO0 AR0
    have heq : ∀ w : World, (Op.equalIn 10000 33 (.agg #[.int .i64 r1, .int .i64 r2, .int .i64 r3, .int .i64 r4, .int .i64 r5, .int .i64 r6, .int .i64 r7, .int .i64 r8, .int .i64 r9]) (.agg #[.int .i64 r1, .int .i64 r2, .int .i64 r3, .int .i64 r4, .int .i64 r5, .int .i64 r6, .int .i64 r7, .int .i64 r8, .int .i64 r9])).run Try.prog w = .ok true w := fun w => (St.eq_arr 9998 33 9 Try.underlying33 [r1, r2, r3, r4, r5, r6, r7, r8, r9] [r1, r2, r3, r4, r5, r6, r7, r8, r9] w rfl rfl).trans (by rw [decide_eq_true rfl])
    have heq2 : ∀ w : World, (Op.equalIn 10000 33 (.agg #[.int .i64 0, .int .i64 655360, .int .i64 786432, .int .i64 0, .int .i64 0, .int .i64 0, .int .i64 0, .int .i64 0, .int .i64 1]) (.agg #[.int .i64 0, .int .i64 655360, .int .i64 786432, .int .i64 0, .int .i64 0, .int .i64 0, .int .i64 0, .int .i64 0, .int .i64 1])).run Try.prog w = .ok true w := fun w => (St.eq_arr 9998 33 9 Try.underlying33 [0, 655360, 786432, 0, 0, 0, 0, 0, 1] [0, 655360, 786432, 0, 0, 0, 0, 0, 1] w rfl rfl).trans (by rw [decide_eq_true rfl])
    go_enter Try.func4, Try.ntmps4
    go_upto_region 3 with (first | (go_at_call 9; (with_reducible refine (colophonlaw20_large.calls k _ _ l0 _ _ l1 false _ (Kd.C_below HR0.out (below_alloc (Below.refl _ _) _)) HC0.out (Kd.C_below HR1.out (below_alloc (Below.refl _ _) _)) HC1.out AG.out).mono ?_); rintro e w5 ⟨rfl, hb⟩; have n5_ := Aside0.mk (Z5.out.below hb); have nB_ := Aside0.mk (below_step (below_alloc (Below.refl w.heap.size w) _) hb); clear Z5; have Z5 := n5_; have HB := nB_; clear n5_ nB_ hb))
    obtain ⟨g0, g1, g2, g3, g4, g5, g6, g7, g8⟩ := Z5.out.nine
    go_wp2
    go_region_with (first | (go_at_call 11; (with_reducible refine (colophonref19_Copy.calls k _ _ l0 t1 _ ?_ HC0.out AC.out).mono ?_); (exact Kd.C_drew (Kd.C_below HR0.out HB.out)); rintro e w6 ⟨v6, rfl, ho, hb0⟩; have hb : Below w5.heap.size w5 w6 := below_step (below_drew1 (Below.refl _ _)) hb0; obtain ⟨A6, c6, e6⟩ := Kd.R_slice ho; subst e6; have HO6 := Aside0.mk (Kd.R_reads' ho).2; clear g0 g1 g2 g3 g4 g5 g6 g7 g8; have n5_ := Aside0.mk (Z5.out.below hb); have nB_ := Aside0.mk (below_step HB.out hb); clear Z5 HB; have Z5 := n5_; have HB := nB_; clear n5_ nB_; clear hb hb0 ho; obtain ⟨g0, g1, g2, g3, g4, g5, g6, g7, g8⟩ := Z5.out.nine) | (go_at_call 13; (with_reducible refine (colophonlaw20_twin.calls k _ _ l1 t2 _ (Kd.C_below HR1.out HB.out) HC1.out AT.out).mono ?_); rintro e w7 ⟨v7, rfl, ho, hb⟩; obtain ⟨A7, c7, e7⟩ := Kd.S_slice ho; subst e7; have HO7 := Aside0.mk (Kd.S_reads' ho).2; have no_ := Aside0.mk (And.intro HO6.out.1 (Kd.C_below HO6.out.2 hb)); clear HO6; have HO6 := no_; clear g0 g1 g2 g3 g4 g5 g6 g7 g8; have n5_ := Aside0.mk (Z5.out.below hb); have nB_ := Aside0.mk (below_step HB.out hb); clear Z5 HB; have Z5 := n5_; have HB := nB_; clear n5_ nB_; clear hb ho no_; obtain ⟨g0, g1, g2, g3, g4, g5, g6, g7, g8⟩ := Z5.out.nine) | (go_at_call 16; (with_reducible refine (style_Of.calls k _ _ t1 _ _ t2 a2_0 a2_1 a2_2 a2_3 a2_4 a2_5 a2_6 a2_7 a2_8 r1 r2 r3 r4 r5 r6 r7 r8 r9 _ HO6.out.2 HO6.out.1 HO7.out.2 HO7.out.1 AO.out).mono ?_); rintro e w8 ⟨rfl, hb⟩; clear g0 g1 g2 g3 g4 g5 g6 g7 g8; have n5_ := Aside0.mk (Z5.out.below hb); have nB_ := Aside0.mk (below_step HB.out hb); clear Z5 HB; have Z5 := n5_; have HB := nB_; clear n5_ nB_; clear hb; obtain ⟨g0, g1, g2, g3, g4, g5, g6, g7, g8⟩ := Z5.out.nine) | (go_at_call 17; (with_reducible refine (colophonref20_Of.calls k _ _ l0 _ _ l1 a2_0 a2_1 a2_2 a2_3 a2_4 a2_5 a2_6 a2_7 a2_8 r1 r2 r3 r4 r5 r6 r7 r8 r9 _ (Kd.C_below HR0.out HB.out) HC0.out (Kd.C_below HR1.out HB.out) HC1.out AR.out).mono ?_); rintro e w9 ⟨rfl, hb⟩; clear g0 g1 g2 g3 g4 g5 g6 g7 g8; have n5_ := Aside0.mk (Z5.out.below hb); have nB_ := Aside0.mk (below_step HB.out hb); clear Z5 HB; have Z5 := n5_; have HB := nB_; clear n5_ nB_; clear hb; obtain ⟨g0, g1, g2, g3, g4, g5, g6, g7, g8⟩ := Z5.out.nine) | (go_at_call 18; (with_reducible refine (style_First.calls 0 655360 786432 0 0 0 0 0 1 _ rfl).mono ?_); rintro e w10 ⟨rfl, hb⟩; clear g0 g1 g2 g3 g4 g5 g6 g7 g8; have n5_ := Aside0.mk (Z5.out.below hb); have nB_ := Aside0.mk (below_step HB.out hb); clear Z5 HB; have Z5 := n5_; have HB := nB_; clear n5_ nB_; clear hb; obtain ⟨g0, g1, g2, g3, g4, g5, g6, g7, g8⟩ := Z5.out.nine) | (go_at_call 19; (with_reducible refine (colophonref20_First.calls 0 655360 786432 0 0 0 0 0 1 _ rfl).mono ?_); rintro e w11 ⟨rfl, hb⟩; clear g0 g1 g2 g3 g4 g5 g6 g7 g8; have n5_ := Aside0.mk (Z5.out.below hb); have nB_ := Aside0.mk (below_step HB.out hb); clear Z5 HB; have Z5 := n5_; have HB := nB_; clear n5_ nB_; clear hb; obtain ⟨g0, g1, g2, g3, g4, g5, g6, g7, g8⟩ := Z5.out.nine) | (go_at_call 10; (with_reducible refine (colophonlaw20_wakes.calls k r _ AW.out).mono ?_); rintro e w12 ⟨rfl, hb⟩; clear g0 g1 g2 g3 g4 g5 g6 g7 g8; have n5_ := Aside0.mk (Z5.out.below hb); have nB_ := Aside0.mk (below_step HB.out hb); clear Z5 HB; have Z5 := n5_; have HB := nB_; clear n5_ nB_; clear hb; obtain ⟨g0, g1, g2, g3, g4, g5, g6, g7, g8⟩ := Z5.out.nine))
    all_goals go_wp2
    all_goals go_ret
    all_goals exact ⟨rfl, HB.out⟩
end Go.Proofs.Ytpembifnjlekdaa.PStyleIs
