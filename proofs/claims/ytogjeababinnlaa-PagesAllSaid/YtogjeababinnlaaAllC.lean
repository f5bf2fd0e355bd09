/- For PagesAll: the law's own function, walked by hand. -/
import Derived.Test.YtogjeababinnlaaPPagesAllx4
import Derived.Test.YtogjeababinnlaaAllW
namespace Go.Proofs.Ytogjeababinnlaa.PPagesAll
open Go.RowKit Go.Proofs.YtogjeababinnlaaW.PrintWords Go.Proofs.YtogjeababinnlaaW.PrintLast Go.Proofs.YtogjeababinnlaaW.PrintMore
attribute [local go_sem] max2_int min2_int max_two min_two max_three min_three max_four min_four
set_option linter.unusedVariables false
set_option linter.unusedSimpArgs false
def colophonlaw27_PagesAll.f (k : Nat) (l : List S43) (h : Int) : Option Bool :=
  if 20 < l.length then colophonlaw27_wakes.f k else (colophonref27_Good.f k l).bind fun t => if t = false ∨ h < 1 ∨ 1073741824 < h then colophonlaw27_wakes.f k else
    (tl l h k (3000, 0, false) [] none).bind fun Y => if Y.1 = 0 then colophonlaw27_wakes.f k else
      (colophonlaw27_twin.f l).bind fun t => (pages_Best.f k t h).bind fun B => if B.2.2 = Y.2.2 ∧ (B.2.2 = true → B.2.1 = Y.2.1) then colophonlaw27_wakes.f k else none
theorem heap_k43 : Kd.Heap k43 := Kd.heap_iso _ (Kd.heap_pair (Kd.heap_int _) (Kd.heap_pair (Kd.heap_int _) (Kd.heap_pair (Kd.heap_int _) (Kd.heap_int _))))
set_option maxHeartbeats 8000000 in
set_option maxRecDepth 100000 in
theorem colophonlaw27_PagesAll.calls (k : Nat) (A0 : Option Addr) (c0 : Nat) (l0 : List (S43)) (a1 : Int) (r : Bool) (w : World) (hr0 : Kd.C k43 w A0 l0.length l0) (hc0 : l0.length ≤ c0) (h : colophonlaw27_PagesAll.f k l0 a1 = some r) :
    Calls Try.prog 4 #[.slice A0 l0.length c0, .int .i64 a1] w fun e w' => e = .returned (.bool r) ∧ Below w.heap.size w w' := by
  have hu43 := Try.underlying43
  have HR0 := Aside0.mk hr0
  have HC0 := Aside0.mk hc0
  have HB := Aside0.mk (Below.refl w.heap.size w)
  clear hr0 hc0
  unfold colophonlaw27_PagesAll.f at h
  by_cases c1 : 20 < l0.length
  · rw [if_pos c1] at h
    have AW := Aside0.mk h
    have c1b : decide (20 < (l0.length : Int)) = true := decide_eq_true (by omega)
    have c1c : decide (20 < l0.length) = true := decide_eq_true c1
    clear h c1
    go_enter Try.func4, Try.ntmps4
    go_wp2_with (first | (go_at_call 11; (with_reducible refine (colophonlaw27_wakes.calls k r _ AW.out).mono ?_); rintro e w9 ⟨rfl, hb⟩; have n0_ := Aside0.mk (below_step (by repeat (first | (with_reducible first | exact HB.out | apply below_alloc | apply pw_below_drewN | apply below_drew1) | exact HB.out)) hb); clear HB; have HB := n0_; clear n0_; clear hb))
    go_ret
    exact ⟨rfl, (by repeat (first | (with_reducible first | exact HB.out | apply below_alloc | apply pw_below_drewN | apply below_drew1) | exact HB.out))⟩
  rw [if_neg c1] at h
  have c1b : decide (20 < (l0.length : Int)) = false := decide_eq_false (by omega)
  have c1c : decide (20 < l0.length) = false := decide_eq_false c1
  have HN := Aside0.mk c1
  clear c1
  obtain ⟨t, AG0, H⟩ := Option.bind_eq_some_iff.mp h
  have AG := Aside0.mk AG0
  clear AG0 h
  by_cases c2 : t = false ∨ a1 < 1 ∨ 1073741824 < a1
  · rw [if_pos c2] at H
    have AW := Aside0.mk H
    clear H
    cases t with
    | false =>
      clear c2
      go_enter Try.func4, Try.ntmps4
      go_wp2_with (first | (go_at_call 19; (with_reducible refine (colophonref27_Good.calls k _ _ l0 false _ (Kd.C_below HR0.out (by repeat (first | (with_reducible first | exact HB.out | apply below_alloc | apply pw_below_drewN | apply below_drew1) | exact HB.out))) HC0.out AG.out).mono ?_); rintro e w5 ⟨rfl, hb⟩; have n0_ := Aside0.mk (below_step (by repeat (first | (with_reducible first | exact HB.out | apply below_alloc | apply pw_below_drewN | apply below_drew1) | exact HB.out)) hb); clear HB; have HB := n0_; clear n0_; clear hb) | (go_at_call 11; (with_reducible refine (colophonlaw27_wakes.calls k r _ AW.out).mono ?_); rintro e w9 ⟨rfl, hb⟩; have n0_ := Aside0.mk (below_step (by repeat (first | (with_reducible first | exact HB.out | apply below_alloc | apply pw_below_drewN | apply below_drew1) | exact HB.out)) hb); clear HB; have HB := n0_; clear n0_; clear hb))
      go_ret
      exact ⟨rfl, (by repeat (first | (with_reducible first | exact HB.out | apply below_alloc | apply pw_below_drewN | apply below_drew1) | exact HB.out))⟩
    | true =>
      by_cases c3 : a1 < 1
      · have c3b : decide (a1 < 1) = true := decide_eq_true c3
        clear c2 c3
        go_enter Try.func4, Try.ntmps4
        go_wp2_with (first | (go_at_call 19; (with_reducible refine (colophonref27_Good.calls k _ _ l0 true _ (Kd.C_below HR0.out (by repeat (first | (with_reducible first | exact HB.out | apply below_alloc | apply pw_below_drewN | apply below_drew1) | exact HB.out))) HC0.out AG.out).mono ?_); rintro e w5 ⟨rfl, hb⟩; have n0_ := Aside0.mk (below_step (by repeat (first | (with_reducible first | exact HB.out | apply below_alloc | apply pw_below_drewN | apply below_drew1) | exact HB.out)) hb); clear HB; have HB := n0_; clear n0_; clear hb) | (go_at_call 11; (with_reducible refine (colophonlaw27_wakes.calls k r _ AW.out).mono ?_); rintro e w9 ⟨rfl, hb⟩; have n0_ := Aside0.mk (below_step (by repeat (first | (with_reducible first | exact HB.out | apply below_alloc | apply pw_below_drewN | apply below_drew1) | exact HB.out)) hb); clear HB; have HB := n0_; clear n0_; clear hb))
        go_ret
        exact ⟨rfl, (by repeat (first | (with_reducible first | exact HB.out | apply below_alloc | apply pw_below_drewN | apply below_drew1) | exact HB.out))⟩
      · have c4 : 1073741824 < a1 := c2.elim (fun x => by simp at x) (fun x => x.elim (fun y => absurd y c3) (fun y => y))
        have c3b : decide (a1 < 1) = false := decide_eq_false c3
        have c4b : decide (1073741824 < a1) = true := decide_eq_true c4
        clear c2 c3 c4
        go_enter Try.func4, Try.ntmps4
        go_wp2_with (first | (go_at_call 19; (with_reducible refine (colophonref27_Good.calls k _ _ l0 true _ (Kd.C_below HR0.out (by repeat (first | (with_reducible first | exact HB.out | apply below_alloc | apply pw_below_drewN | apply below_drew1) | exact HB.out))) HC0.out AG.out).mono ?_); rintro e w5 ⟨rfl, hb⟩; have n0_ := Aside0.mk (below_step (by repeat (first | (with_reducible first | exact HB.out | apply below_alloc | apply pw_below_drewN | apply below_drew1) | exact HB.out)) hb); clear HB; have HB := n0_; clear n0_; clear hb) | (go_at_call 11; (with_reducible refine (colophonlaw27_wakes.calls k r _ AW.out).mono ?_); rintro e w9 ⟨rfl, hb⟩; have n0_ := Aside0.mk (below_step (by repeat (first | (with_reducible first | exact HB.out | apply below_alloc | apply pw_below_drewN | apply below_drew1) | exact HB.out)) hb); clear HB; have HB := n0_; clear n0_; clear hb))
        go_ret
        exact ⟨rfl, (by repeat (first | (with_reducible first | exact HB.out | apply below_alloc | apply pw_below_drewN | apply below_drew1) | exact HB.out))⟩
  rw [if_neg c2] at H
  have ct : t = true := by cases t with | true => rfl | false => exact absurd (.inl rfl) c2
  subst ct
  have c3b : decide (a1 < 1) = false := decide_eq_false (fun x => c2 (.inr (.inl x)))
  have c4b : decide (1073741824 < a1) = false := decide_eq_false (fun x => c2 (.inr (.inr x)))
  clear c2
  obtain ⟨⟨y1, y2, y3⟩, AT0, H⟩ := Option.bind_eq_some_iff.mp H
  have AT := Aside0.mk AT0
  have HH := Aside0.mk H
  clear AT0 H
  go_enter Try.func4, Try.ntmps4
  go_upto_region 3 with (first | (go_at_call 19; (with_reducible refine (colophonref27_Good.calls k _ _ l0 true _ (Kd.C_below HR0.out (by repeat (first | (with_reducible first | exact HB.out | apply below_alloc | apply pw_below_drewN | apply below_drew1) | exact HB.out))) HC0.out AG.out).mono ?_); rintro e w5 ⟨rfl, hb⟩; have n0_ := Aside0.mk (below_step (by repeat (first | (with_reducible first | exact HB.out | apply below_alloc | apply pw_below_drewN | apply below_drew1) | exact HB.out)) hb); clear HB; have HB := n0_; clear n0_; clear hb))
  clear c1b c1c c3b c4b AG
  have C20 := Aside0.mk (fun (wa : World) (hs : St wa w5.heap.size A0 l0.length c0 a1 (3000, 0, false)) (h0 : ∀ W', KeepBut wa W' w5.heap.size none → Kd.C k43 W' A0 l0.length l0) => (show Calls Try.prog 20 #[.pointer (some ⟨w5.heap.size, 0, none⟩), .slice none 0 0] wa (fun e w' => e = .returned (.tuple #[]) ∧ St w' w5.heap.size A0 l0.length c0 a1 (y1, y2, y3) ∧ Rl w5.heap.size wa w') from try_calls l0 a1 A0 c0 w5.heap.size HC0.out (k + 1) k (Nat.lt_succ_self k) wa (3000, 0, false) (y1, y2, y3) [] none 0 hs h0 (fun W' _ => Kd.C_nil _ _) (Nat.le_refl _) AT.out))
  by_cases c5 : y1 = 0
  · have AW := Aside0.mk (show colophonlaw27_wakes.f k = some r by have := HH.out; rw [if_pos c5] at this; exact this)
    have c5b : (y1 == 0) = true := beq_iff_eq.mpr c5
    clear HH c5
    go_wp2_with (first | (go_at_call 20; (with_reducible refine (C20.out _ ?s ?h0).mono ?_); (case s => exact heap_alloc_new w5 _); (case h0 => exact Kd.C_foot_came heap_k43 HR0.out (below_alloc HB.out _) HB.out.size); rintro e w6 ⟨rfl, hs, hr⟩; have HS := Aside0.mk hs; have n0_ := Aside0.mk (below_step HB.out ((below_alloc (Below.refl w5.heap.size w5) _).trans hr.b)); clear HB; have HB := n0_; clear n0_ hs hr; obtain ⟨u0, u1, u2, u3, u4⟩ := HS.out.cells; clear u0 u1 u3 u4) | (go_at_call 11; (with_reducible refine (colophonlaw27_wakes.calls k r _ AW.out).mono ?_); rintro e w9 ⟨rfl, hb⟩; have n0_ := Aside0.mk (below_step (by repeat (first | (with_reducible first | exact HB.out | apply below_alloc | apply pw_below_drewN | apply below_drew1) | exact HB.out)) hb); clear HB; have HB := n0_; clear n0_; clear hb))
    go_ret
    exact ⟨rfl, (by repeat (first | (with_reducible first | exact HB.out | apply below_alloc | apply pw_below_drewN | apply below_drew1) | exact HB.out))⟩
  · have H := HH.out
    rw [if_neg c5] at H
    have c5b : (y1 == 0) = false := beq_eq_false_iff_ne.mpr c5
    clear HH c5
    obtain ⟨t, AV0, H⟩ := Option.bind_eq_some_iff.mp H
    obtain ⟨⟨b1, b2, b3⟩, AB0, H⟩ := Option.bind_eq_some_iff.mp H
    have AV := Aside0.mk AV0
    have AB := Aside0.mk AB0
    clear AV0 AB0
    by_cases c6 : b3 = y3 ∧ (b3 = true → b2 = y2)
    rotate_left
    · rw [if_neg c6] at H
      exact absurd H (by simp)
    rw [if_pos c6] at H
    have AW := Aside0.mk H
    clear H
    obtain ⟨c6, c7⟩ := c6
    subst c6
    cases b3 with
    | false =>
      clear c7
      go_wp2_with (first | (go_at_call 20; (with_reducible refine (C20.out _ ?s ?h0).mono ?_); (case s => exact heap_alloc_new w5 _); (case h0 => exact Kd.C_foot_came heap_k43 HR0.out (below_alloc HB.out _) HB.out.size); rintro e w6 ⟨rfl, hs, hr⟩; have HS := Aside0.mk hs; have n0_ := Aside0.mk (below_step HB.out ((below_alloc (Below.refl w5.heap.size w5) _).trans hr.b)); clear HB; have HB := n0_; clear n0_ hs hr; obtain ⟨u0, u1, u2, u3, u4⟩ := HS.out.cells; clear u0 u1 u3 u4) | (go_at_call 12; (with_reducible refine (colophonlaw27_twin.calls _ _ l0 t _ (Kd.C_below HR0.out (by repeat (first | (with_reducible first | exact HB.out | apply below_alloc | apply pw_below_drewN | apply below_drew1) | exact HB.out))) HC0.out AV.out).mono ?_); rintro e w7 ⟨v0, rfl, ho, hb⟩; obtain ⟨A7, c7, e7⟩ := Kd.R_slice ho; subst e7; have HO := Aside0.mk ho; have m0_ := Aside0.mk (HS.out.below hb); clear HS u2 ho; have HS := m0_; clear m0_; have n0_ := Aside0.mk (below_step (by repeat (first | (with_reducible first | exact HB.out | apply below_alloc | apply pw_below_drewN | apply below_drew1) | exact HB.out)) hb); clear HB; have HB := n0_; clear n0_; clear hb) | (go_at_call 15; (with_reducible refine (pages_Best.calls k _ _ t a1 b1 b2 _ _ (Kd.R_reads' HO.out).2.2 (Kd.R_reads' HO.out).2.1 AB.out).mono ?_); rintro e w8 ⟨v1, rfl, ho2, hb⟩; have m0_ := Aside0.mk (HS.out.below hb); clear HS ho2; have HS := m0_; clear m0_; obtain ⟨u0, u1, u2, u3, u4⟩ := HS.out.cells; clear u0 u1 u2; have n0_ := Aside0.mk (below_step (by repeat (first | (with_reducible first | exact HB.out | apply below_alloc | apply pw_below_drewN | apply below_drew1) | exact HB.out)) hb); clear HB; have HB := n0_; clear n0_; clear hb) | (go_at_call 11; (with_reducible refine (colophonlaw27_wakes.calls k r _ AW.out).mono ?_); rintro e w9 ⟨rfl, hb⟩; have n0_ := Aside0.mk (below_step (by repeat (first | (with_reducible first | exact HB.out | apply below_alloc | apply pw_below_drewN | apply below_drew1) | exact HB.out)) hb); clear HB; have HB := n0_; clear n0_; clear hb))
      go_ret
      exact ⟨rfl, (by repeat (first | (with_reducible first | exact HB.out | apply below_alloc | apply pw_below_drewN | apply below_drew1) | exact HB.out))⟩
    | true =>
      have c7b : (b2 == y2) = true := beq_iff_eq.mpr (c7 rfl)
      clear c7
      go_wp2_with (first | (go_at_call 20; (with_reducible refine (C20.out _ ?s ?h0).mono ?_); (case s => exact heap_alloc_new w5 _); (case h0 => exact Kd.C_foot_came heap_k43 HR0.out (below_alloc HB.out _) HB.out.size); rintro e w6 ⟨rfl, hs, hr⟩; have HS := Aside0.mk hs; have n0_ := Aside0.mk (below_step HB.out ((below_alloc (Below.refl w5.heap.size w5) _).trans hr.b)); clear HB; have HB := n0_; clear n0_ hs hr; obtain ⟨u0, u1, u2, u3, u4⟩ := HS.out.cells; clear u0 u1 u3 u4) | (go_at_call 12; (with_reducible refine (colophonlaw27_twin.calls _ _ l0 t _ (Kd.C_below HR0.out (by repeat (first | (with_reducible first | exact HB.out | apply below_alloc | apply pw_below_drewN | apply below_drew1) | exact HB.out))) HC0.out AV.out).mono ?_); rintro e w7 ⟨v0, rfl, ho, hb⟩; obtain ⟨A7, c7, e7⟩ := Kd.R_slice ho; subst e7; have HO := Aside0.mk ho; have m0_ := Aside0.mk (HS.out.below hb); clear HS u2 ho; have HS := m0_; clear m0_; have n0_ := Aside0.mk (below_step (by repeat (first | (with_reducible first | exact HB.out | apply below_alloc | apply pw_below_drewN | apply below_drew1) | exact HB.out)) hb); clear HB; have HB := n0_; clear n0_; clear hb) | (go_at_call 15; (with_reducible refine (pages_Best.calls k _ _ t a1 b1 b2 _ _ (Kd.R_reads' HO.out).2.2 (Kd.R_reads' HO.out).2.1 AB.out).mono ?_); rintro e w8 ⟨v1, rfl, ho2, hb⟩; have m0_ := Aside0.mk (HS.out.below hb); clear HS ho2; have HS := m0_; clear m0_; obtain ⟨u0, u1, u2, u3, u4⟩ := HS.out.cells; clear u0 u1 u2; have n0_ := Aside0.mk (below_step (by repeat (first | (with_reducible first | exact HB.out | apply below_alloc | apply pw_below_drewN | apply below_drew1) | exact HB.out)) hb); clear HB; have HB := n0_; clear n0_; clear hb) | (go_at_call 11; (with_reducible refine (colophonlaw27_wakes.calls k r _ AW.out).mono ?_); rintro e w9 ⟨rfl, hb⟩; have n0_ := Aside0.mk (below_step (by repeat (first | (with_reducible first | exact HB.out | apply below_alloc | apply pw_below_drewN | apply below_drew1) | exact HB.out)) hb); clear HB; have HB := n0_; clear n0_; clear hb))
      go_ret
      exact ⟨rfl, (by repeat (first | (with_reducible first | exact HB.out | apply below_alloc | apply pw_below_drewN | apply below_drew1) | exact HB.out))⟩
end Go.Proofs.Ytogjeababinnlaa.PPagesAll
