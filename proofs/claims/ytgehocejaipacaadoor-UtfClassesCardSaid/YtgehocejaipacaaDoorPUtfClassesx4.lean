-- Written by a copy of the print that this session has turned (wip/tools/patchprint.py): arrays as records.
import Derived.Test.YtgehocejaipacaaDoorPUtfClassesx0
import Derived.Test.YtgehocejaipacaaDoorPUtfClassesx2
import Derived.Test.YtgehocejaipacaaDoorPUtfClassesx3
namespace Go.Proofs.YtgehocejaipacaaDoor.PUtfClasses
open Go.RowKit Go.Proofs.YtgehocejaipacaaDoorW.PrintWords Go.Proofs.YtgehocejaipacaaDoorW.PrintLast Go.Proofs.YtgehocejaipacaaDoorW.PrintMore
attribute [local go_sem] max2_int min2_int max_two min_two max_three min_three max_four min_four   -- for this text's walks alone
set_option linter.unusedVariables false
set_option linter.unusedSimpArgs false

/-! ### colophonlaw04_UtfClasses: function 4 -/
def colophonlaw04_UtfClasses.f (k : Nat) (a0 : Int) : Option (Bool) := (utf_Class.f k a0).bind fun t123 => ((colophonref04_Class.f k a0).bind fun t124 => (if t123 = t124 then ((utf_Lower.f a0).bind fun t125 => ((colophonref04_Lower.f a0).bind fun t126 => (if t125 = t126 then ((utf_Lower.f a0).bind fun t127 => ((utf_Lower.f t127).bind fun t128 => ((utf_Lower.f a0).bind fun t129 => (if t128 = t129 then ((colophonlaw04_wakes.f k).bind fun t130 => (some t130)) else (some false))))) else (some false)))) else (some false)))
theorem colophonlaw04_UtfClasses.mono : ∀ a0 k, LeO (colophonlaw04_UtfClasses.f k a0) (colophonlaw04_UtfClasses.f (k + 1) a0) := by
  intro a0 k
  unfold colophonlaw04_UtfClasses.f
  repeat' first
      | (with_reducible exact colophonlaw04_wakes.mono _)
      | (with_reducible exact colophonref04_Class.mono _ _)
      | (with_reducible exact utf_Class.mono _ _)
      | (with_reducible exact LeO.refl _)
      | (with_reducible exact LeO.none _)
      | (with_reducible refine LeO.ite ?_ ?_)
      | (with_reducible refine LeO.bind ?_ (fun _ => ?_))
      | exact colophonlaw04_wakes.mono _
      | exact colophonref04_Class.mono _ _
      | exact utf_Class.mono _ _
      | exact LeO.none _
      | refine LeO.ite ?_ ?_
      | refine LeO.bind ?_ (fun _ => ?_)
set_option maxHeartbeats 8000000 in
set_option maxRecDepth 100000 in
theorem colophonlaw04_UtfClasses.calls (k : Nat) (a0 : Int) (r : Bool) (w : World) (hLW : Lw w) (h : colophonlaw04_UtfClasses.f k a0 = some r) :
    Calls Tryd.prog 4 #[.int .i64 a0] w fun e w' => e = .returned (.bool r) ∧ Below w.heap.size w w' := by
  have HB := Aside0.mk (Below.refl w.heap.size w)
  have H : ((utf_Class.f k a0).bind fun t123 => ((colophonref04_Class.f k a0).bind fun t124 => (if t123 = t124 then ((utf_Lower.f a0).bind fun t125 => ((colophonref04_Lower.f a0).bind fun t126 => (if t125 = t126 then ((utf_Lower.f a0).bind fun t127 => ((utf_Lower.f t127).bind fun t128 => ((utf_Lower.f a0).bind fun t129 => (if t128 = t129 then ((colophonlaw04_wakes.f k).bind fun t130 => (some t130)) else (some false))))) else (some false)))) else (some false)))) = some r := h
  clear h
  replace H := Option.bind_eq_some_iff.mp H
  obtain ⟨t123, A20, H⟩ := H
  replace H : ((colophonref04_Class.f k a0).bind fun t124 => (if t123 = t124 then ((utf_Lower.f a0).bind fun t125 => ((colophonref04_Lower.f a0).bind fun t126 => (if t125 = t126 then ((utf_Lower.f a0).bind fun t127 => ((utf_Lower.f t127).bind fun t128 => ((utf_Lower.f a0).bind fun t129 => (if t128 = t129 then ((colophonlaw04_wakes.f k).bind fun t130 => (some t130)) else (some false))))) else (some false)))) else (some false))) = some r := H
  have A2 := Aside0.mk A20
  clear A20
  replace H := Option.bind_eq_some_iff.mp H
  obtain ⟨t124, A30, H⟩ := H
  replace H : (if t123 = t124 then ((utf_Lower.f a0).bind fun t125 => ((colophonref04_Lower.f a0).bind fun t126 => (if t125 = t126 then ((utf_Lower.f a0).bind fun t127 => ((utf_Lower.f t127).bind fun t128 => ((utf_Lower.f a0).bind fun t129 => (if t128 = t129 then ((colophonlaw04_wakes.f k).bind fun t130 => (some t130)) else (some false))))) else (some false)))) else (some false)) = some r := H
  have A3 := Aside0.mk A30
  clear A30
  by_cases c4 : t123 = t124
  · rw [if_pos c4] at H
    have c4b0 : (t123 == t124) = true := beq_iff_eq.mpr c4
    have c4b1 : (t123 != t124) = false := bne_eq_false_iff_eq.mpr c4
    clear c4
    replace H := Option.bind_eq_some_iff.mp H
    obtain ⟨t125, A50, H⟩ := H
    replace H : ((colophonref04_Lower.f a0).bind fun t126 => (if t125 = t126 then ((utf_Lower.f a0).bind fun t127 => ((utf_Lower.f t127).bind fun t128 => ((utf_Lower.f a0).bind fun t129 => (if t128 = t129 then ((colophonlaw04_wakes.f k).bind fun t130 => (some t130)) else (some false))))) else (some false))) = some r := H
    have A5 := Aside0.mk A50
    clear A50
    replace H := Option.bind_eq_some_iff.mp H
    obtain ⟨t126, A60, H⟩ := H
    replace H : (if t125 = t126 then ((utf_Lower.f a0).bind fun t127 => ((utf_Lower.f t127).bind fun t128 => ((utf_Lower.f a0).bind fun t129 => (if t128 = t129 then ((colophonlaw04_wakes.f k).bind fun t130 => (some t130)) else (some false))))) else (some false)) = some r := H
    have A6 := Aside0.mk A60
    clear A60
    by_cases c7 : t125 = t126
    · rw [if_pos c7] at H
      have c7b0 : (t125 == t126) = true := beq_iff_eq.mpr c7
      have c7b1 : (t125 != t126) = false := bne_eq_false_iff_eq.mpr c7
      clear c7
      replace H := Option.bind_eq_some_iff.mp H
      obtain ⟨t127, A80, H⟩ := H
      obtain rfl : t125 = t127 := Option.some.inj (A5.out.symm.trans A80)
      replace H : ((utf_Lower.f t125).bind fun t128 => ((utf_Lower.f a0).bind fun t129 => (if t128 = t129 then ((colophonlaw04_wakes.f k).bind fun t130 => (some t130)) else (some false)))) = some r := H
      have A8 := Aside0.mk A80
      clear A80
      replace H := Option.bind_eq_some_iff.mp H
      obtain ⟨t128, A90, H⟩ := H
      replace H : ((utf_Lower.f a0).bind fun t129 => (if t128 = t129 then ((colophonlaw04_wakes.f k).bind fun t130 => (some t130)) else (some false))) = some r := H
      have A9 := Aside0.mk A90
      clear A90
      replace H := Option.bind_eq_some_iff.mp H
      obtain ⟨t129, A100, H⟩ := H
      obtain rfl : t125 = t129 := Option.some.inj (A5.out.symm.trans A100)
      replace H : (if t128 = t125 then ((colophonlaw04_wakes.f k).bind fun t130 => (some t130)) else (some false)) = some r := H
      have A10 := Aside0.mk A100
      clear A100
      by_cases c11 : t128 = t125
      · rw [if_pos c11] at H
        have c11b0 : (t128 == t125) = true := beq_iff_eq.mpr c11
        have c11b1 : (t128 != t125) = false := bne_eq_false_iff_eq.mpr c11
        clear c11
        replace H := Option.bind_eq_some_iff.mp H
        obtain ⟨t130, A120, H⟩ := H
        replace H : (some t130) = some r := H
        have A12 := Aside0.mk A120
        clear A120
        obtain rfl := Option.some.inj H
        go_enter Tryd.func4, Tryd.ntmps4
        go_wp2_with (first | ((with_reducible refine gate_callee (f := 14) rfl ?_); refine goesL_ (some 4) rfl rfl Tryd.func14 (by kernel_rfl) rfl #[.int .i64 a0] rfl (by (try simp only [List.map_toArray, List.map_cons, List.map_nil]); first | done | rfl | (simp only [List.length_drop, List.length_take]; rfl)) ?_; (with_reducible refine (utf_Class.calls k a0 t123 _ A2.out).mono ?_); rintro e w' ⟨rfl, ⟨nd, rfl⟩⟩; refine ⟨_, rfl, ?_⟩) | ((with_reducible refine gate_callee (f := 15) rfl ?_); refine goesL_ (some 6) rfl rfl Tryd.func15 (by kernel_rfl) rfl #[.int .i64 a0] rfl (by (try simp only [List.map_toArray, List.map_cons, List.map_nil]); first | done | rfl | (simp only [List.length_drop, List.length_take]; rfl)) ?_; (with_reducible refine (colophonref04_Class.calls k a0 t124 _ A3.out).mono ?_); rintro e w' ⟨rfl, ⟨nd, rfl⟩⟩; refine ⟨_, rfl, ?_⟩) | (go_at_call 16; (with_reducible refine (utf_Lower.calls a0 t125 _ A5.out).mono ?_); rintro e w' ⟨rfl, ⟨nd, rfl⟩⟩) | (go_at_call 17; (with_reducible refine (colophonref04_Lower.calls a0 t126 _ A6.out).mono ?_); rintro e w' ⟨rfl, ⟨nd, rfl⟩⟩) | (go_at_call 16; (with_reducible refine (utf_Lower.calls a0 t125 _ A8.out).mono ?_); rintro e w' ⟨rfl, ⟨nd, rfl⟩⟩) | (go_at_call 16; (with_reducible refine (utf_Lower.calls t125 t128 _ A9.out).mono ?_); rintro e w' ⟨rfl, ⟨nd, rfl⟩⟩) | (go_at_call 16; (with_reducible refine (utf_Lower.calls a0 t125 _ A10.out).mono ?_); rintro e w' ⟨rfl, ⟨nd, rfl⟩⟩) | (go_at_call 10; (with_reducible refine (colophonlaw04_wakes.calls k  t130 _ ?side1 A12.out).mono ?_); (case side1 => exact Lw.below hLW (by repeat (first | (with_reducible first | exact HB.out | apply below_alloc | apply pw_below_drewN | apply below_drew1) | exact HB.out))); rintro e w13 ⟨rfl, hb⟩; have n0_ := Aside0.mk (below_step (by repeat (first | (with_reducible first | exact HB.out | apply below_alloc | apply pw_below_drewN | apply below_drew1) | exact HB.out)) hb); clear HB; have HB := n0_; clear n0_; (try clear hb); (try clear hb2); (try clear hk); (try clear hi)))
        go_ret
        exact ⟨by first | rfl | (simp [errW_none, errW_some] <;> rfl) | (simp [*, errW_none, errW_some] <;> rfl), by repeat (first | (with_reducible first | exact HB.out | apply below_alloc | apply pw_below_drewN | apply below_drew1) | exact HB.out)⟩
      · rw [if_neg c11] at H
        have c11b0 : (t128 == t125) = false := beq_eq_false_iff_ne.mpr c11
        have c11b1 : (t128 != t125) = true := bne_iff_ne.mpr c11
        obtain rfl := Option.some.inj H
        go_enter Tryd.func4, Tryd.ntmps4
        go_wp2_with (first | ((with_reducible refine gate_callee (f := 14) rfl ?_); refine goesL_ (some 4) rfl rfl Tryd.func14 (by kernel_rfl) rfl #[.int .i64 a0] rfl (by (try simp only [List.map_toArray, List.map_cons, List.map_nil]); first | done | rfl | (simp only [List.length_drop, List.length_take]; rfl)) ?_; (with_reducible refine (utf_Class.calls k a0 t123 _ A2.out).mono ?_); rintro e w' ⟨rfl, ⟨nd, rfl⟩⟩; refine ⟨_, rfl, ?_⟩) | ((with_reducible refine gate_callee (f := 15) rfl ?_); refine goesL_ (some 6) rfl rfl Tryd.func15 (by kernel_rfl) rfl #[.int .i64 a0] rfl (by (try simp only [List.map_toArray, List.map_cons, List.map_nil]); first | done | rfl | (simp only [List.length_drop, List.length_take]; rfl)) ?_; (with_reducible refine (colophonref04_Class.calls k a0 t124 _ A3.out).mono ?_); rintro e w' ⟨rfl, ⟨nd, rfl⟩⟩; refine ⟨_, rfl, ?_⟩) | (go_at_call 16; (with_reducible refine (utf_Lower.calls a0 t125 _ A5.out).mono ?_); rintro e w' ⟨rfl, ⟨nd, rfl⟩⟩) | (go_at_call 17; (with_reducible refine (colophonref04_Lower.calls a0 t126 _ A6.out).mono ?_); rintro e w' ⟨rfl, ⟨nd, rfl⟩⟩) | (go_at_call 16; (with_reducible refine (utf_Lower.calls a0 t125 _ A8.out).mono ?_); rintro e w' ⟨rfl, ⟨nd, rfl⟩⟩) | (go_at_call 16; (with_reducible refine (utf_Lower.calls t125 t128 _ A9.out).mono ?_); rintro e w' ⟨rfl, ⟨nd, rfl⟩⟩) | (go_at_call 16; (with_reducible refine (utf_Lower.calls a0 t125 _ A10.out).mono ?_); rintro e w' ⟨rfl, ⟨nd, rfl⟩⟩))
        go_ret
        exact ⟨by first | rfl | (simp [errW_none, errW_some] <;> rfl) | (simp [*, errW_none, errW_some] <;> rfl), by repeat (first | (with_reducible first | exact HB.out | apply below_alloc | apply pw_below_drewN | apply below_drew1) | exact HB.out)⟩
    · rw [if_neg c7] at H
      have c7b0 : (t125 == t126) = false := beq_eq_false_iff_ne.mpr c7
      have c7b1 : (t125 != t126) = true := bne_iff_ne.mpr c7
      obtain rfl := Option.some.inj H
      go_enter Tryd.func4, Tryd.ntmps4
      go_wp2_with (first | ((with_reducible refine gate_callee (f := 14) rfl ?_); refine goesL_ (some 4) rfl rfl Tryd.func14 (by kernel_rfl) rfl #[.int .i64 a0] rfl (by (try simp only [List.map_toArray, List.map_cons, List.map_nil]); first | done | rfl | (simp only [List.length_drop, List.length_take]; rfl)) ?_; (with_reducible refine (utf_Class.calls k a0 t123 _ A2.out).mono ?_); rintro e w' ⟨rfl, ⟨nd, rfl⟩⟩; refine ⟨_, rfl, ?_⟩) | ((with_reducible refine gate_callee (f := 15) rfl ?_); refine goesL_ (some 6) rfl rfl Tryd.func15 (by kernel_rfl) rfl #[.int .i64 a0] rfl (by (try simp only [List.map_toArray, List.map_cons, List.map_nil]); first | done | rfl | (simp only [List.length_drop, List.length_take]; rfl)) ?_; (with_reducible refine (colophonref04_Class.calls k a0 t124 _ A3.out).mono ?_); rintro e w' ⟨rfl, ⟨nd, rfl⟩⟩; refine ⟨_, rfl, ?_⟩) | (go_at_call 16; (with_reducible refine (utf_Lower.calls a0 t125 _ A5.out).mono ?_); rintro e w' ⟨rfl, ⟨nd, rfl⟩⟩) | (go_at_call 17; (with_reducible refine (colophonref04_Lower.calls a0 t126 _ A6.out).mono ?_); rintro e w' ⟨rfl, ⟨nd, rfl⟩⟩))
      go_ret
      exact ⟨by first | rfl | (simp [errW_none, errW_some] <;> rfl) | (simp [*, errW_none, errW_some] <;> rfl), by repeat (first | (with_reducible first | exact HB.out | apply below_alloc | apply pw_below_drewN | apply below_drew1) | exact HB.out)⟩
  · rw [if_neg c4] at H
    have c4b0 : (t123 == t124) = false := beq_eq_false_iff_ne.mpr c4
    have c4b1 : (t123 != t124) = true := bne_iff_ne.mpr c4
    obtain rfl := Option.some.inj H
    go_enter Tryd.func4, Tryd.ntmps4
    go_wp2_with (first | ((with_reducible refine gate_callee (f := 14) rfl ?_); refine goesL_ (some 4) rfl rfl Tryd.func14 (by kernel_rfl) rfl #[.int .i64 a0] rfl (by (try simp only [List.map_toArray, List.map_cons, List.map_nil]); first | done | rfl | (simp only [List.length_drop, List.length_take]; rfl)) ?_; (with_reducible refine (utf_Class.calls k a0 t123 _ A2.out).mono ?_); rintro e w' ⟨rfl, ⟨nd, rfl⟩⟩; refine ⟨_, rfl, ?_⟩) | ((with_reducible refine gate_callee (f := 15) rfl ?_); refine goesL_ (some 6) rfl rfl Tryd.func15 (by kernel_rfl) rfl #[.int .i64 a0] rfl (by (try simp only [List.map_toArray, List.map_cons, List.map_nil]); first | done | rfl | (simp only [List.length_drop, List.length_take]; rfl)) ?_; (with_reducible refine (colophonref04_Class.calls k a0 t124 _ A3.out).mono ?_); rintro e w' ⟨rfl, ⟨nd, rfl⟩⟩; refine ⟨_, rfl, ?_⟩))
    go_ret
    exact ⟨by first | rfl | (simp [errW_none, errW_some] <;> rfl) | (simp [*, errW_none, errW_some] <;> rfl), by repeat (first | (with_reducible first | exact HB.out | apply below_alloc | apply pw_below_drewN | apply below_drew1) | exact HB.out)⟩

end Go.Proofs.YtgehocejaipacaaDoor.PUtfClasses
