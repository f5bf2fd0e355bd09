-- Written by a copy of the print that this session has turned (wip/tools/patchprint.py): arrays as records.
import Derived.Test.YtogjeababinnlaaPPagesFlowx0
import Derived.Test.YtogjeababinnlaaPPagesFlowx4
import Derived.Test.YtogjeababinnlaaPPagesFlowx5
import Derived.Test.YtogjeababinnlaaPPagesFlowx6
import Derived.Test.YtogjeababinnlaaPPagesFlowx8
namespace Go.Proofs.Ytogjeababinnlaa.PPagesFlow
open Go.RowKit Go.Proofs.YtogjeababinnlaaW.PrintWords Go.Proofs.YtogjeababinnlaaW.PrintLast Go.Proofs.YtogjeababinnlaaW.PrintMore
attribute [local go_sem] max2_int min2_int max_two min_two max_three min_three max_four min_four   -- for this text's walks alone
set_option linter.unusedVariables false
set_option linter.unusedSimpArgs false

/-! ### colophonlaw27_PagesFlow: function 9 -/
def colophonlaw27_PagesFlow.l0 : Nat → List (S49) → List (S49) → Int → Option (Bool)
  | 0, _, _, _ => none
  | k + 1, x0, x5, x7 => if x7 < (x0.length : Int) then (if 0 ≤ x7 then (if x7 < (x5.length : Int) then ((colophonref27_SameBlock.f k ((rd_T49 x5 x7).f0) ((rd_T49 x5 x7).f1) ((rd_T49 x5 x7).f2) ((rd_T49 x5 x7).f3) ((rd_T49 x5 x7).f4) ((rd_T49 x5 x7).f5) ((rd_T49 x5 x7).f6) ((rd_T49 x0 x7).f0) ((rd_T49 x0 x7).f1) ((rd_T49 x0 x7).f2) ((rd_T49 x0 x7).f3) ((rd_T49 x0 x7).f4) ((rd_T49 x0 x7).f5) ((rd_T49 x0 x7).f6)).bind fun t230 => (if t230 = true then (colophonlaw27_PagesFlow.l0 k x0 x5 (wrap64 (x7 + 1))) else (none))) else (none)) else (none)) else ((colophonlaw27_wakes.f k).bind fun t231 => (some t231))
def colophonlaw27_PagesFlow.f (k : Nat) (l0 : List (S49)) (a1 : Int) : Option (Bool) := (colophonlaw27_long.f k l0).bind fun t216 => (if t216 = true then ((colophonlaw27_wakes.f k).bind fun t217 => (some t217)) else ((colophonref27_Copy.f k l0).bind fun t218 => ((pages_Flow.f k t218 a1).bind fun t221 => ((colophonref27_Flow.f k l0 a1).bind fun t224 => ((colophonlaw27_same.f k t221 t224).bind fun t227 => (if t227 = true then (colophonlaw27_PagesFlow.l0 k l0 t218 0) else (none)))))))
theorem colophonlaw27_PagesFlow.mono_l : ∀ k, (∀ y0 y1 y2, LeO (colophonlaw27_PagesFlow.l0 k y0 y1 y2) (colophonlaw27_PagesFlow.l0 (k + 1) y0 y1 y2))
  | 0 => fun _ _ _ r h => by simp [colophonlaw27_PagesFlow.l0] at h
  | k + 1 => by
    have ih0 := colophonlaw27_PagesFlow.mono_l k
    · intro y0 y1 y2
      unfold colophonlaw27_PagesFlow.l0
      repeat' first
      | (with_reducible exact ih0 _ _ _)
      | (with_reducible exact colophonlaw27_long.mono _ _)
      | (with_reducible exact colophonlaw27_same.mono _ _ _)
      | (with_reducible exact colophonlaw27_wakes.mono _)
      | (with_reducible exact colophonref27_Copy.mono _ _)
      | (with_reducible exact colophonref27_Flow.mono _ _ _)
      | (with_reducible exact colophonref27_SameBlock.mono _ _ _ _ _ _ _ _ _ _ _ _ _ _ _)
      | (with_reducible exact pages_Flow.mono _ _ _)
      | (with_reducible exact LeO.refl _)
      | (with_reducible exact LeO.none _)
      | (with_reducible refine LeO.ite ?_ ?_)
      | (with_reducible refine LeO.bind ?_ (fun _ => ?_))
      | exact ih0 _ _ _
      | exact colophonlaw27_long.mono _ _
      | exact colophonlaw27_same.mono _ _ _
      | exact colophonlaw27_wakes.mono _
      | exact colophonref27_Copy.mono _ _
      | exact colophonref27_Flow.mono _ _ _
      | exact colophonref27_SameBlock.mono _ _ _ _ _ _ _ _ _ _ _ _ _ _ _
      | exact pages_Flow.mono _ _ _
      | exact LeO.none _
      | refine LeO.ite ?_ ?_
      | refine LeO.bind ?_ (fun _ => ?_)
theorem colophonlaw27_PagesFlow.mono : ∀ a0 a1 k, LeO (colophonlaw27_PagesFlow.f k a0 a1) (colophonlaw27_PagesFlow.f (k + 1) a0 a1) := by
  intro a0 a1 k
  have ih0 := colophonlaw27_PagesFlow.mono_l k
  unfold colophonlaw27_PagesFlow.f
  repeat' first
      | (with_reducible exact ih0 _ _ _)
      | (with_reducible exact colophonlaw27_long.mono _ _)
      | (with_reducible exact colophonlaw27_same.mono _ _ _)
      | (with_reducible exact colophonlaw27_wakes.mono _)
      | (with_reducible exact colophonref27_Copy.mono _ _)
      | (with_reducible exact colophonref27_Flow.mono _ _ _)
      | (with_reducible exact colophonref27_SameBlock.mono _ _ _ _ _ _ _ _ _ _ _ _ _ _ _)
      | (with_reducible exact pages_Flow.mono _ _ _)
      | (with_reducible exact LeO.refl _)
      | (with_reducible exact LeO.none _)
      | (with_reducible refine LeO.ite ?_ ?_)
      | (with_reducible refine LeO.bind ?_ (fun _ => ?_))
      | exact ih0 _ _ _
      | exact colophonlaw27_long.mono _ _
      | exact colophonlaw27_same.mono _ _ _
      | exact colophonlaw27_wakes.mono _
      | exact colophonref27_Copy.mono _ _
      | exact colophonref27_Flow.mono _ _ _
      | exact colophonref27_SameBlock.mono _ _ _ _ _ _ _ _ _ _ _ _ _ _ _
      | exact pages_Flow.mono _ _ _
      | exact LeO.none _
      | refine LeO.ite ?_ ?_
      | refine LeO.bind ?_ (fun _ => ?_)
def colophonlaw27_PagesFlow.T10 : Bool × List (List Nat × List Nat) := (true, [([], []), ([], []), ([0, 1], [0, 1]), ([2], [2]), ([], []), ([], []), ([4, 5], [4, 5]), ([6], [6]), ([3, 7], [3, 7]), ([8], [8])])
def colophonlaw27_PagesFlow.B10 : List Nat := [0, 0, 3, 7, 0, 0, 48, 112, 255, 511]
theorem colophonlaw27_PagesFlow.tab10 : rtab .any (opsOf Try.f9 10) = colophonlaw27_PagesFlow.T10 := by kernel_rfl
theorem colophonlaw27_PagesFlow.bits10 : waitsOk colophonlaw27_PagesFlow.T10.2 colophonlaw27_PagesFlow.B10 = true := by kernel_rfl
set_option maxHeartbeats 8000000 in
set_option maxRecDepth 100000 in
theorem colophonlaw27_PagesFlow.calls (k : Nat) (A0 : Option Addr) (c0 : Nat) (l0 : List (S49)) (a1 : Int) (r : Bool) (w : World) (hr0 : Kd.C k49 w A0 l0.length l0) (hc0 : l0.length ≤ c0) (h : colophonlaw27_PagesFlow.f k l0 a1 = some r) :
    Calls Try.prog 9 #[.slice A0 l0.length c0, .int .i64 a1] w fun e w' => e = .returned (.bool r) ∧ Below w.heap.size w w' := by
  have hu49 := Try.underlying49
  have HR0 := Aside0.mk hr0
  have HC0 := Aside0.mk hc0
  clear hr0 hc0
  have HB := Aside0.mk (Below.refl w.heap.size w)
  have H : ((colophonlaw27_long.f k l0).bind fun t216 => (if t216 = true then ((colophonlaw27_wakes.f k).bind fun t217 => (some t217)) else ((colophonref27_Copy.f k l0).bind fun t218 => ((pages_Flow.f k t218 a1).bind fun t221 => ((colophonref27_Flow.f k l0 a1).bind fun t224 => ((colophonlaw27_same.f k t221 t224).bind fun t227 => (if t227 = true then (colophonlaw27_PagesFlow.l0 k l0 t218 0) else (none)))))))) = some r := h
  clear h
  replace H := Option.bind_eq_some_iff.mp H
  obtain ⟨t216, A30, H⟩ := H
  replace H : (if t216 = true then ((colophonlaw27_wakes.f k).bind fun t217 => (some t217)) else ((colophonref27_Copy.f k l0).bind fun t218 => ((pages_Flow.f k t218 a1).bind fun t221 => ((colophonref27_Flow.f k l0 a1).bind fun t224 => ((colophonlaw27_same.f k t221 t224).bind fun t227 => (if t227 = true then (colophonlaw27_PagesFlow.l0 k l0 t218 0) else (none))))))) = some r := H
  have A3 := Aside0.mk A30
  clear A30
  by_cases c4 : t216 = true
  · subst c4
    have H1 : ((colophonlaw27_wakes.f k).bind fun t217 => (some t217)) = some r := by rw [if_pos rfl] at H; exact H
    clear H
    have H := H1
    clear H1
    replace H := Option.bind_eq_some_iff.mp H
    obtain ⟨t217, A50, H⟩ := H
    replace H : (some t217) = some r := H
    have A5 := Aside0.mk A50
    clear A50
    obtain rfl := Option.some.inj H
    go_enter Try.func9, Try.ntmps9
    go_wp2_with (first | ((with_reducible refine gate_callee (f := 30) rfl ?_); refine goesL_ (some 9) rfl rfl Try.func30 (by kernel_rfl) rfl #[.slice A0 l0.length c0] rfl (by (try simp only [List.map_toArray, List.map_cons, List.map_nil]); first | done | rfl | (simp only [List.length_drop, List.length_take]; rfl)) ?_; (with_reducible refine (colophonlaw27_long.calls k _ _ l0 true _ ?side1 ?side2 A3.out).mono ?_); (case side1 => repeat (first | exact HR0.out | (with_reducible refine Kd.C_alloc ?_ _) | (with_reducible refine Kd.C_drewN ?_ _) | (with_reducible refine Kd.C_drew ?_))); (case side2 => exact HC0.out); rintro e w' ⟨rfl, ⟨nd, rfl⟩⟩; refine ⟨_, rfl, ?_⟩) | ((with_reducible refine gate_callee (f := 11) rfl ?_); refine goesL_ (some 10) rfl rfl Try.func11 (by kernel_rfl) rfl #[] rfl (by (try simp only [List.map_toArray, List.map_cons, List.map_nil]); first | done | rfl | (simp only [List.length_drop, List.length_take]; rfl)) ?_; (with_reducible refine (colophonlaw27_wakes.calls k  t217 _ A5.out).mono ?_); rintro e w6 ⟨rfl, hb⟩; refine ⟨_, rfl, ?_⟩; have n0_ := Aside0.mk (below_step (by repeat (first | (with_reducible first | exact HB.out | apply below_alloc | apply pw_below_drewN | apply below_drew1) | exact HB.out)) hb); clear HB; have HB := n0_; clear n0_; (try clear hb); (try clear hb2); (try clear hk); (try clear hi)))
    go_ret
    exact ⟨by first | rfl | (simp [errW_none, errW_some] <;> rfl) | (simp [*, errW_none, errW_some] <;> rfl), by repeat (first | (with_reducible first | exact HB.out | apply below_alloc | apply pw_below_drewN | apply below_drew1) | exact HB.out)⟩
  · replace c4 := Bool.eq_false_iff.mpr c4
    subst c4
    have H1 : ((colophonref27_Copy.f k l0).bind fun t218 => ((pages_Flow.f k t218 a1).bind fun t221 => ((colophonref27_Flow.f k l0 a1).bind fun t224 => ((colophonlaw27_same.f k t221 t224).bind fun t227 => (if t227 = true then (colophonlaw27_PagesFlow.l0 k l0 t218 0) else (none)))))) = some r := by rw [if_neg (show ¬ (false = true) by decide)] at H; exact H
    clear H
    have H := H1
    clear H1
    replace H := Option.bind_eq_some_iff.mp H
    obtain ⟨t218, A70, H⟩ := H
    replace H : ((pages_Flow.f k t218 a1).bind fun t221 => ((colophonref27_Flow.f k l0 a1).bind fun t224 => ((colophonlaw27_same.f k t221 t224).bind fun t227 => (if t227 = true then (colophonlaw27_PagesFlow.l0 k l0 t218 0) else (none))))) = some r := H
    have A7 := Aside0.mk A70
    clear A70
    replace H := Option.bind_eq_some_iff.mp H
    obtain ⟨t221, A80, H⟩ := H
    replace H : ((colophonref27_Flow.f k l0 a1).bind fun t224 => ((colophonlaw27_same.f k t221 t224).bind fun t227 => (if t227 = true then (colophonlaw27_PagesFlow.l0 k l0 t218 0) else (none)))) = some r := H
    have A8 := Aside0.mk A80
    clear A80
    replace H := Option.bind_eq_some_iff.mp H
    obtain ⟨t224, A90, H⟩ := H
    replace H : ((colophonlaw27_same.f k t221 t224).bind fun t227 => (if t227 = true then (colophonlaw27_PagesFlow.l0 k l0 t218 0) else (none))) = some r := H
    have A9 := Aside0.mk A90
    clear A90
    replace H := Option.bind_eq_some_iff.mp H
    obtain ⟨t227, A100, H⟩ := H
    replace H : (if t227 = true then (colophonlaw27_PagesFlow.l0 k l0 t218 0) else (none)) = some r := H
    have A10 := Aside0.mk A100
    clear A100
    by_cases c11 : t227 = true
    · subst c11
      have H1 : (colophonlaw27_PagesFlow.l0 k l0 t218 0) = some r := by rw [if_pos rfl] at H; exact H
      clear H
      have H := H1
      clear H1
      have H' := Aside0.mk H
      clear H
      go_enter Try.func9, Try.ntmps9
      go_wp2_with (first | ((with_reducible refine gate_callee (f := 30) rfl ?_); refine goesL_ (some 9) rfl rfl Try.func30 (by kernel_rfl) rfl #[.slice A0 l0.length c0] rfl (by (try simp only [List.map_toArray, List.map_cons, List.map_nil]); first | done | rfl | (simp only [List.length_drop, List.length_take]; rfl)) ?_; (with_reducible refine (colophonlaw27_long.calls k _ _ l0 false _ ?side1 ?side2 A3.out).mono ?_); (case side1 => repeat (first | exact HR0.out | (with_reducible refine Kd.C_alloc ?_ _) | (with_reducible refine Kd.C_drewN ?_ _) | (with_reducible refine Kd.C_drew ?_))); (case side2 => exact HC0.out); rintro e w' ⟨rfl, ⟨nd, rfl⟩⟩; refine ⟨_, rfl, ?_⟩) | ((with_reducible refine gate_callee (f := 31) rfl ?_); refine goesL_ (some 12) rfl rfl Try.func31 (by kernel_rfl) rfl #[.slice A0 l0.length c0] rfl (by (try simp only [List.map_toArray, List.map_cons, List.map_nil]); first | done | rfl | (simp only [List.length_drop, List.length_take]; rfl)) ?_; (with_reducible refine (colophonref27_Copy.calls k _ _ l0 t218 _ ?side1 ?side2 A7.out).mono ?_); (case side1 => repeat (first | exact HR0.out | (with_reducible refine Kd.C_alloc ?_ _) | (with_reducible refine Kd.C_drewN ?_ _) | (with_reducible refine Kd.C_drew ?_))); (case side2 => exact HC0.out); rintro e w12 ⟨v219, rfl, ho0, hb⟩; refine ⟨_, rfl, ?_⟩; have n0_ := Aside0.mk (Kd.S_lower ho0 (below_size (by repeat (first | (with_reducible first | exact HB.out | apply below_alloc | apply pw_below_drewN | apply below_drew1) | exact HB.out)))); have n1_ := Aside0.mk (below_step (by repeat (first | (with_reducible first | exact HB.out | apply below_alloc | apply pw_below_drewN | apply below_drew1) | exact HB.out)) hb); clear HB; have HO220 := n0_; have HB := n1_; clear n0_ n1_; (try clear hb); (try clear hb2); (try clear hk); (try clear hi); (try clear ho0); obtain ⟨Ao13, co13, eo13⟩ := Kd.S_slice HO220.out; subst eo13) | ((with_reducible refine gate_callee (f := 32) rfl ?_); refine goesL_ (some 15) rfl rfl Try.func32 (by kernel_rfl) rfl #[.slice Ao13 t218.length co13, .int .i64 a1] rfl (by (try simp only [List.map_toArray, List.map_cons, List.map_nil]); first | done | rfl | (simp only [List.length_drop, List.length_take]; rfl)) ?_; (with_reducible refine (pages_Flow.calls k _ _ t218 a1 t221 _ ?side1 ?side2 A8.out).mono ?_); (case side1 => repeat (first | exact (Kd.S_reads' HO220.out).2.2 | (with_reducible refine Kd.C_alloc ?_ _) | (with_reducible refine Kd.C_drewN ?_ _) | (with_reducible refine Kd.C_drew ?_))); (case side2 => exact (Kd.S_reads' HO220.out).2.1); rintro e w14 ⟨v222, rfl, ho0, hb⟩; refine ⟨_, rfl, ?_⟩; have n0_ := Aside0.mk (Kd.S_below (by (with_reducible repeat (first | apply Kd.S_alloc | apply Kd.S_drewN | apply Kd.S_drew)); exact HO220.out) hb); have n1_ := Aside0.mk (Kd.R_lower ho0 (below_size (by repeat (first | (with_reducible first | exact HB.out | apply below_alloc | apply pw_below_drewN | apply below_drew1) | exact HB.out)))); have n2_ := Aside0.mk (below_step (by repeat (first | (with_reducible first | exact HB.out | apply below_alloc | apply pw_below_drewN | apply below_drew1) | exact HB.out)) hb); clear HO220; clear HB; have HO220 := n0_; have HO223 := n1_; have HB := n2_; clear n0_ n1_ n2_; (try clear hb); (try clear hb2); (try clear hk); (try clear hi); (try clear ho0)) | ((with_reducible refine gate_callee (f := 33) rfl ?_); refine goesL_ (some 19) rfl rfl Try.func33 (by kernel_rfl) rfl #[.slice A0 l0.length c0, .int .i64 a1] rfl (by (try simp only [List.map_toArray, List.map_cons, List.map_nil]); first | done | rfl | (simp only [List.length_drop, List.length_take]; rfl)) ?_; (with_reducible refine (colophonref27_Flow.calls k _ _ l0 a1 t224 _ ?side1 ?side2 A9.out).mono ?_); (case side1 => repeat (first | exact (Kd.C_below HR0.out HB.out) | (with_reducible refine Kd.C_alloc ?_ _) | (with_reducible refine Kd.C_drewN ?_ _) | (with_reducible refine Kd.C_drew ?_))); (case side2 => exact HC0.out); rintro e w15 ⟨v225, rfl, ho0, hb⟩; refine ⟨_, rfl, ?_⟩; have n0_ := Aside0.mk (Kd.S_below (by (with_reducible repeat (first | apply Kd.S_alloc | apply Kd.S_drewN | apply Kd.S_drew)); exact HO220.out) hb); have n1_ := Aside0.mk (Kd.R_elder' (by (with_reducible repeat (first | apply Kd.R_alloc | apply Kd.R_drewN | apply Kd.R_drew)); exact HO223.out) (Kd.R_base ho0) hb); have n2_ := Aside0.mk (Kd.R_lower (Kd.R_new' ho0 (Kd.R_lt (by (with_reducible repeat (first | apply Kd.R_alloc | apply Kd.R_drewN | apply Kd.R_drew)); exact HO223.out))) (below_size (by repeat (first | (with_reducible first | exact HB.out | apply below_alloc | apply pw_below_drewN | apply below_drew1) | exact HB.out)))); have n3_ := Aside0.mk (below_step (by repeat (first | (with_reducible first | exact HB.out | apply below_alloc | apply pw_below_drewN | apply below_drew1) | exact HB.out)) hb); clear HO220; clear HO223; clear HB; have HO220 := n0_; have HO223 := n1_; have HO226 := n2_; have HB := n3_; clear n0_ n1_ n2_ n3_; (try clear hb); (try clear hb2); (try clear hk); (try clear hi); (try clear ho0); obtain ⟨Ao16, co16, eo16⟩ := Kd.R_slice HO223.out; subst eo16; obtain ⟨Ao17, co17, eo17⟩ := Kd.R_slice HO226.out; subst eo17) | ((with_reducible refine gate_callee (f := 18) rfl ?_); refine goesL_ (some 20) rfl rfl Try.func18 (by kernel_rfl) rfl #[.slice Ao16 t221.length co16, .slice Ao17 t224.length co17] rfl (by (try simp only [List.map_toArray, List.map_cons, List.map_nil]); first | done | rfl | (simp only [List.length_drop, List.length_take]; rfl)) ?_; (with_reducible refine (colophonlaw27_same.calls k _ _ t221 _ _ t224 true _ ?side1 ?side2 ?side3 ?side4 A10.out).mono ?_); (case side1 => repeat (first | exact (Kd.R_reads' HO223.out).2.2 | (with_reducible refine Kd.C_alloc ?_ _) | (with_reducible refine Kd.C_drewN ?_ _) | (with_reducible refine Kd.C_drew ?_))); (case side2 => exact (Kd.R_reads' HO223.out).2.1); (case side3 => repeat (first | exact (Kd.R_reads' HO226.out).2.2 | (with_reducible refine Kd.C_alloc ?_ _) | (with_reducible refine Kd.C_drewN ?_ _) | (with_reducible refine Kd.C_drew ?_))); (case side4 => exact (Kd.R_reads' HO226.out).2.1); rintro e w' ⟨rfl, ⟨nd, rfl⟩⟩; refine ⟨_, rfl, ?_⟩))
      go_loopg [7] k (fun kq v7 w' => ∃ (x7_1 : Int), v7 = .int .i64 x7_1 ∧ Aside0 (colophonlaw27_PagesFlow.l0 kq l0 t218 x7_1 = some r) ∧ Aside0 (kq ≤ k) ∧ Aside0 (Kd.S k49 49 w' w.heap.size (fun _ => True) (.slice Ao13 t218.length co13) t218) ∧ Aside0 (Below w.heap.size w w'))
      case atStart => exact ⟨(0), (by first | rfl | (simp; done) | (simp [*]; done)), H', ⟨Nat.le_refl _⟩, ⟨by (with_reducible repeat (first | apply Kd.S_alloc | apply Kd.S_drewN | apply Kd.S_drew)); exact HO220.out⟩, ⟨by repeat (first | (with_reducible first | exact HB.out | apply below_alloc | apply pw_below_drewN | apply below_drew1) | exact HB.out)⟩⟩
      case round =>
        clear H'
        try clear c1
        try clear p2
        try clear c3
        try clear c4
        try clear c9
        try clear c11
        obtain ⟨x7_1, rfl, HA, HK1, HO_5, HB⟩ := hrel
        cases gk with
        | zero => exact absurd HA.out (by simp [colophonlaw27_PagesFlow.l0])
        | succ k1 =>
          have H := HA.out
          clear HA
          simp only [colophonlaw27_PagesFlow.l0] at H
          by_cases c18 : x7_1 < (l0.length : Int)
          · rw [if_pos c18] at H
            have c18b0 : decide (x7_1 < (l0.length : Int)) = true := decide_eq_true c18
            clear c18
            by_cases c19 : 0 ≤ x7_1
            · rw [if_pos c19] at H
              have c19b0 : decide (0 ≤ x7_1) = true := decide_eq_true c19
              clear c19
              by_cases c20 : x7_1 < (t218.length : Int)
              · rw [if_pos c20] at H
                have c20b0 : decide (x7_1 < (t218.length : Int)) = true := decide_eq_true c20
                clear c20
                replace H := Option.bind_eq_some_iff.mp H
                obtain ⟨t230, A210, H⟩ := H
                replace H : (if t230 = true then (colophonlaw27_PagesFlow.l0 k1 l0 t218 (wrap64 (x7_1 + 1))) else (none)) = some r := H
                have A21 := Aside0.mk A210
                clear A210
                by_cases c22 : t230 = true
                · subst c22
                  have H1 : (colophonlaw27_PagesFlow.l0 k1 l0 t218 (wrap64 (x7_1 + 1))) = some r := by rw [if_pos rfl] at H; exact H
                  clear H
                  have H := H1
                  clear H1
                  have H' := Aside0.mk H
                  clear H
                  try go_wp2
                  have n0_ := Aside0.mk (Kd.S_drew HO_5.out)
                  have n1_ := Aside0.mk (below_drew1 HB.out)
                  clear HO_5
                  clear HB
                  have HO_5 := n0_
                  have HB := n1_
                  clear n0_ n1_
                  have p228 : 0 ≤ (x7_1 : Int) := of_decide_eq_true (by first | (with_reducible assumption) | assumption)
                  have q228 : x7_1 < (t218.length : Int) := of_decide_eq_true (by first | (with_reducible assumption) | assumption)
                  obtain ⟨ad228, A228_0, c228_0, A228_1, c228_1, A228_2, c228_2, e228, hx228_0, hx228_1, hx228_2, hx228_3, hx228_4, hx228_5, hx228_6, hl228_0, hi228_0, hl228_1, hi228_1, hl228_2, hi228_2⟩ := at_T49 (Kd.S_reads' HO_5.out).2.2 x7_1 p228 q228
                  cases e228
                  obtain ⟨ce228, hce228, hMe228, hcc228⟩ := Kd.S_get HO_5.out z49 x7_1 p228 (by first | exact q228 | exact of_decide_eq_true (by first | (with_reducible assumption) | assumption) | (have e_ := (Kd.S_reads' HO_5.out).1; omega))
                  obtain ⟨ve228_0, ve228_1, ve228_2, rfl, ge228_0, ge228_1, ge228_2⟩ := k49_openM hMe228
                  have hv228_0 := hcc228 0 _ rfl
                  rw [Nat.add_zero] at hv228_0
                  replace hv228_0 := Option.some.inj (hv228_0.symm.trans hx228_0)
                  rw [hv228_0] at ge228_0
                  have HL228_0 := Aside0.mk (show Kd.R (Kd.int .i64) 3 _ _ _ _ ((rd_T49 t218 x7_1).f0) from ge228_0)
                  clear hv228_0 ge228_0
                  have hv228_1 := hcc228 1 _ rfl
                  rw [add_field _ _ 1 (by omega)] at hv228_1
                  replace hv228_1 := Option.some.inj (hv228_1.symm.trans hx228_1)
                  rw [hv228_1] at ge228_1
                  have HL228_1 := Aside0.mk (show Kd.R (Kd.int .i64) 3 _ _ _ _ ((rd_T49 t218 x7_1).f1) from ge228_1)
                  clear hv228_1 ge228_1
                  have hv228_2 := hcc228 2 _ rfl
                  rw [add_field _ _ 2 (by omega)] at hv228_2
                  replace hv228_2 := Option.some.inj (hv228_2.symm.trans hx228_2)
                  rw [hv228_2] at ge228_2
                  have HL228_2 := Aside0.mk (show Kd.R (Kd.int .i64) 3 _ _ _ _ ((rd_T49 t218 x7_1).f2) from ge228_2)
                  clear hv228_2 ge228_2
                  clear hcc228 hce228
                  have HR228_0 := Aside0.mk hi228_0
                  have HC228_0 := Aside0.mk hl228_0
                  clear hi228_0 hl228_0
                  have HR228_1 := Aside0.mk hi228_1
                  have HC228_1 := Aside0.mk hl228_1
                  clear hi228_1 hl228_1
                  have HR228_2 := Aside0.mk hi228_2
                  have HC228_2 := Aside0.mk hl228_2
                  clear hi228_2 hl228_2
                  replace p228 := eq_true p228
                  replace q228 := eq_true q228
                  have p229 : 0 ≤ (x7_1 : Int) := of_decide_eq_true (by first | (with_reducible assumption) | assumption)
                  have q229 : x7_1 < (l0.length : Int) := of_decide_eq_true (by first | (with_reducible assumption) | assumption)
                  obtain ⟨ad229, A229_0, c229_0, A229_1, c229_1, A229_2, c229_2, e229, hx229_0, hx229_1, hx229_2, hx229_3, hx229_4, hx229_5, hx229_6, hl229_0, hi229_0, hl229_1, hi229_1, hl229_2, hi229_2⟩ := at_T49 HR0.out x7_1 p229 q229
                  have hw229_6 := hx229_6
                  have hw229_5 := hx229_5
                  have hw229_4 := hx229_4
                  have hw229_3 := hx229_3
                  have hw229_2 := hx229_2
                  have hw229_1 := hx229_1
                  have hw229_0 := hx229_0
                  cases e229
                  replace hx229_0 := (HB.out.cell (World.block_lt_of_cell? w _ hx229_0)).trans hx229_0
                  replace hx229_1 := (HB.out.cell (World.block_lt_of_cell? w _ hx229_1)).trans hx229_1
                  replace hx229_2 := (HB.out.cell (World.block_lt_of_cell? w _ hx229_2)).trans hx229_2
                  replace hx229_3 := (HB.out.cell (World.block_lt_of_cell? w _ hx229_3)).trans hx229_3
                  replace hx229_4 := (HB.out.cell (World.block_lt_of_cell? w _ hx229_4)).trans hx229_4
                  replace hx229_5 := (HB.out.cell (World.block_lt_of_cell? w _ hx229_5)).trans hx229_5
                  replace hx229_6 := (HB.out.cell (World.block_lt_of_cell? w _ hx229_6)).trans hx229_6
                  have HR229_0 := Aside0.mk hi229_0
                  have HC229_0 := Aside0.mk hl229_0
                  clear hi229_0 hl229_0
                  have HR229_1 := Aside0.mk hi229_1
                  have HC229_1 := Aside0.mk hl229_1
                  clear hi229_1 hl229_1
                  have HR229_2 := Aside0.mk hi229_2
                  have HC229_2 := Aside0.mk hl229_2
                  clear hi229_2 hl229_2
                  replace p229 := eq_true p229
                  replace q229 := eq_true q229
                  refine start_ (n := 10) (S := fun w' => w'.cell? (ad228.add ((x7_1).toNat * 7)) = some (.slice A228_0 ((rd_T49 t218 x7_1).f0).length c228_0) ∧ w'.cell? ⟨(ad228.add ((x7_1).toNat * 7)).block, (ad228.add ((x7_1).toNat * 7)).off + 1, none⟩ = some (.slice A228_1 ((rd_T49 t218 x7_1).f1).length c228_1) ∧ w'.cell? ⟨(ad228.add ((x7_1).toNat * 7)).block, (ad228.add ((x7_1).toNat * 7)).off + 2, none⟩ = some (.slice A228_2 ((rd_T49 t218 x7_1).f2).length c228_2) ∧ w'.cell? ⟨(ad228.add ((x7_1).toNat * 7)).block, (ad228.add ((x7_1).toNat * 7)).off + 3, none⟩ = some (.int .i64 ((rd_T49 t218 x7_1).f3)) ∧ w'.cell? ⟨(ad228.add ((x7_1).toNat * 7)).block, (ad228.add ((x7_1).toNat * 7)).off + 4, none⟩ = some (.int .i64 ((rd_T49 t218 x7_1).f4)) ∧ w'.cell? ⟨(ad228.add ((x7_1).toNat * 7)).block, (ad228.add ((x7_1).toNat * 7)).off + 5, none⟩ = some (.bool ((rd_T49 t218 x7_1).f5)) ∧ w'.cell? ⟨(ad228.add ((x7_1).toNat * 7)).block, (ad228.add ((x7_1).toNat * 7)).off + 6, none⟩ = some (.bool ((rd_T49 t218 x7_1).f6)) ∧ w'.cell? (ad229.add ((x7_1).toNat * 7)) = some (.slice A229_0 ((rd_T49 l0 x7_1).f0).length c229_0) ∧ w'.cell? ⟨(ad229.add ((x7_1).toNat * 7)).block, (ad229.add ((x7_1).toNat * 7)).off + 1, none⟩ = some (.slice A229_1 ((rd_T49 l0 x7_1).f1).length c229_1) ∧ w'.cell? ⟨(ad229.add ((x7_1).toNat * 7)).block, (ad229.add ((x7_1).toNat * 7)).off + 2, none⟩ = some (.slice A229_2 ((rd_T49 l0 x7_1).f2).length c229_2) ∧ w'.cell? ⟨(ad229.add ((x7_1).toNat * 7)).block, (ad229.add ((x7_1).toNat * 7)).off + 3, none⟩ = some (.int .i64 ((rd_T49 l0 x7_1).f3)) ∧ w'.cell? ⟨(ad229.add ((x7_1).toNat * 7)).block, (ad229.add ((x7_1).toNat * 7)).off + 4, none⟩ = some (.int .i64 ((rd_T49 l0 x7_1).f4)) ∧ w'.cell? ⟨(ad229.add ((x7_1).toNat * 7)).block, (ad229.add ((x7_1).toNat * 7)).off + 5, none⟩ = some (.bool ((rd_T49 l0 x7_1).f5)) ∧ w'.cell? ⟨(ad229.add ((x7_1).toNat * 7)).block, (ad229.add ((x7_1).toNat * 7)).off + 6, none⟩ = some (.bool ((rd_T49 l0 x7_1).f6))) (ds := []) #[false, false, false, false, false, false, false, false, false, false] (by kernel_rfl) rfl rfl ⟨hx228_0, hx228_1, hx228_2, hx228_3, hx228_4, hx228_5, hx228_6, ((HB.out.cell (World.block_lt_of_cell? w _ hw229_0)).trans hw229_0), ((HB.out.cell (World.block_lt_of_cell? w _ hw229_1)).trans hw229_1), ((HB.out.cell (World.block_lt_of_cell? w _ hw229_2)).trans hw229_2), ((HB.out.cell (World.block_lt_of_cell? w _ hw229_3)).trans hw229_3), ((HB.out.cell (World.block_lt_of_cell? w _ hw229_4)).trans hw229_4), ((HB.out.cell (World.block_lt_of_cell? w _ hw229_5)).trans hw229_5), ((HB.out.cell (World.block_lt_of_cell? w _ hw229_6)).trans hw229_6)⟩ (fun hHeld => ?_); refine with_tabW colophonlaw27_PagesFlow.tab10 colophonlaw27_PagesFlow.bits10 (fun HT_ HW_ => ?_)
                  generalize wr.drew = w23 at HO_5 HB HL228_0 HL228_1 HL228_2 HR228_0 HR228_1 HR228_2 HR229_0 HR229_1 HR229_2 hx228_0 hx228_1 hx228_2 hx228_3 hx228_4 hx228_5 hx228_6 hx229_0 hx229_1 hx229_2 hx229_3 hx229_4 hx229_5 hx229_6 hHeld ⊢
                  refine pure_ (i := 0) (N := some 28) (v := ?_) (a' := ?_) #[true, false, false, false, false, false, false, false, false, false] rfl rfl (any_of HT_.out (by kernel_rfl)) (fun _ _ _ h => h) (Or.inl ⟨by rfl, ?_⟩) ?_ ?_
                  rotate_left
                  · intro w'
                    go_simp
                    with_reducible rfl
                  rotate_left
                  · simp only [Act.put, List.setIfInBounds_toArray, List.set_cons_zero, List.set_cons_succ, i64_w, i32_w]
                    rfl
                  refine pure_ (i := 1) (N := some 29) (v := ?_) (a' := ?_) #[true, true, false, false, false, false, false, false, false, false] rfl rfl (any_of HT_.out (by kernel_rfl)) (fun _ _ _ h => h) (Or.inl ⟨by rfl, ?_⟩) ?_ ?_
                  rotate_left
                  · intro w'
                    go_simp
                    with_reducible rfl
                  rotate_left
                  · simp only [Act.put, List.setIfInBounds_toArray, List.set_cons_zero, List.set_cons_succ, i64_w, i32_w]
                    rfl
                  refine pure_ (i := 2) (N := some 30) (v := ?_) (a' := ?_) #[true, true, true, false, false, false, false, false, false, false] rfl rfl (any_of HT_.out (by kernel_rfl)) (fun _ _ _ h => h) (Or.inl ⟨by rfl, ?_⟩) ?_ ?_
                  rotate_left
                  · intro w'
                    go_simp
                    with_reducible rfl
                  rotate_left
                  · simp only [Act.put, List.setIfInBounds_toArray, List.set_cons_zero, List.set_cons_succ, i64_w, i32_w]
                    rfl
                  refine pure_ (i := 4) (N := some 32) (v := ?_) (a' := ?_) #[true, true, true, false, true, false, false, false, false, false] rfl rfl (any_of HT_.out (by kernel_rfl)) (fun _ _ _ h => h) (Or.inl ⟨by rfl, ?_⟩) ?_ ?_
                  rotate_left
                  · intro w'
                    go_simp
                    with_reducible rfl
                  rotate_left
                  · simp only [Act.put, List.setIfInBounds_toArray, List.set_cons_zero, List.set_cons_succ, i64_w, i32_w]
                    rfl
                  refine pure_ (i := 5) (N := some 33) (v := ?_) (a' := ?_) #[true, true, true, false, true, true, false, false, false, false] rfl rfl (any_of HT_.out (by kernel_rfl)) (fun _ _ _ h => h) (Or.inl ⟨by rfl, ?_⟩) ?_ ?_
                  rotate_left
                  · intro w'
                    go_simp
                    with_reducible rfl
                  rotate_left
                  · simp only [Act.put, List.setIfInBounds_toArray, List.set_cons_zero, List.set_cons_succ, i64_w, i32_w]
                    rfl
                  refine pure_ (i := 6) (N := some 34) (v := ?_) (a' := ?_) #[true, true, true, false, true, true, true, false, false, false] rfl rfl (any_of HT_.out (by kernel_rfl)) (fun _ _ _ h => h) (Or.inl ⟨by rfl, ?_⟩) ?_ ?_
                  rotate_left
                  · intro w'
                    go_simp
                    with_reducible rfl
                  rotate_left
                  · simp only [Act.put, List.setIfInBounds_toArray, List.set_cons_zero, List.set_cons_succ, i64_w, i32_w]
                    rfl
                  refine take_ (i := 3) (N := some 31) (v := ?_) (a' := ?_) #[true, true, true, true, true, true, true, false, false, false] rfl rfl (take_ofW HT_.out HW_.out (by kernel_rfl)) (fun _ _ _ h => h) (Or.inl ⟨by rfl, ?_⟩) hHeld ?_ ?_
                  rotate_left
                  · rintro w' ⟨s0, s1, s2, s3, s4, s5, s6, s7, s8, s9, s10, s11, s12, s13⟩
                    go_simp
                    with_reducible rfl
                  rotate_left
                  · simp only [Act.put, List.setIfInBounds_toArray, List.set_cons_zero, List.set_cons_succ, i64_w, i32_w]
                    rfl
                  refine take_ (i := 7) (N := some 35) (v := ?_) (a' := ?_) #[true, true, true, true, true, true, true, true, false, false] rfl rfl (take_ofW HT_.out HW_.out (by kernel_rfl)) (fun _ _ _ h => h) (Or.inl ⟨by rfl, ?_⟩) hHeld ?_ ?_
                  rotate_left
                  · rintro w' ⟨s0, s1, s2, s3, s4, s5, s6, s7, s8, s9, s10, s11, s12, s13⟩
                    go_simp
                    with_reducible rfl
                  rotate_left
                  · simp only [Act.put, List.setIfInBounds_toArray, List.set_cons_zero, List.set_cons_succ, i64_w, i32_w]
                    rfl
                  refine one_ (i := 8) (N := some 36) #[true, true, true, true, true, true, true, true, true, false] rfl rfl (one_of HT_.out (by kernel_rfl)) (by decide) (fun K hK => ?_)
                  refine goes_ Try.func22 (by kernel_rfl) rfl #[.agg #[.slice A228_0 ((rd_T49 t218 x7_1).f0).length c228_0, .slice A228_1 ((rd_T49 t218 x7_1).f1).length c228_1, .slice A228_2 ((rd_T49 t218 x7_1).f2).length c228_2, .int .i64 ((rd_T49 t218 x7_1).f3), .int .i64 ((rd_T49 t218 x7_1).f4), .bool ((rd_T49 t218 x7_1).f5), .bool ((rd_T49 t218 x7_1).f6)], .agg #[.slice A229_0 ((rd_T49 l0 x7_1).f0).length c229_0, .slice A229_1 ((rd_T49 l0 x7_1).f1).length c229_1, .slice A229_2 ((rd_T49 l0 x7_1).f2).length c229_2, .int .i64 ((rd_T49 l0 x7_1).f3), .int .i64 ((rd_T49 l0 x7_1).f4), .bool ((rd_T49 l0 x7_1).f5), .bool ((rd_T49 l0 x7_1).f6)]] (by rfl) rfl rfl (by (try simp only [List.map_toArray, List.map_cons, List.map_nil]); first | done | rfl | (simp only [List.length_drop, List.length_take]; rfl)) ?_
                  with_reducible refine (colophonref27_SameBlock.calls k1 _ _ ((rd_T49 t218 x7_1).f0) _ _ ((rd_T49 t218 x7_1).f1) _ _ ((rd_T49 t218 x7_1).f2) ((rd_T49 t218 x7_1).f3) ((rd_T49 t218 x7_1).f4) ((rd_T49 t218 x7_1).f5) ((rd_T49 t218 x7_1).f6) _ _ ((rd_T49 l0 x7_1).f0) _ _ ((rd_T49 l0 x7_1).f1) _ _ ((rd_T49 l0 x7_1).f2) ((rd_T49 l0 x7_1).f3) ((rd_T49 l0 x7_1).f4) ((rd_T49 l0 x7_1).f5) ((rd_T49 l0 x7_1).f6) true _ ?side1 ?side2 ?side3 ?side4 ?side5 ?side6 ?side7 ?side8 ?side9 ?side10 ?side11 ?side12 A21.out).mono ?_
                  (case side1 => repeat (first | exact (by repeat (first | (with_reducible exact HR228_0.out) | (with_reducible refine Kd.C_alloc ?_ _) | (with_reducible refine Kd.C_drewN ?_ _) | (with_reducible refine Kd.C_drew ?_) | exact HR228_0.out)) | (with_reducible refine Kd.C_alloc ?_ _) | (with_reducible refine Kd.C_drewN ?_ _) | (with_reducible refine Kd.C_drew ?_)))
                  (case side2 => exact HC228_0.out)
                  (case side3 => repeat (first | exact (by repeat (first | (with_reducible exact HR228_1.out) | (with_reducible refine Kd.C_alloc ?_ _) | (with_reducible refine Kd.C_drewN ?_ _) | (with_reducible refine Kd.C_drew ?_) | exact HR228_1.out)) | (with_reducible refine Kd.C_alloc ?_ _) | (with_reducible refine Kd.C_drewN ?_ _) | (with_reducible refine Kd.C_drew ?_)))
                  (case side4 => exact HC228_1.out)
                  (case side5 => repeat (first | exact (by repeat (first | (with_reducible exact HR228_2.out) | (with_reducible refine Kd.C_alloc ?_ _) | (with_reducible refine Kd.C_drewN ?_ _) | (with_reducible refine Kd.C_drew ?_) | exact HR228_2.out)) | (with_reducible refine Kd.C_alloc ?_ _) | (with_reducible refine Kd.C_drewN ?_ _) | (with_reducible refine Kd.C_drew ?_)))
                  (case side6 => exact HC228_2.out)
                  (case side7 => repeat (first | exact (Kd.C_below HR229_0.out HB.out) | (with_reducible refine Kd.C_alloc ?_ _) | (with_reducible refine Kd.C_drewN ?_ _) | (with_reducible refine Kd.C_drew ?_)))
                  (case side8 => exact HC229_0.out)
                  (case side9 => repeat (first | exact (Kd.C_below HR229_1.out HB.out) | (with_reducible refine Kd.C_alloc ?_ _) | (with_reducible refine Kd.C_drewN ?_ _) | (with_reducible refine Kd.C_drew ?_)))
                  (case side10 => exact HC229_1.out)
                  (case side11 => repeat (first | exact (Kd.C_below HR229_2.out HB.out) | (with_reducible refine Kd.C_alloc ?_ _) | (with_reducible refine Kd.C_drewN ?_ _) | (with_reducible refine Kd.C_drew ?_)))
                  (case side12 => exact HC229_2.out)
                  rintro e w24 ⟨rfl, hb⟩
                  have HS0_ := (hb.cell (World.block_lt_of_cell? _ _ (hHeld.1))).trans (hHeld.1)
                  have HS1_ := (hb.cell (World.block_lt_of_cell? _ _ (hHeld.2.1))).trans (hHeld.2.1)
                  have HS2_ := (hb.cell (World.block_lt_of_cell? _ _ (hHeld.2.2.1))).trans (hHeld.2.2.1)
                  have HS3_ := (hb.cell (World.block_lt_of_cell? _ _ (hHeld.2.2.2.1))).trans (hHeld.2.2.2.1)
                  have HS4_ := (hb.cell (World.block_lt_of_cell? _ _ (hHeld.2.2.2.2.1))).trans (hHeld.2.2.2.2.1)
                  have HS5_ := (hb.cell (World.block_lt_of_cell? _ _ (hHeld.2.2.2.2.2.1))).trans (hHeld.2.2.2.2.2.1)
                  have HS6_ := (hb.cell (World.block_lt_of_cell? _ _ (hHeld.2.2.2.2.2.2.1))).trans (hHeld.2.2.2.2.2.2.1)
                  refine ⟨_, rfl, ?_⟩
                  have n0_ := Aside0.mk (Kd.S_below (by (with_reducible repeat (first | apply Kd.S_alloc | apply Kd.S_drewN | apply Kd.S_drew)); exact HO_5.out) hb)
                  have n1_ := Aside0.mk (Kd.R_below (by (with_reducible repeat (first | apply Kd.R_alloc | apply Kd.R_drewN | apply Kd.R_drew)); exact HL228_0.out) hb)
                  have n2_ := Aside0.mk (Kd.R_below (by (with_reducible repeat (first | apply Kd.R_alloc | apply Kd.R_drewN | apply Kd.R_drew)); exact HL228_1.out) hb)
                  have n3_ := Aside0.mk (Kd.R_below (by (with_reducible repeat (first | apply Kd.R_alloc | apply Kd.R_drewN | apply Kd.R_drew)); exact HL228_2.out) hb)
                  have n4_ := Aside0.mk (Kd.C_below (by repeat (first | (with_reducible exact HR228_0.out) | (with_reducible refine Kd.C_alloc ?_ _) | (with_reducible refine Kd.C_drewN ?_ _) | (with_reducible refine Kd.C_drew ?_) | exact HR228_0.out)) hb)
                  have n5_ := Aside0.mk (Kd.C_below (by repeat (first | (with_reducible exact HR228_1.out) | (with_reducible refine Kd.C_alloc ?_ _) | (with_reducible refine Kd.C_drewN ?_ _) | (with_reducible refine Kd.C_drew ?_) | exact HR228_1.out)) hb)
                  have n6_ := Aside0.mk (Kd.C_below (by repeat (first | (with_reducible exact HR228_2.out) | (with_reducible refine Kd.C_alloc ?_ _) | (with_reducible refine Kd.C_drewN ?_ _) | (with_reducible refine Kd.C_drew ?_) | exact HR228_2.out)) hb)
                  have n7_ := Aside0.mk (below_step (by repeat (first | (with_reducible first | exact HB.out | apply below_alloc | apply pw_below_drewN | apply below_drew1) | exact HB.out)) hb)
                  clear HO_5
                  clear HL228_0
                  clear HL228_1
                  clear HL228_2
                  clear HR228_0
                  clear HR228_1
                  clear HR228_2
                  clear HB
                  have HO_5 := n0_
                  have HL228_0 := n1_
                  have HL228_1 := n2_
                  have HL228_2 := n3_
                  have HR228_0 := n4_
                  have HR228_1 := n5_
                  have HR228_2 := n6_
                  have HB := n7_
                  clear n0_ n1_ n2_ n3_ n4_ n5_ n6_ n7_
                  (try clear hb)
                  (try clear hb2)
                  (try clear hk)
                  (try clear hi)
                  refine hK.out _ _ ⟨HS0_, HS1_, HS2_, HS3_, HS4_, HS5_, HS6_, ((HB.out.cell (World.block_lt_of_cell? w _ hw229_0)).trans hw229_0), ((HB.out.cell (World.block_lt_of_cell? w _ hw229_1)).trans hw229_1), ((HB.out.cell (World.block_lt_of_cell? w _ hw229_2)).trans hw229_2), ((HB.out.cell (World.block_lt_of_cell? w _ hw229_3)).trans hw229_3), ((HB.out.cell (World.block_lt_of_cell? w _ hw229_4)).trans hw229_4), ((HB.out.cell (World.block_lt_of_cell? w _ hw229_5)).trans hw229_5), ((HB.out.cell (World.block_lt_of_cell? w _ hw229_6)).trans hw229_6)⟩ (fun hHeld => ?_)
                  clear hK K
                  refine norm_ (a' := ?_) ?_ ?_
                  rotate_left
                  · show Act.put _ (some 36) _ = _
                    simp only [Act.put, List.setIfInBounds_toArray, List.set_cons_zero, List.set_cons_succ, i64_w, i32_w]
                    rfl
                  refine pure_ (i := 9) (N := some 37) (v := ?_) (a' := ?_) #[true, true, true, true, true, true, true, true, true, true] rfl rfl (any_of HT_.out (by kernel_rfl)) (fun _ _ _ h => h) (Or.inl ⟨by rfl, ?_⟩) ?_ ?_
                  rotate_left
                  · intro w'
                    go_simp
                    with_reducible rfl
                  rotate_left
                  · simp only [Act.put, List.setIfInBounds_toArray, List.set_cons_zero, List.set_cons_succ, i64_w, i32_w]
                    rfl
                  refine done_ (done_of HT_.out (by kernel_rfl)) ?_
                  try go_wp2
                  go_roundg k1
                  case measure => have := HK1.out; omega
                  case rel => exact ⟨(wrap64 (x7_1 + 1)), (by first | rfl | (simp; done) | (simp [*]; done)), H', ⟨by have := HK1.out; omega⟩, ⟨by (with_reducible repeat (first | apply Kd.S_alloc | apply Kd.S_drewN | apply Kd.S_drew)); exact HO_5.out⟩, ⟨by repeat (first | (with_reducible first | exact HB.out | apply below_alloc | apply pw_below_drewN | apply below_drew1) | exact HB.out)⟩⟩
                · replace c22 := Bool.eq_false_iff.mpr c22
                  subst c22
                  exact absurd H (by simp)
              · rw [if_neg c20] at H
                exact absurd H (by simp)
            · rw [if_neg c19] at H
              exact absurd H (by simp)
          · rw [if_neg c18] at H
            have c18b0 : decide (x7_1 < (l0.length : Int)) = false := decide_eq_false c18
            clear c18
            replace H := Option.bind_eq_some_iff.mp H
            obtain ⟨t231, A270, H⟩ := H
            replace H : (some t231) = some r := H
            have A27 := Aside0.mk A270
            clear A270
            obtain rfl := Option.some.inj H
            go_wp2_with (first | ((with_reducible refine gate_callee (f := 11) rfl ?_); refine goesL_ (some 38) rfl rfl Try.func11 (by kernel_rfl) rfl #[] rfl (by (try simp only [List.map_toArray, List.map_cons, List.map_nil]); first | done | rfl | (simp only [List.length_drop, List.length_take]; rfl)) ?_; (with_reducible refine (colophonlaw27_wakes.calls k1  t231 _ A27.out).mono ?_); rintro e w28 ⟨rfl, hb⟩; refine ⟨_, rfl, ?_⟩; have n0_ := Aside0.mk (Kd.S_below (by (with_reducible repeat (first | apply Kd.S_alloc | apply Kd.S_drewN | apply Kd.S_drew)); exact HO_5.out) hb); have n1_ := Aside0.mk (below_step (by repeat (first | (with_reducible first | exact HB.out | apply below_alloc | apply pw_below_drewN | apply below_drew1) | exact HB.out)) hb); clear HO_5; clear HB; have HO_5 := n0_; have HB := n1_; clear n0_ n1_; (try clear hb); (try clear hb2); (try clear hk); (try clear hi)))
            go_ret
            exact ⟨by first | rfl | (simp [errW_none, errW_some] <;> rfl) | (simp [*, errW_none, errW_some] <;> rfl), by repeat (first | (with_reducible first | exact HB.out | apply below_alloc | apply pw_below_drewN | apply below_drew1) | exact HB.out)⟩
    · replace c11 := Bool.eq_false_iff.mpr c11
      subst c11
      exact absurd H (by simp)end Go.Proofs.Ytogjeababinnlaa.PPagesFlow
