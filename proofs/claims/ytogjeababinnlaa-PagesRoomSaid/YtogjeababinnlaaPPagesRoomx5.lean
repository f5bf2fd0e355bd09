-- Written by a copy of the print that this session has turned (wip/tools/patchprint.py): arrays as records.
import Derived.Test.YtogjeababinnlaaPPagesRoomx0
import Derived.Test.YtogjeababinnlaaPPagesRoomx2
import Derived.Test.YtogjeababinnlaaPPagesRoomx3
namespace Go.Proofs.Ytogjeababinnlaa.PPagesRoom
open Go.RowKit Go.Proofs.YtogjeababinnlaaW.PrintWords Go.Proofs.YtogjeababinnlaaW.PrintLast Go.Proofs.YtogjeababinnlaaW.PrintMore
attribute [local go_sem] max2_int min2_int max_two min_two max_three min_three max_four min_four   -- for this text's walks alone
set_option linter.unusedVariables false
set_option linter.unusedSimpArgs false

/-! ### colophonlaw27_twin: function 12 -/
def colophonlaw27_twin.f (l0 : List (S43)) : Option ((List (S43))) := (some (([] : List (S43)) : List (S43))).bind fun y147 => (if y147.length + l0.length < 4398046511104 then (some (y147 ++ l0)) else (none))
set_option maxHeartbeats 8000000 in
set_option maxRecDepth 100000 in
theorem colophonlaw27_twin.calls (A0 : Option Addr) (c0 : Nat) (l0 : List (S43)) (r : List (S43)) (w : World) (hr0 : Kd.C k43 w A0 l0.length l0) (hc0 : l0.length ≤ c0) (h : colophonlaw27_twin.f l0 = some r) :
    Calls Try.prog 12 #[.slice A0 l0.length c0] w fun e w' => ∃ v0_ : Value, e = .returned (v0_) ∧ Kd.R k43 43 w' w.heap.size (fun _ => True) v0_ r ∧ Below w.heap.size w w' := by
  have HR0 := Aside0.mk hr0
  have HC0 := Aside0.mk hc0
  clear hr0 hc0
  have HB := Aside0.mk (Below.refl w.heap.size w)
  have H : ((some (([] : List (S43)) : List (S43))).bind fun y147 => (if y147.length + l0.length < 4398046511104 then (some (y147 ++ l0)) else (none))) = some r := h
  clear h
  obtain ⟨y147, hy147⟩ : ∃ y_ : List (S43), y_ = (([] : List (S43))) := ⟨_, rfl⟩
  replace H : (if y147.length + l0.length < 4398046511104 then (some (y147 ++ l0)) else (none)) = some r := by first | (rw [hy147]; with_reducible exact H) | (have H2_ := (Option.bind_some _ _).symm.trans H; rw [hy147]; with_reducible exact H2_) | (have H2_ := (Option.bind_some _ _).symm.trans H; with_reducible exact H2_) | with_reducible exact H | (rw [hy147]; exact H) | exact H
  have Ny147 := Aside0.mk hy147
  clear hy147
  by_cases c2 : y147.length + l0.length < 4398046511104
  · rw [if_pos c2] at H
    have LMc2 := Aside0.mk c2
    clear c2
    obtain ⟨y150, hy150⟩ : ∃ y_ : List (S43), y_ = (y147 ++ l0) := ⟨_, rfl⟩
    replace H : (some y150) = some r := by first | (rw [hy150]; with_reducible exact H) | (have H2_ := (Option.bind_some _ _).symm.trans H; rw [hy150]; with_reducible exact H2_) | (have H2_ := (Option.bind_some _ _).symm.trans H; with_reducible exact H2_) | with_reducible exact H | (rw [hy150]; exact H) | exact H
    have Ny150 := Aside0.mk hy150
    clear hy150
    obtain rfl := Option.some.inj H
    go_enter Try.func12, Try.ntmps12
    go_wp2_with (first | ((with_reducible refine gate_dst (N := 3) rfl ?_); refine Kd.R_lit k43 _ 43 ?hg (N := 3) ?hd (xs := ([] : List (S43))) (inner := []) (ok := fun _ => True) (okp := fun _ => True) ?hr ?hp (fun _ hk => hk) trivial (Below.refl _ _) (Nat.le_refl _) (by simp) ?_; (case hd => rfl); (case hg => rfl); (case hr => first | (go_simp; done) | (go_simp; rfl)); (case hp => exact (Reps.none _ _)); intro v148 w3 ho4 hb hg_ hnew_; clear hg_ hnew_; (first | rw [← Ny147.out] at ho4 | (simp only [Int.reduceToNat] at ho4; rw [← Ny147.out] at ho4)); have n0_ := Aside0.mk (Kd.R_lower ho4 (below_size (by repeat (first | (with_reducible first | exact HB.out | apply below_alloc | apply pw_below_drewN | apply below_drew1) | exact HB.out)))); have n1_ := Aside0.mk (below_step (by repeat (first | (with_reducible first | exact HB.out | apply below_alloc | apply pw_below_drewN | apply below_drew1) | exact HB.out)) hb); clear HB; have HO149 := n0_; have HB := n1_; clear n0_ n1_; clear hb ho4) | ((with_reducible refine gate_builtin (b := .append) (xs := #[.tmp 3, .tmp 4]) rfl ?_); at_builtin; refine Kd.R_append_rows k43 (w0 := w) w.heap.size rfl (.tmp 3) (.tmp 4) 22 43 (.agg #[(.int .i64 0), (.int .i64 0), (.int .i64 0), (.int .i64 0)]) 32 rfl Try.underlying22 info43 rfl (by decide) (by omega) v148 y147 l0 _ _ _ (fun _ => True) (fun _ => False) rfl rfl ?aO ?aR (fun _ _ h => h) (fun _ h => h.elim) ?aF ?aB ?aS ?aL ?_; (case aR => repeat (first | exact (Kd.C_below HR0.out HB.out) | (with_reducible refine Kd.C_alloc ?_ _) | (with_reducible refine Kd.C_drewN ?_ _) | (with_reducible refine Kd.C_drew ?_))); (case aB => exact (by repeat (first | (with_reducible first | exact HB.out | apply below_alloc | apply pw_below_drewN | apply below_drew1) | exact HB.out))); (case aF => exact (fun _ _ => trivial)); (case aO => exact (by (with_reducible repeat (first | apply Kd.R_alloc | apply Kd.R_drewN | apply Kd.R_drew)); exact HO149.out)); (case aS => exact (below_size (by repeat (first | (with_reducible first | exact HB.out | apply below_alloc | apply pw_below_drewN | apply below_drew1) | exact HB.out)))); (case aL => have := LMc2.out; omega); intro v151 w5 ho hb hg hat; rw [← Ny150.out] at ho; have n0_ := Aside0.mk (hb); have n1_ := Aside0.mk (ho); clear HB; clear HO149; have HB := n0_; have HO152 := n1_; clear n0_ n1_; clear ho hb hg hat))
    go_ret
    exact ⟨_, by first | rfl | (simp [errW_none, errW_some] <;> rfl) | (simp [*, errW_none, errW_some] <;> rfl), by (with_reducible repeat (first | apply Kd.R_alloc | apply Kd.R_drewN | apply Kd.R_drew)); exact HO152.out, by repeat (first | (with_reducible first | exact HB.out | apply below_alloc | apply pw_below_drewN | apply below_drew1) | exact HB.out)⟩
  · rw [if_neg c2] at H
    exact absurd H (by simp)

/-! ### pages_Height: function 21 -/
def pages_Height.f (k : Nat) (l0 : List (S43)) (a1 : Int) (a2 : Int) : Option (Int) :=
  (pages_Good.f k l0).bind fun t => if t = false then some 0 else if l0.length ≤ 1024 then (pages_column_legal.f l0 (pages_ready.hs l0) (pages_ready.fs l0) (pages_ready.ms l0) a2).bind fun u => if u = false then some 0 else
    if a2 ≤ a1 then some 0 else if a1 = -1 then pages_column_page.f l0 (pages_ready.hs l0) (pages_ready.fs l0) (pages_ready.ms l0) a1 a2 else (pages_column_legal.f l0 (pages_ready.hs l0) (pages_ready.fs l0) (pages_ready.ms l0) a1).bind fun v => if v = false then some 0 else pages_column_page.f l0 (pages_ready.hs l0) (pages_ready.fs l0) (pages_ready.ms l0) a1 a2 else none
theorem pages_Height.mono : ∀ a0 a1 a2 k, LeO (pages_Height.f k a0 a1 a2) (pages_Height.f (k + 1) a0 a1 a2) := by
  intro a0 a1 a2 k
  unfold pages_Height.f
  exact LeO.bind (pages_Good.mono _ _) (fun _ => LeO.refl _)
set_option maxHeartbeats 8000000 in
set_option maxRecDepth 100000 in
theorem pages_Height.calls (k : Nat) (A0 : Option Addr) (c0 : Nat) (l0 : List (S43)) (a1 : Int) (a2 : Int) (r : Int) (w : World) (hr0 : Kd.C k43 w A0 l0.length l0) (hc0 : l0.length ≤ c0) (h : pages_Height.f k l0 a1 a2 = some r) :
    Calls Try.prog 21 #[.slice A0 l0.length c0, .int .i64 a1, .int .i64 a2] w fun e w' => e = .returned (.int .i64 r) ∧ Below w.heap.size w w' := by
  have hu43 := Try.underlying43
  have HR0 := Aside0.mk hr0
  have HC0 := Aside0.mk hc0
  have HB := Aside0.mk (Below.refl w.heap.size w)
  clear hr0 hc0
  unfold pages_Height.f at h
  obtain ⟨t, A10, H⟩ := Option.bind_eq_some_iff.mp h
  have A1 := Aside0.mk A10
  clear A10 h
  cases t with
  | false =>
    obtain rfl : (0 : Int) = r := by simpa using H
    clear H
    go_enter Try.func21, Try.ntmps21
    go_wp2_with (first | (go_at_call 29; (with_reducible refine (pages_Good.calls k _ _ l0 false _ HR0.out HC0.out A1.out).mono ?_); rintro e w5 ⟨rfl, hb⟩; have n0_ := Aside0.mk (below_step HB.out hb); clear HB; have HB := n0_; clear n0_; clear hb))
    go_ret
    exact ⟨rfl, (by repeat (first | (with_reducible first | exact HB.out | apply below_alloc | apply pw_below_drewN | apply below_drew1) | exact HB.out))⟩
  | true =>
    rw [if_neg (by decide)] at H
    by_cases hn : l0.length ≤ 1024
    rotate_left
    · rw [if_neg hn] at H
      exact absurd H (by simp)
    rw [if_pos hn] at H
    have HN := Aside0.mk hn
    clear hn
    obtain ⟨u, A40, H⟩ := Option.bind_eq_some_iff.mp H
    have A4 := Aside0.mk A40
    clear A40
    cases u with
    | false =>
      obtain rfl : (0 : Int) = r := by simpa using H
      clear H
      go_enter Try.func21, Try.ntmps21
      go_wp2_with (first | (go_at_call 29; (with_reducible refine (pages_Good.calls k _ _ l0 true _ HR0.out HC0.out A1.out).mono ?_); rintro e w5 ⟨rfl, hb⟩; have n0_ := Aside0.mk (below_step HB.out hb); clear HB; have HB := n0_; clear n0_; clear hb) | (go_at_call 36; (with_reducible refine (pages_ready.calls _ _ l0 _ (Kd.C_below HR0.out (by repeat (first | (with_reducible first | exact HB.out | apply below_alloc | apply pw_below_drewN | apply below_drew1) | exact HB.out))) HC0.out (Nat.le_trans HN.out (by decide))).mono ?_); rintro e w7 ⟨g, rfl, hcol, hb⟩; have HCOL := Aside0.mk hcol; have n0_ := Aside0.mk (below_step (by repeat (first | (with_reducible first | exact HB.out | apply below_alloc | apply pw_below_drewN | apply below_drew1) | exact HB.out)) hb); clear HB hb hcol; have HB := n0_; clear n0_) | (go_at_call 37; (with_reducible refine (pages_column_legal.calls g _ _ _ _ a2 false _ (HCOL.out.below (by repeat (first | exact Below.refl _ _ | apply below_alloc | apply pw_below_drewN | apply below_drew1))) A4.out).mono ?_); rintro e w8 ⟨rfl, hb⟩; have n0_ := Aside0.mk (below_step (by repeat (first | (with_reducible first | exact HB.out | apply below_alloc | apply pw_below_drewN | apply below_drew1) | exact HB.out)) hb); have n1_ := Aside0.mk (HCOL.out.below (below_step (by repeat (first | exact Below.refl _ _ | apply below_alloc | apply pw_below_drewN | apply below_drew1)) hb)); clear HB HCOL hb; have HB := n0_; have HCOL := n1_; clear n0_ n1_))
      go_ret
      exact ⟨rfl, (by repeat (first | (with_reducible first | exact HB.out | apply below_alloc | apply pw_below_drewN | apply below_drew1) | exact HB.out))⟩
    | true =>
      rw [if_neg (by decide)] at H
      by_cases c1 : a2 ≤ a1
      · rw [if_pos c1] at H
        obtain rfl : (0 : Int) = r := by simpa using H
        have c1b : decide (a2 ≤ a1) = true := decide_eq_true c1
        clear H c1
        go_enter Try.func21, Try.ntmps21
        go_wp2_with (first | (go_at_call 29; (with_reducible refine (pages_Good.calls k _ _ l0 true _ HR0.out HC0.out A1.out).mono ?_); rintro e w5 ⟨rfl, hb⟩; have n0_ := Aside0.mk (below_step HB.out hb); clear HB; have HB := n0_; clear n0_; clear hb) | (go_at_call 36; (with_reducible refine (pages_ready.calls _ _ l0 _ (Kd.C_below HR0.out (by repeat (first | (with_reducible first | exact HB.out | apply below_alloc | apply pw_below_drewN | apply below_drew1) | exact HB.out))) HC0.out (Nat.le_trans HN.out (by decide))).mono ?_); rintro e w7 ⟨g, rfl, hcol, hb⟩; have HCOL := Aside0.mk hcol; have n0_ := Aside0.mk (below_step (by repeat (first | (with_reducible first | exact HB.out | apply below_alloc | apply pw_below_drewN | apply below_drew1) | exact HB.out)) hb); clear HB hb hcol; have HB := n0_; clear n0_) | (go_at_call 37; (with_reducible refine (pages_column_legal.calls g _ _ _ _ a2 true _ (HCOL.out.below (by repeat (first | exact Below.refl _ _ | apply below_alloc | apply pw_below_drewN | apply below_drew1))) A4.out).mono ?_); rintro e w8 ⟨rfl, hb⟩; have n0_ := Aside0.mk (below_step (by repeat (first | (with_reducible first | exact HB.out | apply below_alloc | apply pw_below_drewN | apply below_drew1) | exact HB.out)) hb); have n1_ := Aside0.mk (HCOL.out.below (below_step (by repeat (first | exact Below.refl _ _ | apply below_alloc | apply pw_below_drewN | apply below_drew1)) hb)); clear HB HCOL hb; have HB := n0_; have HCOL := n1_; clear n0_ n1_))
        go_ret
        exact ⟨rfl, (by repeat (first | (with_reducible first | exact HB.out | apply below_alloc | apply pw_below_drewN | apply below_drew1) | exact HB.out))⟩
      · rw [if_neg c1] at H
        have c1b : decide (a2 ≤ a1) = false := decide_eq_false c1
        clear c1
        by_cases c2 : a1 = -1
        · rw [if_pos c2] at H
          have c2b : (a1 == -1) = true := beq_iff_eq.mpr c2
          have c2c : (a1 != -1) = false := by simp [c2]
          have A6 := Aside0.mk H
          clear H c2
          go_enter Try.func21, Try.ntmps21
          go_wp2_with (first | (go_at_call 29; (with_reducible refine (pages_Good.calls k _ _ l0 true _ HR0.out HC0.out A1.out).mono ?_); rintro e w5 ⟨rfl, hb⟩; have n0_ := Aside0.mk (below_step HB.out hb); clear HB; have HB := n0_; clear n0_; clear hb) | (go_at_call 36; (with_reducible refine (pages_ready.calls _ _ l0 _ (Kd.C_below HR0.out (by repeat (first | (with_reducible first | exact HB.out | apply below_alloc | apply pw_below_drewN | apply below_drew1) | exact HB.out))) HC0.out (Nat.le_trans HN.out (by decide))).mono ?_); rintro e w7 ⟨g, rfl, hcol, hb⟩; have HCOL := Aside0.mk hcol; have n0_ := Aside0.mk (below_step (by repeat (first | (with_reducible first | exact HB.out | apply below_alloc | apply pw_below_drewN | apply below_drew1) | exact HB.out)) hb); clear HB hb hcol; have HB := n0_; clear n0_) | (go_at_call 37; (with_reducible refine (pages_column_legal.calls g _ _ _ _ a2 true _ (HCOL.out.below (by repeat (first | exact Below.refl _ _ | apply below_alloc | apply pw_below_drewN | apply below_drew1))) A4.out).mono ?_); rintro e w8 ⟨rfl, hb⟩; have n0_ := Aside0.mk (below_step (by repeat (first | (with_reducible first | exact HB.out | apply below_alloc | apply pw_below_drewN | apply below_drew1) | exact HB.out)) hb); have n1_ := Aside0.mk (HCOL.out.below (below_step (by repeat (first | exact Below.refl _ _ | apply below_alloc | apply pw_below_drewN | apply below_drew1)) hb)); clear HB HCOL hb; have HB := n0_; have HCOL := n1_; clear n0_ n1_) | (go_at_call 43; (with_reducible refine (pages_column_page.calls g _ _ _ _ a1 a2 r _ (HCOL.out.below (by repeat (first | exact Below.refl _ _ | apply below_alloc | apply pw_below_drewN | apply below_drew1))) A6.out).mono ?_); rintro e w9 ⟨rfl, hb⟩; have n0_ := Aside0.mk (below_step (by repeat (first | (with_reducible first | exact HB.out | apply below_alloc | apply pw_below_drewN | apply below_drew1) | exact HB.out)) hb); have n1_ := Aside0.mk (HCOL.out.below (below_step (by repeat (first | exact Below.refl _ _ | apply below_alloc | apply pw_below_drewN | apply below_drew1)) hb)); clear HB HCOL hb; have HB := n0_; have HCOL := n1_; clear n0_ n1_))
          go_ret
          exact ⟨rfl, (by repeat (first | (with_reducible first | exact HB.out | apply below_alloc | apply pw_below_drewN | apply below_drew1) | exact HB.out))⟩
        · rw [if_neg c2] at H
          have c2b : (a1 == -1) = false := beq_eq_false_iff_ne.mpr c2
          have c2c : (a1 != -1) = true := bne_iff_ne.mpr c2
          clear c2
          obtain ⟨v, A50, H⟩ := Option.bind_eq_some_iff.mp H
          have A5 := Aside0.mk A50
          clear A50
          cases v with
          | false =>
            obtain rfl : (0 : Int) = r := by simpa using H
            clear H
            go_enter Try.func21, Try.ntmps21
            go_wp2_with (first | (go_at_call 29; (with_reducible refine (pages_Good.calls k _ _ l0 true _ HR0.out HC0.out A1.out).mono ?_); rintro e w5 ⟨rfl, hb⟩; have n0_ := Aside0.mk (below_step HB.out hb); clear HB; have HB := n0_; clear n0_; clear hb) | (go_at_call 36; (with_reducible refine (pages_ready.calls _ _ l0 _ (Kd.C_below HR0.out (by repeat (first | (with_reducible first | exact HB.out | apply below_alloc | apply pw_below_drewN | apply below_drew1) | exact HB.out))) HC0.out (Nat.le_trans HN.out (by decide))).mono ?_); rintro e w7 ⟨g, rfl, hcol, hb⟩; have HCOL := Aside0.mk hcol; have n0_ := Aside0.mk (below_step (by repeat (first | (with_reducible first | exact HB.out | apply below_alloc | apply pw_below_drewN | apply below_drew1) | exact HB.out)) hb); clear HB hb hcol; have HB := n0_; clear n0_) | (go_at_call 37; (with_reducible refine (pages_column_legal.calls g _ _ _ _ a2 true _ (HCOL.out.below (by repeat (first | exact Below.refl _ _ | apply below_alloc | apply pw_below_drewN | apply below_drew1))) A4.out).mono ?_); rintro e w8 ⟨rfl, hb⟩; have n0_ := Aside0.mk (below_step (by repeat (first | (with_reducible first | exact HB.out | apply below_alloc | apply pw_below_drewN | apply below_drew1) | exact HB.out)) hb); have n1_ := Aside0.mk (HCOL.out.below (below_step (by repeat (first | exact Below.refl _ _ | apply below_alloc | apply pw_below_drewN | apply below_drew1)) hb)); clear HB HCOL hb; have HB := n0_; have HCOL := n1_; clear n0_ n1_) | (go_at_call 37; (with_reducible refine (pages_column_legal.calls g _ _ _ _ a1 false _ (HCOL.out.below (by repeat (first | exact Below.refl _ _ | apply below_alloc | apply pw_below_drewN | apply below_drew1))) A5.out).mono ?_); rintro e w8 ⟨rfl, hb⟩; have n0_ := Aside0.mk (below_step (by repeat (first | (with_reducible first | exact HB.out | apply below_alloc | apply pw_below_drewN | apply below_drew1) | exact HB.out)) hb); have n1_ := Aside0.mk (HCOL.out.below (below_step (by repeat (first | exact Below.refl _ _ | apply below_alloc | apply pw_below_drewN | apply below_drew1)) hb)); clear HB HCOL hb; have HB := n0_; have HCOL := n1_; clear n0_ n1_))
            go_ret
            exact ⟨rfl, (by repeat (first | (with_reducible first | exact HB.out | apply below_alloc | apply pw_below_drewN | apply below_drew1) | exact HB.out))⟩
          | true =>
            rw [if_neg (by decide)] at H
            have A6 := Aside0.mk H
            clear H
            go_enter Try.func21, Try.ntmps21
            go_wp2_with (first | (go_at_call 29; (with_reducible refine (pages_Good.calls k _ _ l0 true _ HR0.out HC0.out A1.out).mono ?_); rintro e w5 ⟨rfl, hb⟩; have n0_ := Aside0.mk (below_step HB.out hb); clear HB; have HB := n0_; clear n0_; clear hb) | (go_at_call 36; (with_reducible refine (pages_ready.calls _ _ l0 _ (Kd.C_below HR0.out (by repeat (first | (with_reducible first | exact HB.out | apply below_alloc | apply pw_below_drewN | apply below_drew1) | exact HB.out))) HC0.out (Nat.le_trans HN.out (by decide))).mono ?_); rintro e w7 ⟨g, rfl, hcol, hb⟩; have HCOL := Aside0.mk hcol; have n0_ := Aside0.mk (below_step (by repeat (first | (with_reducible first | exact HB.out | apply below_alloc | apply pw_below_drewN | apply below_drew1) | exact HB.out)) hb); clear HB hb hcol; have HB := n0_; clear n0_) | (go_at_call 37; (with_reducible refine (pages_column_legal.calls g _ _ _ _ a2 true _ (HCOL.out.below (by repeat (first | exact Below.refl _ _ | apply below_alloc | apply pw_below_drewN | apply below_drew1))) A4.out).mono ?_); rintro e w8 ⟨rfl, hb⟩; have n0_ := Aside0.mk (below_step (by repeat (first | (with_reducible first | exact HB.out | apply below_alloc | apply pw_below_drewN | apply below_drew1) | exact HB.out)) hb); have n1_ := Aside0.mk (HCOL.out.below (below_step (by repeat (first | exact Below.refl _ _ | apply below_alloc | apply pw_below_drewN | apply below_drew1)) hb)); clear HB HCOL hb; have HB := n0_; have HCOL := n1_; clear n0_ n1_) | (go_at_call 37; (with_reducible refine (pages_column_legal.calls g _ _ _ _ a1 true _ (HCOL.out.below (by repeat (first | exact Below.refl _ _ | apply below_alloc | apply pw_below_drewN | apply below_drew1))) A5.out).mono ?_); rintro e w8 ⟨rfl, hb⟩; have n0_ := Aside0.mk (below_step (by repeat (first | (with_reducible first | exact HB.out | apply below_alloc | apply pw_below_drewN | apply below_drew1) | exact HB.out)) hb); have n1_ := Aside0.mk (HCOL.out.below (below_step (by repeat (first | exact Below.refl _ _ | apply below_alloc | apply pw_below_drewN | apply below_drew1)) hb)); clear HB HCOL hb; have HB := n0_; have HCOL := n1_; clear n0_ n1_) | (go_at_call 43; (with_reducible refine (pages_column_page.calls g _ _ _ _ a1 a2 r _ (HCOL.out.below (by repeat (first | exact Below.refl _ _ | apply below_alloc | apply pw_below_drewN | apply below_drew1))) A6.out).mono ?_); rintro e w9 ⟨rfl, hb⟩; have n0_ := Aside0.mk (below_step (by repeat (first | (with_reducible first | exact HB.out | apply below_alloc | apply pw_below_drewN | apply below_drew1) | exact HB.out)) hb); have n1_ := Aside0.mk (HCOL.out.below (below_step (by repeat (first | exact Below.refl _ _ | apply below_alloc | apply pw_below_drewN | apply below_drew1)) hb)); clear HB HCOL hb; have HB := n0_; have HCOL := n1_; clear n0_ n1_))
            go_ret
            exact ⟨rfl, (by repeat (first | (with_reducible first | exact HB.out | apply below_alloc | apply pw_below_drewN | apply below_drew1) | exact HB.out))⟩

end Go.Proofs.Ytogjeababinnlaa.PPagesRoom
