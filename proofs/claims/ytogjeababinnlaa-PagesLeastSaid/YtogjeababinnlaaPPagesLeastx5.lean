-- Written by a copy of the print that this session has turned (wip/tools/patchprint.py): arrays as records.
import Derived.Test.YtogjeababinnlaaPPagesLeastx0
import Derived.Test.YtogjeababinnlaaPPagesLeastx2
import Derived.Test.YtogjeababinnlaaPPagesLeastx3
import Derived.Test.YtogjeababinnlaaPPagesLeastx4
namespace Go.Proofs.Ytogjeababinnlaa.PPagesLeast
open Go.RowKit Go.Proofs.YtogjeababinnlaaW.PrintWords Go.Proofs.YtogjeababinnlaaW.PrintLast Go.Proofs.YtogjeababinnlaaW.PrintMore
attribute [local go_sem] max2_int min2_int max_two min_two max_three min_three max_four min_four   -- for this text's walks alone
set_option linter.unusedVariables false
set_option linter.unusedSimpArgs false

/-! ### colophonlaw27_twin: function 12 -/
def colophonlaw27_twin.f (l0 : List (S43)) : Option ((List (S43))) := (some (([] : List (S43)) : List (S43))).bind fun y147 => (if y147.length + l0.length < 4398046511104 then (some (y147 ++ l0)) else (none))
set_option maxHeartbeats 8000000 in
set_option maxRecDepth 100000 in
theorem colophonlaw27_twin.calls (A0 : Option Addr) (c0 : Nat) (l0 : List (S43)) (r : List (S43)) (w : World) (hr0 : Kd.C k43 w A0 l0.length l0) (hc0 : l0.length ≤ c0) (h : colophonlaw27_twin.f l0 = some r) :
    Calls Try.prog 12 #[.slice A0 l0.length c0] w fun e w' => ∃ v0_ : Value, e = .returned (v0_) ∧ Kd.R k43 43 w' w.heap.size (fun _ => True) v0_ r ∧ Below w.heap.size w w' := by
  have HR0 := Aside0.mk hr0
  have HC0 := Aside0.mk hc0
  clear hr0 hc0
  have HB := Aside0.mk (Below.refl w.heap.size w)
  have H : ((some (([] : List (S43)) : List (S43))).bind fun y147 => (if y147.length + l0.length < 4398046511104 then (some (y147 ++ l0)) else (none))) = some r := h
  clear h
  obtain ⟨y147, hy147⟩ : ∃ y_ : List (S43), y_ = (([] : List (S43))) := ⟨_, rfl⟩
  replace H : (if y147.length + l0.length < 4398046511104 then (some (y147 ++ l0)) else (none)) = some r := by first | (rw [hy147]; with_reducible exact H) | (have H2_ := (Option.bind_some _ _).symm.trans H; rw [hy147]; with_reducible exact H2_) | (have H2_ := (Option.bind_some _ _).symm.trans H; with_reducible exact H2_) | with_reducible exact H | (rw [hy147]; exact H) | exact H
  have Ny147 := Aside0.mk hy147
  clear hy147
  by_cases c2 : y147.length + l0.length < 4398046511104
  · rw [if_pos c2] at H
    have LMc2 := Aside0.mk c2
    clear c2
    obtain ⟨y150, hy150⟩ : ∃ y_ : List (S43), y_ = (y147 ++ l0) := ⟨_, rfl⟩
    replace H : (some y150) = some r := by first | (rw [hy150]; with_reducible exact H) | (have H2_ := (Option.bind_some _ _).symm.trans H; rw [hy150]; with_reducible exact H2_) | (have H2_ := (Option.bind_some _ _).symm.trans H; with_reducible exact H2_) | with_reducible exact H | (rw [hy150]; exact H) | exact H
    have Ny150 := Aside0.mk hy150
    clear hy150
    obtain rfl := Option.some.inj H
    go_enter Try.func12, Try.ntmps12
    go_wp2_with (first | ((with_reducible refine gate_dst (N := 3) rfl ?_); refine Kd.R_lit k43 _ 43 ?hg (N := 3) ?hd (xs := ([] : List (S43))) (inner := []) (ok := fun _ => True) (okp := fun _ => True) ?hr ?hp (fun _ hk => hk) trivial (Below.refl _ _) (Nat.le_refl _) (by simp) ?_; (case hd => rfl); (case hg => rfl); (case hr => first | (go_simp; done) | (go_simp; rfl)); (case hp => exact (Reps.none _ _)); intro v148 w3 ho4 hb hg_ hnew_; clear hg_ hnew_; (first | rw [← Ny147.out] at ho4 | (simp only [Int.reduceToNat] at ho4; rw [← Ny147.out] at ho4)); have n0_ := Aside0.mk (Kd.R_lower ho4 (below_size (by repeat (first | (with_reducible first | exact HB.out | apply below_alloc | apply pw_below_drewN | apply below_drew1) | exact HB.out)))); have n1_ := Aside0.mk (below_step (by repeat (first | (with_reducible first | exact HB.out | apply below_alloc | apply pw_below_drewN | apply below_drew1) | exact HB.out)) hb); clear HB; have HO149 := n0_; have HB := n1_; clear n0_ n1_; clear hb ho4) | ((with_reducible refine gate_builtin (b := .append) (xs := #[.tmp 3, .tmp 4]) rfl ?_); at_builtin; refine Kd.R_append_rows k43 (w0 := w) w.heap.size rfl (.tmp 3) (.tmp 4) 22 43 (.agg #[(.int .i64 0), (.int .i64 0), (.int .i64 0), (.int .i64 0)]) 32 rfl Try.underlying22 info43 rfl (by decide) (by omega) v148 y147 l0 _ _ _ (fun _ => True) (fun _ => False) rfl rfl ?aO ?aR (fun _ _ h => h) (fun _ h => h.elim) ?aF ?aB ?aS ?aL ?_; (case aR => repeat (first | exact (Kd.C_below HR0.out HB.out) | (with_reducible refine Kd.C_alloc ?_ _) | (with_reducible refine Kd.C_drewN ?_ _) | (with_reducible refine Kd.C_drew ?_))); (case aB => exact (by repeat (first | (with_reducible first | exact HB.out | apply below_alloc | apply pw_below_drewN | apply below_drew1) | exact HB.out))); (case aF => exact (fun _ _ => trivial)); (case aO => exact (by (with_reducible repeat (first | apply Kd.R_alloc | apply Kd.R_drewN | apply Kd.R_drew)); exact HO149.out)); (case aS => exact (below_size (by repeat (first | (with_reducible first | exact HB.out | apply below_alloc | apply pw_below_drewN | apply below_drew1) | exact HB.out)))); (case aL => have := LMc2.out; omega); intro v151 w5 ho hb hg hat; rw [← Ny150.out] at ho; have n0_ := Aside0.mk (hb); have n1_ := Aside0.mk (ho); clear HB; clear HO149; have HB := n0_; have HO152 := n1_; clear n0_ n1_; clear ho hb hg hat))
    go_ret
    exact ⟨_, by first | rfl | (simp [errW_none, errW_some] <;> rfl) | (simp [*, errW_none, errW_some] <;> rfl), by (with_reducible repeat (first | apply Kd.R_alloc | apply Kd.R_drewN | apply Kd.R_drew)); exact HO152.out, by repeat (first | (with_reducible first | exact HB.out | apply below_alloc | apply pw_below_drewN | apply below_drew1) | exact HB.out)⟩
  · rw [if_neg c2] at H
    exact absurd H (by simp)

/-! ### pages_Cost: function 25 -/
def pages_Cost.sum (l0 : List S43) (h : Int) : List Int → Int → Int → Option (Int × Bool)
  | [], s, _ => some (s, true)
  | b :: r, s, a => if b ≤ a then some (0, false) else (pages_column_legal.f l0 (pages_ready.hs l0) (pages_ready.fs l0) (pages_ready.ms l0) b).bind fun t => if t = false then some (0, false) else
      (pages_column_cost.f l0 (pages_ready.hs l0) (pages_ready.fs l0) (pages_ready.ms l0) a b h).bind fun c => if c.2 = false then some (0, false) else pages_Cost.sum l0 h r (wrap64 (s + c.1)) b
def pages_Cost.f (k : Nat) (l0 : List (S43)) (l1 : List Int) (a2 : Int) : Option (Int × Bool) :=
  (pages_Good.f k l0).bind fun t => if t = false then some (0, false) else (pages_room.f a2).bind fun u => if u = false then some (0, false) else
    if l1.length = 0 then some (0, false) else if rd l1 ((l1.length : Int) - 1) = (l0.length : Int) - 1 then (if l0.length ≤ 1024 ∧ l1.length ≤ 100000 then pages_Cost.sum l0 a2 l1 0 (-1) else none) else (if l0.length ≤ 1024 ∧ l1.length ≤ 100000 then some (0, false) else none)
theorem pages_Cost.mono : ∀ a0 a1 a2 k, LeO (pages_Cost.f k a0 a1 a2) (pages_Cost.f (k + 1) a0 a1 a2) := by
  intro a0 a1 a2 k
  unfold pages_Cost.f
  exact LeO.bind (pages_Good.mono _ _) (fun _ => LeO.refl _)
set_option maxHeartbeats 8000000 in
set_option maxRecDepth 100000 in
theorem pages_Cost.calls (k : Nat) (A0 : Option Addr) (c0 : Nat) (l0 : List (S43)) (A1 : Option Addr) (c1 : Nat) (l1 : List Int) (a2 : Int) (r1 : Int) (r2 : Bool) (w : World) (hr0 : Kd.C k43 w A0 l0.length l0) (hc0 : l0.length ≤ c0) (hr1 : Kd.C (Kd.int .i64) w A1 l1.length l1) (hc1 : l1.length ≤ c1) (h : pages_Cost.f k l0 l1 a2 = some (r1, r2)) :
    Calls Try.prog 25 #[.slice A0 l0.length c0, .slice A1 l1.length c1, .int .i64 a2] w fun e w' => e = .returned (.tuple #[.int .i64 r1, .bool r2]) ∧ Below w.heap.size w w' := by
  have hu43 := Try.underlying43
  have HR0 := Aside0.mk hr0
  have HC0 := Aside0.mk hc0
  have HR1 := Aside0.mk hr1
  have HC1 := Aside0.mk hc1
  have HB := Aside0.mk (Below.refl w.heap.size w)
  clear hr0 hc0 hr1 hc1
  unfold pages_Cost.f at h
  obtain ⟨t, A10, H⟩ := Option.bind_eq_some_iff.mp h
  have A1 := Aside0.mk A10
  clear A10 h
  cases t with
  | false =>
    rw [if_pos rfl] at H
    simp only [Option.some.injEq, Prod.mk.injEq] at H
    obtain ⟨rfl, rfl⟩ := H
    go_enter Try.func25, Try.ntmps25
    go_wp2_with (first | (go_at_call 29; (with_reducible refine (pages_Good.calls k _ _ l0 false _ HR0.out HC0.out A1.out).mono ?_); rintro e w5 ⟨rfl, hb⟩; have n0_ := Aside0.mk (below_step HB.out hb); clear HB; have HB := n0_; clear n0_; clear hb))
    go_ret2
    exact ⟨rfl, (by repeat (first | (with_reducible first | exact HB.out | apply below_alloc | apply pw_below_drewN | apply below_drew1) | exact HB.out))⟩
  | true =>
    rw [if_neg (by decide)] at H
    obtain ⟨u, A20, H⟩ := Option.bind_eq_some_iff.mp H
    have A2 := Aside0.mk A20
    clear A20
    cases u with
    | false =>
      rw [if_pos rfl] at H
      simp only [Option.some.injEq, Prod.mk.injEq] at H
      obtain ⟨rfl, rfl⟩ := H
      go_enter Try.func25, Try.ntmps25
      go_wp2_with (first | (go_at_call 29; (with_reducible refine (pages_Good.calls k _ _ l0 true _ HR0.out HC0.out A1.out).mono ?_); rintro e w5 ⟨rfl, hb⟩; have n0_ := Aside0.mk (below_step HB.out hb); clear HB; have HB := n0_; clear n0_; clear hb) | (go_at_call 35; (with_reducible refine (pages_room.calls a2 false _ A2.out).mono ?_); rintro e w6 ⟨rfl, ⟨nd, rfl⟩⟩; have n0_ := Aside0.mk (pw_below_drewN HB.out nd); clear HB; have HB := n0_; clear n0_))
      go_ret2
      exact ⟨rfl, (by repeat (first | (with_reducible first | exact HB.out | apply below_alloc | apply pw_below_drewN | apply below_drew1) | exact HB.out))⟩
    | true =>
      rw [if_neg (by decide)] at H
      by_cases c1 : l1.length = 0
      · rw [if_pos c1] at H
        have c1b : ((l1.length : Int) == 0) = true := beq_iff_eq.mpr (by omega)
        have c1c : (l1.length == 0) = true := beq_iff_eq.mpr c1
        simp only [Option.some.injEq, Prod.mk.injEq] at H
        obtain ⟨rfl, rfl⟩ := H
        clear c1
        go_enter Try.func25, Try.ntmps25
        go_wp2_with (first | (go_at_call 29; (with_reducible refine (pages_Good.calls k _ _ l0 true _ HR0.out HC0.out A1.out).mono ?_); rintro e w5 ⟨rfl, hb⟩; have n0_ := Aside0.mk (below_step HB.out hb); clear HB; have HB := n0_; clear n0_; clear hb) | (go_at_call 35; (with_reducible refine (pages_room.calls a2 true _ A2.out).mono ?_); rintro e w6 ⟨rfl, ⟨nd, rfl⟩⟩; have n0_ := Aside0.mk (pw_below_drewN HB.out nd); clear HB; have HB := n0_; clear n0_))
        go_ret2
        exact ⟨rfl, (by repeat (first | (with_reducible first | exact HB.out | apply below_alloc | apply pw_below_drewN | apply below_drew1) | exact HB.out))⟩
      · rw [if_neg c1] at H
        have c1b : ((l1.length : Int) == 0) = false := beq_eq_false_iff_ne.mpr (by omega)
        have c1c : (l1.length == 0) = false := beq_eq_false_iff_ne.mpr c1
        have hpos : 0 < l1.length := by omega
        obtain ⟨ad, ead, hx⟩ := Kd.at_int HR1.out ((l1.length : Int) - 1) (by omega) (by omega)
        cases ead
        rw [show ((l1.length : Int) - 1).toNat = l1.length - 1 by omega] at hx
        have q1 : (0 ≤ (l1.length : Int) - 1) = True := eq_true (by omega)
        have q2 : ((l1.length : Int) - 1 < (l1.length : Int)) = True := eq_true (by omega)
        have q3 : (1 ≤ (l1.length : Int)) = True := eq_true (by omega)
        have q4 : (0 < l1.length) = True := eq_true hpos
        have q5 : ((l1.length : Int) - 1).toNat = l1.length - 1 := by omega
        by_cases hn : l0.length ≤ 1024 ∧ l1.length ≤ 100000
        rotate_left
        · exfalso
          by_cases cx : rd l1 ((l1.length : Int) - 1) = (l0.length : Int) - 1
          · rw [if_pos cx, if_neg hn] at H
            exact absurd H (by simp)
          · rw [if_neg cx, if_neg hn] at H
            exact absurd H (by simp)
        rw [if_pos hn, if_pos hn] at H
        have HN := Aside0.mk hn.1
        have hw0 : IntKind.i64.wrap ((l0.length : Int) - 1) = (l0.length : Int) - 1 := by rw [IntKind.wrap_i64]; omega
        have hw1 : IntKind.i64.wrap ((l1.length : Int) - 1) = (l1.length : Int) - 1 := by rw [IntKind.wrap_i64]; omega
        have HL1 := Aside0.mk hn.2
        clear hn c1 hpos
        by_cases c2 : rd l1 ((l1.length : Int) - 1) = (l0.length : Int) - 1
        rotate_left
        · rw [if_neg c2] at H
          simp only [Option.some.injEq, Prod.mk.injEq] at H
          obtain ⟨rfl, rfl⟩ := H
          have c2b : (rd l1 ((l1.length : Int) - 1) == (l0.length : Int) - 1) = false := beq_eq_false_iff_ne.mpr c2
          have c2c : (rd l1 ((l1.length : Int) - 1) != (l0.length : Int) - 1) = true := bne_iff_ne.mpr c2
          clear c2
          go_enter Try.func25, Try.ntmps25
          go_wp2_with (first | (go_at_call 29; (with_reducible refine (pages_Good.calls k _ _ l0 true _ HR0.out HC0.out A1.out).mono ?_); rintro e w5 ⟨rfl, hb⟩; have n0_ := Aside0.mk (below_step HB.out hb); clear HB; have HB := n0_; clear n0_; clear hb) | (go_at_call 35; (with_reducible refine (pages_room.calls a2 true _ A2.out).mono ?_); rintro e w6 ⟨rfl, ⟨nd, rfl⟩⟩; have n0_ := Aside0.mk (pw_below_drewN HB.out nd); clear HB; have HB := n0_; clear n0_; replace hx := pw_cell_below HB.out hx))
          go_ret2
          exact ⟨rfl, (by repeat (first | (with_reducible first | exact HB.out | apply below_alloc | apply pw_below_drewN | apply below_drew1) | exact HB.out))⟩
        · rw [if_pos c2] at H
          have c2b : (rd l1 ((l1.length : Int) - 1) == (l0.length : Int) - 1) = true := beq_iff_eq.mpr c2
          have c2c : (rd l1 ((l1.length : Int) - 1) != (l0.length : Int) - 1) = false := bne_eq_false_iff_eq.mpr c2
          have HS := Aside0.mk H
          clear c2 H
          go_enter Try.func25, Try.ntmps25
          go_wp2_with (first | (go_at_call 29; (with_reducible refine (pages_Good.calls k _ _ l0 true _ HR0.out HC0.out A1.out).mono ?_); rintro e w5 ⟨rfl, hb⟩; have n0_ := Aside0.mk (below_step HB.out hb); clear HB; have HB := n0_; clear n0_; clear hb) | (go_at_call 35; (with_reducible refine (pages_room.calls a2 true _ A2.out).mono ?_); rintro e w6 ⟨rfl, ⟨nd, rfl⟩⟩; have n0_ := Aside0.mk (pw_below_drewN HB.out nd); clear HB; have HB := n0_; clear n0_; replace hx := pw_cell_below HB.out hx) | (go_at_call 36; (with_reducible refine (pages_ready.calls _ _ l0 _ (Kd.C_below HR0.out (by repeat (first | (with_reducible first | exact HB.out | apply below_alloc | apply pw_below_drewN | apply below_drew1) | exact HB.out))) HC0.out (Nat.le_trans HN.out (by decide))).mono ?_); rintro e w7 ⟨g, rfl, hcol, hb⟩; have HCOL := Aside0.mk hcol; have n0_ := Aside0.mk (below_step (by repeat (first | (with_reducible first | exact HB.out | apply below_alloc | apply pw_below_drewN | apply below_drew1) | exact HB.out)) hb); clear HB hb hcol; have HB := n0_; clear n0_))
          clear hx c2b c2c q1 q2 q3 q4 q5 hw0 hw1 c1b c1c
          go_loopg [9, 10, 44] (l1.length) (fun kq v9 v10 v44 w' => ∃ (i : Nat) (s a : Int), v9 = .int .i64 s ∧ v10 = .int .i64 a ∧ v44 = .int .i64 (i : Int) ∧ Aside0 (i + kq = l1.length) ∧ Aside0 (pages_Cost.sum l0 a2 (l1.drop i) s a = some (r1, r2)) ∧ Aside0 (Below w.heap.size w w') ∧ Aside0 (Pg.Col k43 w' g l0 (pages_ready.hs l0) (pages_ready.fs l0) (pages_ready.ms l0)))
          case atStart => exact ⟨0, 0, -1, rfl, by first | rfl | simp, by first | rfl | simp, ⟨by omega⟩, HS, ⟨(by repeat (first | (with_reducible first | exact HB.out | apply below_alloc | apply pw_below_drewN | apply below_drew1) | exact HB.out))⟩, ⟨HCOL.out.below (by repeat (first | exact Below.refl _ _ | apply below_alloc | apply pw_below_drewN | apply below_drew1))⟩⟩
          case round =>
            clear HS HB HCOL
            obtain ⟨i, s, a, rfl, rfl, rfl, HK, HS, HB, HCOL⟩ := hrel
            cases gk with
            | zero =>
              have m1 : decide ((i : Int) < (l1.length : Int)) = false := decide_eq_false (by have := HK.out; omega)
              have m2 : (i < l1.length) = False := eq_false (by have := HK.out; omega)
              have m3 : decide (i < l1.length) = false := decide_eq_false (by have := HK.out; omega)
              have H := HS.out
              rw [List.drop_eq_nil_of_le (by have := HK.out; omega)] at H
              unfold pages_Cost.sum at H
              simp only [Option.some.injEq, Prod.mk.injEq] at H
              obtain ⟨rfl, rfl⟩ := H
              go_wp2
              go_ret2
              exact ⟨rfl, (by repeat (first | (with_reducible first | exact HB.out | apply below_alloc | apply pw_below_drewN | apply below_drew1) | exact HB.out))⟩
            | succ c =>
              have hi : i < l1.length := by have := HK.out; omega
              have m1 : decide ((i : Int) < (l1.length : Int)) = true := decide_eq_true (by omega)
              have m2 : ((i : Int) < (l1.length : Int)) = True := eq_true (by omega)
              have m3 : (0 ≤ (i : Int)) = True := eq_true (by omega)
              have m4 : (i < l1.length) = True := eq_true hi
              have m5 : decide (i < l1.length) = true := decide_eq_true hi
              have hwi : IntKind.i64.wrap ((i : Int) + 1) = (i : Int) + 1 := by have := HL1.out; rw [IntKind.wrap_i64]; omega
              obtain ⟨adi, eadi, hxi⟩ := Kd.at_int HR1.out (i : Int) (by omega) (by omega)
              obtain rfl : ad = adi := by injection eadi
              rw [Int.toNat_natCast] at hxi
              have hxj := pw_cell_below HB.out hxi
              have H := HS.out
              have ed : l1.drop i = rd l1 (i : Int) :: l1.drop (i + 1) := by
                rw [List.drop_eq_getElem_cons hi]
                simp [rd, List.getD_eq_getElem?_getD, hi]
              rw [ed] at H
              obtain ⟨b, hbv⟩ : ∃ b : Int, rd l1 (i : Int) = b := ⟨_, rfl⟩
              rw [hbv] at H hxj
              unfold pages_Cost.sum at H
              clear hxi ed hbv HS hi eadi
              by_cases d1 : b ≤ a
              · rw [if_pos d1] at H
                have d1b : decide (b ≤ a) = true := decide_eq_true d1
                simp only [Option.some.injEq, Prod.mk.injEq] at H
                obtain ⟨rfl, rfl⟩ := H
                clear d1
                go_wp2
                go_ret2
                exact ⟨rfl, (by repeat (first | (with_reducible first | exact HB.out | apply below_alloc | apply pw_below_drewN | apply below_drew1) | exact HB.out))⟩
              · rw [if_neg d1] at H
                have d1b : decide (b ≤ a) = false := decide_eq_false d1
                clear d1
                obtain ⟨t, A40, H⟩ := Option.bind_eq_some_iff.mp H
                have A4 := Aside0.mk A40
                clear A40
                cases t with
                | false =>
                  rw [if_pos rfl] at H
                  simp only [Option.some.injEq, Prod.mk.injEq] at H
                  obtain ⟨rfl, rfl⟩ := H
                  go_wp2_with (first | (go_at_call 37; (with_reducible refine (pages_column_legal.calls g _ _ _ _ b false _ (HCOL.out.below (by repeat (first | exact Below.refl _ _ | apply below_alloc | apply pw_below_drewN | apply below_drew1))) A4.out).mono ?_); rintro e w8 ⟨rfl, hb⟩; have n0_ := Aside0.mk (below_step (by repeat (first | (with_reducible first | exact HB.out | apply below_alloc | apply pw_below_drewN | apply below_drew1) | exact HB.out)) hb); have n1_ := Aside0.mk (HCOL.out.below (below_step (by repeat (first | exact Below.refl _ _ | apply below_alloc | apply pw_below_drewN | apply below_drew1)) hb)); clear HB HCOL hb; have HB := n0_; have HCOL := n1_; clear n0_ n1_))
                  go_ret2
                  exact ⟨rfl, (by repeat (first | (with_reducible first | exact HB.out | apply below_alloc | apply pw_below_drewN | apply below_drew1) | exact HB.out))⟩
                | true =>
                  rw [if_neg (by decide)] at H
                  obtain ⟨⟨n, ok⟩, A50, H⟩ := Option.bind_eq_some_iff.mp H
                  have A5 := Aside0.mk A50
                  clear A50
                  cases ok with
                  | false =>
                    rw [if_pos rfl] at H
                    simp only [Option.some.injEq, Prod.mk.injEq] at H
                    obtain ⟨rfl, rfl⟩ := H
                    go_wp2_with (first | (go_at_call 37; (with_reducible refine (pages_column_legal.calls g _ _ _ _ b true _ (HCOL.out.below (by repeat (first | exact Below.refl _ _ | apply below_alloc | apply pw_below_drewN | apply below_drew1))) A4.out).mono ?_); rintro e w8 ⟨rfl, hb⟩; have n0_ := Aside0.mk (below_step (by repeat (first | (with_reducible first | exact HB.out | apply below_alloc | apply pw_below_drewN | apply below_drew1) | exact HB.out)) hb); have n1_ := Aside0.mk (HCOL.out.below (below_step (by repeat (first | exact Below.refl _ _ | apply below_alloc | apply pw_below_drewN | apply below_drew1)) hb)); clear HB HCOL hb; have HB := n0_; have HCOL := n1_; clear n0_ n1_) | (go_at_call 39; (with_reducible refine (pages_column_cost.calls g _ _ _ _ a b a2 n false _ (HCOL.out.below (by repeat (first | exact Below.refl _ _ | apply below_alloc | apply pw_below_drewN | apply below_drew1))) A5.out).mono ?_); rintro e w9 ⟨rfl, hb⟩; have n0_ := Aside0.mk (below_step (by repeat (first | (with_reducible first | exact HB.out | apply below_alloc | apply pw_below_drewN | apply below_drew1) | exact HB.out)) hb); have n1_ := Aside0.mk (HCOL.out.below (below_step (by repeat (first | exact Below.refl _ _ | apply below_alloc | apply pw_below_drewN | apply below_drew1)) hb)); clear HB HCOL hb; have HB := n0_; have HCOL := n1_; clear n0_ n1_))
                    go_ret2
                    exact ⟨rfl, (by repeat (first | (with_reducible first | exact HB.out | apply below_alloc | apply pw_below_drewN | apply below_drew1) | exact HB.out))⟩
                  | true =>
                    rw [if_neg (by simp)] at H
                    have HS := Aside0.mk H
                    clear H
                    go_wp2_with (first | (go_at_call 37; (with_reducible refine (pages_column_legal.calls g _ _ _ _ b true _ (HCOL.out.below (by repeat (first | exact Below.refl _ _ | apply below_alloc | apply pw_below_drewN | apply below_drew1))) A4.out).mono ?_); rintro e w8 ⟨rfl, hb⟩; have n0_ := Aside0.mk (below_step (by repeat (first | (with_reducible first | exact HB.out | apply below_alloc | apply pw_below_drewN | apply below_drew1) | exact HB.out)) hb); have n1_ := Aside0.mk (HCOL.out.below (below_step (by repeat (first | exact Below.refl _ _ | apply below_alloc | apply pw_below_drewN | apply below_drew1)) hb)); clear HB HCOL hb; have HB := n0_; have HCOL := n1_; clear n0_ n1_) | (go_at_call 39; (with_reducible refine (pages_column_cost.calls g _ _ _ _ a b a2 n true _ (HCOL.out.below (by repeat (first | exact Below.refl _ _ | apply below_alloc | apply pw_below_drewN | apply below_drew1))) A5.out).mono ?_); rintro e w9 ⟨rfl, hb⟩; have n0_ := Aside0.mk (below_step (by repeat (first | (with_reducible first | exact HB.out | apply below_alloc | apply pw_below_drewN | apply below_drew1) | exact HB.out)) hb); have n1_ := Aside0.mk (HCOL.out.below (below_step (by repeat (first | exact Below.refl _ _ | apply below_alloc | apply pw_below_drewN | apply below_drew1)) hb)); clear HB HCOL hb; have HB := n0_; have HCOL := n1_; clear n0_ n1_))
                    go_roundg c
                    case measure => exact Nat.lt_succ_self c
                    case rel => exact ⟨i + 1, wrap64 (s + n), b, by first | rfl | simp, rfl, by first | rfl | simp, ⟨by have := HK.out; omega⟩, HS, ⟨(by repeat (first | (with_reducible first | exact HB.out | apply below_alloc | apply pw_below_drewN | apply below_drew1) | exact HB.out))⟩, ⟨HCOL.out.below (by repeat (first | exact Below.refl _ _ | apply below_alloc | apply pw_below_drewN | apply below_drew1))⟩⟩

/-! ### colophonkeep_Ints: function 26 -/
def colophonkeep_Ints.f (l0 : List Int) (a1 : Int) : Option (List Int) := if (l0.length : Int) > a1 then (if 0 ≤ a1 then (if a1 ≤ (l0.length : Int) then ((some (([] : List Int) : List Int)).bind fun y154 => (if y154.length + (l0.take (a1 : Int).toNat).length < 17592186044416 then (some (y154 ++ (l0.take (a1 : Int).toNat))) else (none))) else (none)) else (none)) else ((some (([] : List Int) : List Int)).bind fun y160 => (if y160.length + l0.length < 17592186044416 then (some (y160 ++ l0)) else (none)))
set_option maxHeartbeats 8000000 in
set_option maxRecDepth 100000 in
theorem colophonkeep_Ints.calls (A0 : Option Addr) (c0 : Nat) (l0 : List Int) (a1 : Int) (r : List Int) (w : World) (hr0 : Kd.C (Kd.int .i64) w A0 l0.length l0) (hc0 : l0.length ≤ c0) (h : colophonkeep_Ints.f l0 a1 = some r) :
    Calls Try.prog 26 #[.slice A0 l0.length c0, .int .i64 a1] w fun e w' => ∃ v0_ : Value, e = .returned (v0_) ∧ Kd.R (Kd.int .i64) 3 w' w.heap.size (fun _ => True) v0_ r ∧ Below w.heap.size w w' := by
  have HR0 := Aside0.mk hr0
  have HC0 := Aside0.mk hc0
  clear hr0 hc0
  have HB := Aside0.mk (Below.refl w.heap.size w)
  have H : (if (l0.length : Int) > a1 then (if 0 ≤ a1 then (if a1 ≤ (l0.length : Int) then ((some (([] : List Int) : List Int)).bind fun y154 => (if y154.length + (l0.take (a1 : Int).toNat).length < 17592186044416 then (some (y154 ++ (l0.take (a1 : Int).toNat))) else (none))) else (none)) else (none)) else ((some (([] : List Int) : List Int)).bind fun y160 => (if y160.length + l0.length < 17592186044416 then (some (y160 ++ l0)) else (none)))) = some r := h
  clear h
  by_cases c3 : (l0.length : Int) > a1
  · rw [if_pos c3] at H
    have c3b0 : decide (a1 < (l0.length : Int)) = true := decide_eq_true c3
    clear c3
    by_cases c4 : 0 ≤ a1
    · rw [if_pos c4] at H
      have c4b0 := eq_true c4
      have c4b1 : decide (0 ≤ a1) = true := decide_eq_true c4
      clear c4
      by_cases c5 : a1 ≤ (l0.length : Int)
      · rw [if_pos c5] at H
        have c5b0 := eq_true c5
        have c5b1 : decide (a1 ≤ (l0.length : Int)) = true := decide_eq_true c5
        clear c5
        obtain ⟨y154, hy154⟩ : ∃ y_ : List Int, y_ = (([] : List Int)) := ⟨_, rfl⟩
        replace H : (if y154.length + (l0.take (a1 : Int).toNat).length < 17592186044416 then (some (y154 ++ (l0.take (a1 : Int).toNat))) else (none)) = some r := by first | (rw [hy154]; with_reducible exact H) | (have H2_ := (Option.bind_some _ _).symm.trans H; rw [hy154]; with_reducible exact H2_) | (have H2_ := (Option.bind_some _ _).symm.trans H; with_reducible exact H2_) | with_reducible exact H | (rw [hy154]; exact H) | exact H
        have Ny154 := Aside0.mk hy154
        clear hy154
        by_cases c6 : y154.length + (l0.take (a1 : Int).toNat).length < 17592186044416
        · rw [if_pos c6] at H
          have LMc6 := Aside0.mk c6
          clear c6
          obtain ⟨y157, hy157⟩ : ∃ y_ : List Int, y_ = (y154 ++ (l0.take (a1 : Int).toNat)) := ⟨_, rfl⟩
          replace H : (some y157) = some r := by first | (rw [hy157]; with_reducible exact H) | (have H2_ := (Option.bind_some _ _).symm.trans H; rw [hy157]; with_reducible exact H2_) | (have H2_ := (Option.bind_some _ _).symm.trans H; with_reducible exact H2_) | with_reducible exact H | (rw [hy157]; exact H) | exact H
          have Ny157 := Aside0.mk hy157
          clear hy157
          obtain rfl := Option.some.inj H
          obtain ⟨i07, hi07, _, hsz7, _⟩ := info_parts info3
          obtain ⟨hcut7, hA7, hC7⟩ := print_take_of (P := Try.prog) (Value.int .i64) 0 26 3 .i64 Try.underlying26 hi07 hsz7 A0 c0 l0 a1 (of_decide_eq_true (by first | (with_reducible assumption) | assumption)) (of_decide_eq_true (by first | (with_reducible assumption) | assumption)) HC0.out
          have HR153 := Aside0.mk (Kd.C_of_reads (h1 := fun _ => rfl) (hA7 _ (Kd.reads_of_C HR0.out)))
          have HC153 := Aside0.mk hC7
          clear hA7 hC7 hi07 hsz7
          go_enter Try.func26, Try.ntmps26
          go_wp2_with (first | ((with_reducible refine gate_dst (N := 12) rfl ?_); refine Kd.R_lit (Kd.int .i64) _ 3 ?hg (N := 12) ?hd (xs := ([] : List Int)) (inner := []) (ok := fun _ => True) (okp := fun _ => True) ?hr ?hp (fun _ hk => hk) trivial (Below.refl _ _) (Nat.le_refl _) (by simp) ?_; (case hd => rfl); (case hg => rfl); (case hr => first | (go_simp; done) | (go_simp; rfl)); (case hp => exact (Reps.none _ _)); intro v155 w8 ho9 hb hg_ hnew_; clear hg_ hnew_; (first | rw [← Ny154.out] at ho9 | (simp only [Int.reduceToNat] at ho9; rw [← Ny154.out] at ho9)); have n0_ := Aside0.mk (Kd.R_lower ho9 (below_size (by repeat (first | (with_reducible first | exact HB.out | apply below_alloc | apply pw_below_drewN | apply below_drew1) | exact HB.out)))); have n1_ := Aside0.mk (below_step (by repeat (first | (with_reducible first | exact HB.out | apply below_alloc | apply pw_below_drewN | apply below_drew1) | exact HB.out)) hb); clear HB; have HO156 := n0_; have HB := n1_; clear n0_ n1_; clear hb ho9) | ((with_reducible refine gate_builtin (b := .append) (xs := #[.tmp 12, .tmp 13]) rfl ?_); at_builtin; refine Kd.R_append_rows (Kd.int .i64) (w0 := w) w.heap.size rfl (.tmp 12) (.tmp 13) 26 3 (.int .i64 0) 8 rfl Try.underlying26 info3 rfl (by decide) (by omega) v155 y154 (l0.take (a1 : Int).toNat) _ _ _ (fun _ => True) (fun _ => False) rfl rfl ?aO ?aR (fun _ _ h => h) (fun _ h => h.elim) ?aF ?aB ?aS ?aL ?_; (case aR => first | (have q_ := HR153.out; rw [show (l0.take (a1 : Int).toNat).length = a1.toNat from (by rw [List.length_take]; have h_ : (a1 : Int) ≤ (l0.length : Int) := of_decide_eq_true (by first | (with_reducible assumption) | assumption); omega)] at q_; repeat (first | exact (Kd.C_below q_ HB.out) | (with_reducible refine Kd.C_alloc ?_ _) | (with_reducible refine Kd.C_drewN ?_ _) | (with_reducible refine Kd.C_drew ?_))) | (rw [← show (l0.take (a1 : Int).toNat).length = a1.toNat from (by rw [List.length_take]; have h_ : (a1 : Int) ≤ (l0.length : Int) := of_decide_eq_true (by first | (with_reducible assumption) | assumption); omega)]; repeat (first | exact (Kd.C_below HR153.out HB.out) | (with_reducible refine Kd.C_alloc ?_ _) | (with_reducible refine Kd.C_drewN ?_ _) | (with_reducible refine Kd.C_drew ?_))) | (repeat (first | exact (Kd.C_below HR153.out HB.out) | (with_reducible refine Kd.C_alloc ?_ _) | (with_reducible refine Kd.C_drewN ?_ _) | (with_reducible refine Kd.C_drew ?_)))); (case aB => exact (by repeat (first | (with_reducible first | exact HB.out | apply below_alloc | apply pw_below_drewN | apply below_drew1) | exact HB.out))); (case aF => exact (fun _ _ => trivial)); (case aO => exact (by (with_reducible repeat (first | apply Kd.R_alloc | apply Kd.R_drewN | apply Kd.R_drew)); exact HO156.out)); (case aS => exact (below_size (by repeat (first | (with_reducible first | exact HB.out | apply below_alloc | apply pw_below_drewN | apply below_drew1) | exact HB.out)))); (case aL => have := LMc6.out; have hlx_ := (show (l0.take (a1 : Int).toNat).length = a1.toNat from (by rw [List.length_take]; have h_ : (a1 : Int) ≤ (l0.length : Int) := of_decide_eq_true (by first | (with_reducible assumption) | assumption); omega)); omega); intro v158 w10 ho hb hg hat; rw [← Ny157.out] at ho; have n0_ := Aside0.mk (hb); have n1_ := Aside0.mk (ho); clear HB; clear HO156; have HB := n0_; have HO159 := n1_; clear n0_ n1_; clear ho hb hg hat))
          go_ret
          exact ⟨_, by first | rfl | (simp [errW_none, errW_some] <;> rfl) | (simp [*, errW_none, errW_some] <;> rfl), by (with_reducible repeat (first | apply Kd.R_alloc | apply Kd.R_drewN | apply Kd.R_drew)); exact HO159.out, by repeat (first | (with_reducible first | exact HB.out | apply below_alloc | apply pw_below_drewN | apply below_drew1) | exact HB.out)⟩
        · rw [if_neg c6] at H
          exact absurd H (by simp)
      · rw [if_neg c5] at H
        exact absurd H (by simp)
    · rw [if_neg c4] at H
      exact absurd H (by simp)
  · rw [if_neg c3] at H
    have c3b0 : decide (a1 < (l0.length : Int)) = false := decide_eq_false c3
    clear c3
    obtain ⟨y160, hy160⟩ : ∃ y_ : List Int, y_ = (([] : List Int)) := ⟨_, rfl⟩
    replace H : (if y160.length + l0.length < 17592186044416 then (some (y160 ++ l0)) else (none)) = some r := by first | (rw [hy160]; with_reducible exact H) | (have H2_ := (Option.bind_some _ _).symm.trans H; rw [hy160]; with_reducible exact H2_) | (have H2_ := (Option.bind_some _ _).symm.trans H; with_reducible exact H2_) | with_reducible exact H | (rw [hy160]; exact H) | exact H
    have Ny160 := Aside0.mk hy160
    clear hy160
    by_cases c11 : y160.length + l0.length < 17592186044416
    · rw [if_pos c11] at H
      have LMc11 := Aside0.mk c11
      clear c11
      obtain ⟨y163, hy163⟩ : ∃ y_ : List Int, y_ = (y160 ++ l0) := ⟨_, rfl⟩
      replace H : (some y163) = some r := by first | (rw [hy163]; with_reducible exact H) | (have H2_ := (Option.bind_some _ _).symm.trans H; rw [hy163]; with_reducible exact H2_) | (have H2_ := (Option.bind_some _ _).symm.trans H; with_reducible exact H2_) | with_reducible exact H | (rw [hy163]; exact H) | exact H
      have Ny163 := Aside0.mk hy163
      clear hy163
      obtain rfl := Option.some.inj H
      go_enter Try.func26, Try.ntmps26
      go_wp2_with (first | ((with_reducible refine gate_dst (N := 12) rfl ?_); refine Kd.R_lit (Kd.int .i64) _ 3 ?hg (N := 12) ?hd (xs := ([] : List Int)) (inner := []) (ok := fun _ => True) (okp := fun _ => True) ?hr ?hp (fun _ hk => hk) trivial (Below.refl _ _) (Nat.le_refl _) (by simp) ?_; (case hd => rfl); (case hg => rfl); (case hr => first | (go_simp; done) | (go_simp; rfl)); (case hp => exact (Reps.none _ _)); intro v161 w12 ho13 hb hg_ hnew_; clear hg_ hnew_; (first | rw [← Ny160.out] at ho13 | (simp only [Int.reduceToNat] at ho13; rw [← Ny160.out] at ho13)); have n0_ := Aside0.mk (Kd.R_lower ho13 (below_size (by repeat (first | (with_reducible first | exact HB.out | apply below_alloc | apply pw_below_drewN | apply below_drew1) | exact HB.out)))); have n1_ := Aside0.mk (below_step (by repeat (first | (with_reducible first | exact HB.out | apply below_alloc | apply pw_below_drewN | apply below_drew1) | exact HB.out)) hb); clear HB; have HO162 := n0_; have HB := n1_; clear n0_ n1_; clear hb ho13) | ((with_reducible refine gate_builtin (b := .append) (xs := #[.tmp 12, .tmp 13]) rfl ?_); at_builtin; refine Kd.R_append_rows (Kd.int .i64) (w0 := w) w.heap.size rfl (.tmp 12) (.tmp 13) 26 3 (.int .i64 0) 8 rfl Try.underlying26 info3 rfl (by decide) (by omega) v161 y160 l0 _ _ _ (fun _ => True) (fun _ => False) rfl rfl ?aO ?aR (fun _ _ h => h) (fun _ h => h.elim) ?aF ?aB ?aS ?aL ?_; (case aR => repeat (first | exact (Kd.C_below HR0.out HB.out) | (with_reducible refine Kd.C_alloc ?_ _) | (with_reducible refine Kd.C_drewN ?_ _) | (with_reducible refine Kd.C_drew ?_))); (case aB => exact (by repeat (first | (with_reducible first | exact HB.out | apply below_alloc | apply pw_below_drewN | apply below_drew1) | exact HB.out))); (case aF => exact (fun _ _ => trivial)); (case aO => exact (by (with_reducible repeat (first | apply Kd.R_alloc | apply Kd.R_drewN | apply Kd.R_drew)); exact HO162.out)); (case aS => exact (below_size (by repeat (first | (with_reducible first | exact HB.out | apply below_alloc | apply pw_below_drewN | apply below_drew1) | exact HB.out)))); (case aL => have := LMc11.out; omega); intro v164 w14 ho hb hg hat; rw [← Ny163.out] at ho; have n0_ := Aside0.mk (hb); have n1_ := Aside0.mk (ho); clear HB; clear HO162; have HB := n0_; have HO165 := n1_; clear n0_ n1_; clear ho hb hg hat))
      go_ret
      exact ⟨_, by first | rfl | (simp [errW_none, errW_some] <;> rfl) | (simp [*, errW_none, errW_some] <;> rfl), by (with_reducible repeat (first | apply Kd.R_alloc | apply Kd.R_drewN | apply Kd.R_drew)); exact HO165.out, by repeat (first | (with_reducible first | exact HB.out | apply below_alloc | apply pw_below_drewN | apply below_drew1) | exact HB.out)⟩
    · rw [if_neg c11] at H
      exact absurd H (by simp)

/-! ### colophonlaw27_PagesLeast: function 7 -/
def colophonlaw27_PagesLeast.j0 : Nat → List (S43) → Int → List Int → Int → Bool → Bool → Option (Bool)
  | 0, _, _, _, _, _, _ => none
  | k + 1, x0, x2, x9, x10, x11, x43 => if x43 = true then (some false) else (if x11 = true then ((colophonlaw27_twin.f x0).bind fun t184 => ((pages_Cost.f k t184 x9 x2).bind fun bt187 => (if bt187.2 = true then (if bt187.1 = x10 then ((colophonlaw27_wakes.f k).bind fun t189 => (some t189)) else (some false)) else (some false)))) else (if (x9.length : Int) = 0 then (if x10 = 0 then ((colophonlaw27_wakes.f k).bind fun t190 => (some t190)) else (some false)) else (some false)))
def colophonlaw27_PagesLeast.f (k : Nat) (l0 : List (S43)) (l1 : List Int) (a2 : Int) : Option (Bool) := (colophonlaw27_large.f l0).bind fun t166 => (if t166 = true then ((colophonlaw27_wakes.f k).bind fun t167 => (some t167)) else ((colophonlaw27_twin.f l0).bind fun t168 => ((colophonkeep_Ints.f l1 2000).bind fun t171 => ((pages_Cost.f k t168 t171 a2).bind fun bt174 => ((colophonlaw27_twin.f l0).bind fun t176 => ((pages_Best.f k t176 a2).bind fun bt179 => (if bt174.2 = true then (if bt179.2.2 = true then (colophonlaw27_PagesLeast.j0 k l0 a2 bt179.1 bt179.2.1 bt179.2.2 (decide (bt174.1 < bt179.2.1))) else (colophonlaw27_PagesLeast.j0 k l0 a2 bt179.1 bt179.2.1 bt179.2.2 true)) else (colophonlaw27_PagesLeast.j0 k l0 a2 bt179.1 bt179.2.1 bt179.2.2 false))))))))
theorem colophonlaw27_PagesLeast.mono_l : ∀ k, (∀ y0 y1 y2 y3 y4 y5, LeO (colophonlaw27_PagesLeast.j0 k y0 y1 y2 y3 y4 y5) (colophonlaw27_PagesLeast.j0 (k + 1) y0 y1 y2 y3 y4 y5))
  | 0 => fun _ _ _ _ _ _ r h => by simp [colophonlaw27_PagesLeast.j0] at h
  | k + 1 => by
    have ih0 := colophonlaw27_PagesLeast.mono_l k
    · intro y0 y1 y2 y3 y4 y5
      unfold colophonlaw27_PagesLeast.j0
      repeat' first
      | (with_reducible exact ih0 _ _ _ _ _ _)
      | (with_reducible exact colophonlaw27_wakes.mono _)
      | (with_reducible exact pages_Best.mono _ _ _)
      | (with_reducible exact pages_Cost.mono _ _ _ _)
      | (with_reducible exact LeO.refl _)
      | (with_reducible exact LeO.none _)
      | (with_reducible refine LeO.ite ?_ ?_)
      | (with_reducible refine LeO.bind ?_ (fun _ => ?_))
      | exact ih0 _ _ _ _ _ _
      | exact colophonlaw27_wakes.mono _
      | exact pages_Best.mono _ _ _
      | exact pages_Cost.mono _ _ _ _
      | exact LeO.none _
      | refine LeO.ite ?_ ?_
      | refine LeO.bind ?_ (fun _ => ?_)
theorem colophonlaw27_PagesLeast.mono : ∀ a0 a1 a2 k, LeO (colophonlaw27_PagesLeast.f k a0 a1 a2) (colophonlaw27_PagesLeast.f (k + 1) a0 a1 a2) := by
  intro a0 a1 a2 k
  have ih0 := colophonlaw27_PagesLeast.mono_l k
  unfold colophonlaw27_PagesLeast.f
  repeat' first
      | (with_reducible exact ih0 _ _ _ _ _ _)
      | (with_reducible exact colophonlaw27_wakes.mono _)
      | (with_reducible exact pages_Best.mono _ _ _)
      | (with_reducible exact pages_Cost.mono _ _ _ _)
      | (with_reducible exact LeO.refl _)
      | (with_reducible exact LeO.none _)
      | (with_reducible refine LeO.ite ?_ ?_)
      | (with_reducible refine LeO.bind ?_ (fun _ => ?_))
      | exact ih0 _ _ _ _ _ _
      | exact colophonlaw27_wakes.mono _
      | exact pages_Best.mono _ _ _
      | exact pages_Cost.mono _ _ _ _
      | exact LeO.none _
      | refine LeO.ite ?_ ?_
      | refine LeO.bind ?_ (fun _ => ?_)
set_option maxHeartbeats 8000000 in
set_option maxRecDepth 100000 in
theorem colophonlaw27_PagesLeast.calls (k : Nat) (A0 : Option Addr) (c0 : Nat) (l0 : List (S43)) (A1 : Option Addr) (c1 : Nat) (l1 : List Int) (a2 : Int) (r : Bool) (w : World) (hr0 : Kd.C k43 w A0 l0.length l0) (hc0 : l0.length ≤ c0) (hr1 : Kd.C (Kd.int .i64) w A1 l1.length l1) (hc1 : l1.length ≤ c1) (h : colophonlaw27_PagesLeast.f k l0 l1 a2 = some r) :
    Calls Try.prog 7 #[.slice A0 l0.length c0, .slice A1 l1.length c1, .int .i64 a2] w fun e w' => e = .returned (.bool r) ∧ Below w.heap.size w w' := by
  have HR0 := Aside0.mk hr0
  have HC0 := Aside0.mk hc0
  clear hr0 hc0
  have HR1 := Aside0.mk hr1
  have HC1 := Aside0.mk hc1
  clear hr1 hc1
  have HB := Aside0.mk (Below.refl w.heap.size w)
  have H : ((colophonlaw27_large.f l0).bind fun t166 => (if t166 = true then ((colophonlaw27_wakes.f k).bind fun t167 => (some t167)) else ((colophonlaw27_twin.f l0).bind fun t168 => ((colophonkeep_Ints.f l1 2000).bind fun t171 => ((pages_Cost.f k t168 t171 a2).bind fun bt174 => ((colophonlaw27_twin.f l0).bind fun t176 => ((pages_Best.f k t176 a2).bind fun bt179 => (if bt174.2 = true then (if bt179.2.2 = true then (colophonlaw27_PagesLeast.j0 k l0 a2 bt179.1 bt179.2.1 bt179.2.2 (decide (bt174.1 < bt179.2.1))) else (colophonlaw27_PagesLeast.j0 k l0 a2 bt179.1 bt179.2.1 bt179.2.2 true)) else (colophonlaw27_PagesLeast.j0 k l0 a2 bt179.1 bt179.2.1 bt179.2.2 false))))))))) = some r := h
  clear h
  replace H := Option.bind_eq_some_iff.mp H
  obtain ⟨t166, A40, H⟩ := H
  replace H : (if t166 = true then ((colophonlaw27_wakes.f k).bind fun t167 => (some t167)) else ((colophonlaw27_twin.f l0).bind fun t168 => ((colophonkeep_Ints.f l1 2000).bind fun t171 => ((pages_Cost.f k t168 t171 a2).bind fun bt174 => ((colophonlaw27_twin.f l0).bind fun t176 => ((pages_Best.f k t176 a2).bind fun bt179 => (if bt174.2 = true then (if bt179.2.2 = true then (colophonlaw27_PagesLeast.j0 k l0 a2 bt179.1 bt179.2.1 bt179.2.2 (decide (bt174.1 < bt179.2.1))) else (colophonlaw27_PagesLeast.j0 k l0 a2 bt179.1 bt179.2.1 bt179.2.2 true)) else (colophonlaw27_PagesLeast.j0 k l0 a2 bt179.1 bt179.2.1 bt179.2.2 false)))))))) = some r := H
  have A4 := Aside0.mk A40
  clear A40
  by_cases c5 : t166 = true
  · subst c5
    have H1 : ((colophonlaw27_wakes.f k).bind fun t167 => (some t167)) = some r := by rw [if_pos rfl] at H; exact H
    clear H
    have H := H1
    clear H1
    replace H := Option.bind_eq_some_iff.mp H
    obtain ⟨t167, A60, H⟩ := H
    replace H : (some t167) = some r := H
    have A6 := Aside0.mk A60
    clear A60
    obtain rfl := Option.some.inj H
    go_enter Try.func7, Try.ntmps7
    go_wp2_with (first | ((with_reducible refine gate_callee (f := 10) rfl ?_); refine goesL_ (some 15) rfl rfl Try.func10 (by kernel_rfl) rfl #[.slice A0 l0.length c0] rfl (by (try simp only [List.map_toArray, List.map_cons, List.map_nil]); first | done | rfl | (simp only [List.length_drop, List.length_take]; rfl)) ?_; (with_reducible refine (colophonlaw27_large.calls _ _ l0 true _ ?side1 ?side2 A4.out).mono ?_); (case side1 => repeat (first | exact HR0.out | (with_reducible refine Kd.C_alloc ?_ _) | (with_reducible refine Kd.C_drewN ?_ _) | (with_reducible refine Kd.C_drew ?_))); (case side2 => exact HC0.out); rintro e w' ⟨rfl, ⟨nd, rfl⟩⟩; refine ⟨_, rfl, ?_⟩) | ((with_reducible refine gate_callee (f := 11) rfl ?_); refine goesL_ (some 16) rfl rfl Try.func11 (by kernel_rfl) rfl #[] rfl (by (try simp only [List.map_toArray, List.map_cons, List.map_nil]); first | done | rfl | (simp only [List.length_drop, List.length_take]; rfl)) ?_; (with_reducible refine (colophonlaw27_wakes.calls k  t167 _ A6.out).mono ?_); rintro e w7 ⟨rfl, hb⟩; refine ⟨_, rfl, ?_⟩; have n0_ := Aside0.mk (below_step (by repeat (first | (with_reducible first | exact HB.out | apply below_alloc | apply pw_below_drewN | apply below_drew1) | exact HB.out)) hb); clear HB; have HB := n0_; clear n0_; (try clear hb); (try clear hb2); (try clear hk); (try clear hi)))
    go_ret
    exact ⟨by first | rfl | (simp [errW_none, errW_some] <;> rfl) | (simp [*, errW_none, errW_some] <;> rfl), by repeat (first | (with_reducible first | exact HB.out | apply below_alloc | apply pw_below_drewN | apply below_drew1) | exact HB.out)⟩
  · replace c5 := Bool.eq_false_iff.mpr c5
    subst c5
    have H1 : ((colophonlaw27_twin.f l0).bind fun t168 => ((colophonkeep_Ints.f l1 2000).bind fun t171 => ((pages_Cost.f k t168 t171 a2).bind fun bt174 => ((colophonlaw27_twin.f l0).bind fun t176 => ((pages_Best.f k t176 a2).bind fun bt179 => (if bt174.2 = true then (if bt179.2.2 = true then (colophonlaw27_PagesLeast.j0 k l0 a2 bt179.1 bt179.2.1 bt179.2.2 (decide (bt174.1 < bt179.2.1))) else (colophonlaw27_PagesLeast.j0 k l0 a2 bt179.1 bt179.2.1 bt179.2.2 true)) else (colophonlaw27_PagesLeast.j0 k l0 a2 bt179.1 bt179.2.1 bt179.2.2 false))))))) = some r := by rw [if_neg (show ¬ (false = true) by decide)] at H; exact H
    clear H
    have H := H1
    clear H1
    replace H := Option.bind_eq_some_iff.mp H
    obtain ⟨t168, A80, H⟩ := H
    replace H : ((colophonkeep_Ints.f l1 2000).bind fun t171 => ((pages_Cost.f k t168 t171 a2).bind fun bt174 => ((colophonlaw27_twin.f l0).bind fun t176 => ((pages_Best.f k t176 a2).bind fun bt179 => (if bt174.2 = true then (if bt179.2.2 = true then (colophonlaw27_PagesLeast.j0 k l0 a2 bt179.1 bt179.2.1 bt179.2.2 (decide (bt174.1 < bt179.2.1))) else (colophonlaw27_PagesLeast.j0 k l0 a2 bt179.1 bt179.2.1 bt179.2.2 true)) else (colophonlaw27_PagesLeast.j0 k l0 a2 bt179.1 bt179.2.1 bt179.2.2 false)))))) = some r := H
    have A8 := Aside0.mk A80
    clear A80
    replace H := Option.bind_eq_some_iff.mp H
    obtain ⟨t171, A90, H⟩ := H
    replace H : ((pages_Cost.f k t168 t171 a2).bind fun bt174 => ((colophonlaw27_twin.f l0).bind fun t176 => ((pages_Best.f k t176 a2).bind fun bt179 => (if bt174.2 = true then (if bt179.2.2 = true then (colophonlaw27_PagesLeast.j0 k l0 a2 bt179.1 bt179.2.1 bt179.2.2 (decide (bt174.1 < bt179.2.1))) else (colophonlaw27_PagesLeast.j0 k l0 a2 bt179.1 bt179.2.1 bt179.2.2 true)) else (colophonlaw27_PagesLeast.j0 k l0 a2 bt179.1 bt179.2.1 bt179.2.2 false))))) = some r := H
    have A9 := Aside0.mk A90
    clear A90
    replace H := Option.bind_eq_some_iff.mp H
    obtain ⟨⟨t174, t175⟩, A100, H⟩ := H
    replace H : ((colophonlaw27_twin.f l0).bind fun t176 => ((pages_Best.f k t176 a2).bind fun bt179 => (if t175 = true then (if bt179.2.2 = true then (colophonlaw27_PagesLeast.j0 k l0 a2 bt179.1 bt179.2.1 bt179.2.2 (decide (t174 < bt179.2.1))) else (colophonlaw27_PagesLeast.j0 k l0 a2 bt179.1 bt179.2.1 bt179.2.2 true)) else (colophonlaw27_PagesLeast.j0 k l0 a2 bt179.1 bt179.2.1 bt179.2.2 false)))) = some r := H
    have A10 := Aside0.mk A100
    clear A100
    replace H := Option.bind_eq_some_iff.mp H
    obtain ⟨t176, A110, H⟩ := H
    replace H : ((pages_Best.f k t176 a2).bind fun bt179 => (if t175 = true then (if bt179.2.2 = true then (colophonlaw27_PagesLeast.j0 k l0 a2 bt179.1 bt179.2.1 bt179.2.2 (decide (t174 < bt179.2.1))) else (colophonlaw27_PagesLeast.j0 k l0 a2 bt179.1 bt179.2.1 bt179.2.2 true)) else (colophonlaw27_PagesLeast.j0 k l0 a2 bt179.1 bt179.2.1 bt179.2.2 false))) = some r := H
    have A11 := Aside0.mk A110
    clear A110
    replace H := Option.bind_eq_some_iff.mp H
    obtain ⟨⟨t179, t180, t181⟩, A120, H⟩ := H
    replace H : (if t175 = true then (if t181 = true then (colophonlaw27_PagesLeast.j0 k l0 a2 t179 t180 t181 (decide (t174 < t180))) else (colophonlaw27_PagesLeast.j0 k l0 a2 t179 t180 t181 true)) else (colophonlaw27_PagesLeast.j0 k l0 a2 t179 t180 t181 false)) = some r := H
    have A12 := Aside0.mk A120
    clear A120
    have HC13 := Aside0.mk H
    clear H
    go_enter Try.func7, Try.ntmps7
    go_upto_region 5 with (first | ((with_reducible refine gate_callee (f := 10) rfl ?_); refine goesL_ (some 15) rfl rfl Try.func10 (by kernel_rfl) rfl #[.slice A0 l0.length c0] rfl (by (try simp only [List.map_toArray, List.map_cons, List.map_nil]); first | done | rfl | (simp only [List.length_drop, List.length_take]; rfl)) ?_; (with_reducible refine (colophonlaw27_large.calls _ _ l0 false _ ?side1 ?side2 A4.out).mono ?_); (case side1 => repeat (first | exact HR0.out | (with_reducible refine Kd.C_alloc ?_ _) | (with_reducible refine Kd.C_drewN ?_ _) | (with_reducible refine Kd.C_drew ?_))); (case side2 => exact HC0.out); rintro e w' ⟨rfl, ⟨nd, rfl⟩⟩; refine ⟨_, rfl, ?_⟩) | ((with_reducible refine gate_callee (f := 12) rfl ?_); refine goesL_ (some 19) rfl rfl Try.func12 (by kernel_rfl) rfl #[.slice A0 l0.length c0] rfl (by (try simp only [List.map_toArray, List.map_cons, List.map_nil]); first | done | rfl | (simp only [List.length_drop, List.length_take]; rfl)) ?_; (with_reducible refine (colophonlaw27_twin.calls _ _ l0 t168 _ ?side1 ?side2 A8.out).mono ?_); (case side1 => repeat (first | exact HR0.out | (with_reducible refine Kd.C_alloc ?_ _) | (with_reducible refine Kd.C_drewN ?_ _) | (with_reducible refine Kd.C_drew ?_))); (case side2 => exact HC0.out); rintro e w14 ⟨v169, rfl, ho0, hb⟩; refine ⟨_, rfl, ?_⟩; have n0_ := Aside0.mk (Kd.R_lower ho0 (below_size (by repeat (first | (with_reducible first | exact HB.out | apply below_alloc | apply pw_below_drewN | apply below_drew1) | exact HB.out)))); have n1_ := Aside0.mk (below_step (by repeat (first | (with_reducible first | exact HB.out | apply below_alloc | apply pw_below_drewN | apply below_drew1) | exact HB.out)) hb); clear HB; have HO170 := n0_; have HB := n1_; clear n0_ n1_; (try clear hb); (try clear hb2); (try clear hk); (try clear hi); (try clear ho0)) | ((with_reducible refine gate_callee (f := 26) rfl ?_); refine goesL_ (some 21) rfl rfl Try.func26 (by kernel_rfl) rfl #[.slice A1 l1.length c1, .int .i64 2000] rfl (by (try simp only [List.map_toArray, List.map_cons, List.map_nil]); first | done | rfl | (simp only [List.length_drop, List.length_take]; rfl)) ?_; (with_reducible refine (colophonkeep_Ints.calls _ _ l1 2000 t171 _ ?side1 ?side2 A9.out).mono ?_); (case side1 => repeat (first | exact (Kd.C_below HR1.out HB.out) | (with_reducible refine Kd.C_alloc ?_ _) | (with_reducible refine Kd.C_drewN ?_ _) | (with_reducible refine Kd.C_drew ?_))); (case side2 => exact HC1.out); rintro e w15 ⟨v172, rfl, ho0, hb⟩; refine ⟨_, rfl, ?_⟩; have n0_ := Aside0.mk (Kd.R_below (by (with_reducible repeat (first | apply Kd.R_alloc | apply Kd.R_drewN | apply Kd.R_drew)); exact HO170.out) hb); have n1_ := Aside0.mk (Kd.R_lower ho0 (below_size (by repeat (first | (with_reducible first | exact HB.out | apply below_alloc | apply pw_below_drewN | apply below_drew1) | exact HB.out)))); have n2_ := Aside0.mk (below_step (by repeat (first | (with_reducible first | exact HB.out | apply below_alloc | apply pw_below_drewN | apply below_drew1) | exact HB.out)) hb); clear HO170; clear HB; have HO170 := n0_; have HO173 := n1_; have HB := n2_; clear n0_ n1_ n2_; (try clear hb); (try clear hb2); (try clear hk); (try clear hi); (try clear ho0); obtain ⟨Ao16, co16, eo16⟩ := Kd.R_slice HO170.out; subst eo16; obtain ⟨Ao17, co17, eo17⟩ := Kd.R_slice HO173.out; subst eo17) | ((with_reducible refine gate_callee (f := 25) rfl ?_); refine goesL_ (some 23) rfl rfl Try.func25 (by kernel_rfl) rfl #[.slice Ao16 t168.length co16, .slice Ao17 t171.length co17, .int .i64 a2] rfl (by (try simp only [List.map_toArray, List.map_cons, List.map_nil]); first | done | rfl | (simp only [List.length_drop, List.length_take]; rfl)) ?_; (with_reducible refine (pages_Cost.calls k _ _ t168 _ _ t171 a2 t174 t175 _ ?side1 ?side2 ?side3 ?side4 A10.out).mono ?_); (case side1 => repeat (first | exact (Kd.R_reads' HO170.out).2.2 | (with_reducible refine Kd.C_alloc ?_ _) | (with_reducible refine Kd.C_drewN ?_ _) | (with_reducible refine Kd.C_drew ?_))); (case side2 => exact (Kd.R_reads' HO170.out).2.1); (case side3 => repeat (first | exact (Kd.R_reads' HO173.out).2.2 | (with_reducible refine Kd.C_alloc ?_ _) | (with_reducible refine Kd.C_drewN ?_ _) | (with_reducible refine Kd.C_drew ?_))); (case side4 => exact (Kd.R_reads' HO173.out).2.1); rintro e w18 ⟨rfl, hb⟩; refine ⟨_, rfl, ?_⟩; have n0_ := Aside0.mk (Kd.R_below (by (with_reducible repeat (first | apply Kd.R_alloc | apply Kd.R_drewN | apply Kd.R_drew)); exact HO170.out) hb); have n1_ := Aside0.mk (Kd.R_below (by (with_reducible repeat (first | apply Kd.R_alloc | apply Kd.R_drewN | apply Kd.R_drew)); exact HO173.out) hb); have n2_ := Aside0.mk (below_step (by repeat (first | (with_reducible first | exact HB.out | apply below_alloc | apply pw_below_drewN | apply below_drew1) | exact HB.out)) hb); clear HO170; clear HO173; clear HB; have HO170 := n0_; have HO173 := n1_; have HB := n2_; clear n0_ n1_ n2_; (try clear hb); (try clear hb2); (try clear hk); (try clear hi)) | ((with_reducible refine gate_callee (f := 12) rfl ?_); refine goesL_ (some 28) rfl rfl Try.func12 (by kernel_rfl) rfl #[.slice A0 l0.length c0] rfl (by (try simp only [List.map_toArray, List.map_cons, List.map_nil]); first | done | rfl | (simp only [List.length_drop, List.length_take]; rfl)) ?_; (with_reducible refine (colophonlaw27_twin.calls _ _ l0 t176 _ ?side1 ?side2 A11.out).mono ?_); (case side1 => repeat (first | exact (Kd.C_below HR0.out HB.out) | (with_reducible refine Kd.C_alloc ?_ _) | (with_reducible refine Kd.C_drewN ?_ _) | (with_reducible refine Kd.C_drew ?_))); (case side2 => exact HC0.out); rintro e w19 ⟨v177, rfl, ho0, hb⟩; refine ⟨_, rfl, ?_⟩; have n0_ := Aside0.mk (Kd.R_elder' (by (with_reducible repeat (first | apply Kd.R_alloc | apply Kd.R_drewN | apply Kd.R_drew)); exact HO170.out) (Kd.R_base ho0) hb); have n1_ := Aside0.mk (Kd.R_below (by (with_reducible repeat (first | apply Kd.R_alloc | apply Kd.R_drewN | apply Kd.R_drew)); exact HO173.out) hb); have n2_ := Aside0.mk (Kd.R_lower (Kd.R_new' ho0 (Kd.R_lt (by (with_reducible repeat (first | apply Kd.R_alloc | apply Kd.R_drewN | apply Kd.R_drew)); exact HO170.out))) (below_size (by repeat (first | (with_reducible first | exact HB.out | apply below_alloc | apply pw_below_drewN | apply below_drew1) | exact HB.out)))); have n3_ := Aside0.mk (below_step (by repeat (first | (with_reducible first | exact HB.out | apply below_alloc | apply pw_below_drewN | apply below_drew1) | exact HB.out)) hb); clear HO170; clear HO173; clear HB; have HO170 := n0_; have HO173 := n1_; have HO178 := n2_; have HB := n3_; clear n0_ n1_ n2_ n3_; (try clear hb); (try clear hb2); (try clear hk); (try clear hi); (try clear ho0); obtain ⟨Ao20, co20, eo20⟩ := Kd.R_slice HO178.out; subst eo20) | ((with_reducible refine gate_callee (f := 15) rfl ?_); refine goesL_ (some 30) rfl rfl Try.func15 (by kernel_rfl) rfl #[.slice Ao20 t176.length co20, .int .i64 a2] rfl (by (try simp only [List.map_toArray, List.map_cons, List.map_nil]); first | done | rfl | (simp only [List.length_drop, List.length_take]; rfl)) ?_; (with_reducible refine (pages_Best.calls k _ _ t176 a2 t179 t180 t181 _ ?side1 ?side2 A12.out).mono ?_); (case side1 => repeat (first | exact (Kd.R_reads' HO178.out).2.2 | (with_reducible refine Kd.C_alloc ?_ _) | (with_reducible refine Kd.C_drewN ?_ _) | (with_reducible refine Kd.C_drew ?_))); (case side2 => exact (Kd.R_reads' HO178.out).2.1); rintro e w21 ⟨v182, rfl, ho0, hb⟩; refine ⟨_, rfl, ?_⟩; have n0_ := Aside0.mk (Kd.R_below (by (with_reducible repeat (first | apply Kd.R_alloc | apply Kd.R_drewN | apply Kd.R_drew)); exact HO170.out) hb); have n1_ := Aside0.mk (Kd.R_elder' (by (with_reducible repeat (first | apply Kd.R_alloc | apply Kd.R_drewN | apply Kd.R_drew)); exact HO173.out) (Kd.R_base ho0) hb); have n2_ := Aside0.mk (Kd.R_below (by (with_reducible repeat (first | apply Kd.R_alloc | apply Kd.R_drewN | apply Kd.R_drew)); exact HO178.out) hb); have n3_ := Aside0.mk (Kd.R_lower (Kd.R_new' ho0 (Kd.R_lt (by (with_reducible repeat (first | apply Kd.R_alloc | apply Kd.R_drewN | apply Kd.R_drew)); exact HO173.out))) (below_size (by repeat (first | (with_reducible first | exact HB.out | apply below_alloc | apply pw_below_drewN | apply below_drew1) | exact HB.out)))); have n4_ := Aside0.mk (below_step (by repeat (first | (with_reducible first | exact HB.out | apply below_alloc | apply pw_below_drewN | apply below_drew1) | exact HB.out)) hb); clear HO170; clear HO173; clear HO178; clear HB; have HO170 := n0_; have HO173 := n1_; have HO178 := n2_; have HO183 := n3_; have HB := n4_; clear n0_ n1_ n2_ n3_ n4_; (try clear hb); (try clear hb2); (try clear hk); (try clear hi); (try clear ho0)))
    (try simp only [Act.put, List.setIfInBounds_toArray, List.set_cons_zero, List.set_cons_succ])
    go_cut [43] (fun v43 wc => ∃ (kq : Nat) (x43_12 : Bool), v43 = .bool x43_12 ∧ Aside0 (colophonlaw27_PagesLeast.j0 kq l0 a2 t179 t180 t181 x43_12 = some r) ∧ Aside0 (kq ≤ k) ∧ Aside0 (Kd.R (Kd.int .i64) 3 wc w.heap.size (fun _ => True) v182 t179) ∧ Aside0 (Below w.heap.size w wc))
    case first =>
      have H := HC13.out
      clear HC13
      by_cases c22 : t175 = true
      · subst c22
        have H1 : (if t181 = true then (colophonlaw27_PagesLeast.j0 k l0 a2 t179 t180 t181 (decide (t174 < t180))) else (colophonlaw27_PagesLeast.j0 k l0 a2 t179 t180 t181 true)) = some r := by rw [if_pos rfl] at H; exact H
        clear H
        have H := H1
        clear H1
        by_cases c23 : t181 = true
        · subst c23
          have H1 : (colophonlaw27_PagesLeast.j0 k l0 a2 t179 t180 true (decide (t174 < t180))) = some r := by rw [if_pos rfl] at H; exact H
          clear H
          have H := H1
          clear H1
          have H' := Aside0.mk H
          clear H
          go_wp2
          go_meet
          case rel => exact ⟨_, (decide (t174 < t180)), (by first | rfl | (simp; done) | (simp [*]; done)), H', ⟨by first | omega | exact Nat.le_refl _⟩, ⟨by (with_reducible repeat (first | apply Kd.R_alloc | apply Kd.R_drewN | apply Kd.R_drew)); exact Kd.R_mono HO183.out (fun _ hk => trivial)⟩, ⟨by repeat (first | (with_reducible first | exact HB.out | apply below_alloc | apply pw_below_drewN | apply below_drew1) | exact HB.out)⟩⟩
        · replace c23 := Bool.eq_false_iff.mpr c23
          subst c23
          have H1 : (colophonlaw27_PagesLeast.j0 k l0 a2 t179 t180 false true) = some r := by rw [if_neg (show ¬ (false = true) by decide)] at H; exact H
          clear H
          have H := H1
          clear H1
          have H' := Aside0.mk H
          clear H
          go_wp2
          go_meet
          case rel => exact ⟨_, (true), (by first | rfl | (simp; done) | (simp [*]; done)), H', ⟨by first | omega | exact Nat.le_refl _⟩, ⟨by (with_reducible repeat (first | apply Kd.R_alloc | apply Kd.R_drewN | apply Kd.R_drew)); exact Kd.R_mono HO183.out (fun _ hk => trivial)⟩, ⟨by repeat (first | (with_reducible first | exact HB.out | apply below_alloc | apply pw_below_drewN | apply below_drew1) | exact HB.out)⟩⟩
      · replace c22 := Bool.eq_false_iff.mpr c22
        subst c22
        have H1 : (colophonlaw27_PagesLeast.j0 k l0 a2 t179 t180 t181 false) = some r := by rw [if_neg (show ¬ (false = true) by decide)] at H; exact H
        clear H
        have H := H1
        clear H1
        have H' := Aside0.mk H
        clear H
        go_wp2
        go_meet
        case rel => exact ⟨_, (false), (by first | rfl | (simp; done) | (simp [*]; done)), H', ⟨by first | omega | exact Nat.le_refl _⟩, ⟨by (with_reducible repeat (first | apply Kd.R_alloc | apply Kd.R_drewN | apply Kd.R_drew)); exact Kd.R_mono HO183.out (fun _ hk => trivial)⟩, ⟨by repeat (first | (with_reducible first | exact HB.out | apply below_alloc | apply pw_below_drewN | apply below_drew1) | exact HB.out)⟩⟩
    case rest =>
      clear HC13
      try clear c1
      try clear c2
      try clear p2
      try clear c5
      try clear c7
      try clear c10
      try clear c11
      try clear c12
      try clear c15
      try clear c22
      try clear c23
      obtain ⟨kq, x43_12, rfl, HA, HJ12, HO_9, HB⟩ := hcut
      cases kq with
      | zero => exact absurd HA.out (by simp [colophonlaw27_PagesLeast.j0])
      | succ kj12 =>
        have H := HA.out
        clear HA
        simp only [colophonlaw27_PagesLeast.j0] at H
        by_cases c24 : x43_12 = true
        · subst c24
          have H1 : (some false) = some r := by rw [if_pos rfl] at H; exact H
          clear H
          have H := H1
          clear H1
          obtain rfl := Option.some.inj H
          go_wp2
          go_ret
          exact ⟨by first | rfl | (simp [errW_none, errW_some] <;> rfl) | (simp [*, errW_none, errW_some] <;> rfl), by repeat (first | (with_reducible first | exact HB.out | apply below_alloc | apply pw_below_drewN | apply below_drew1) | exact HB.out)⟩
        · replace c24 := Bool.eq_false_iff.mpr c24
          subst c24
          have H1 : (if t181 = true then ((colophonlaw27_twin.f l0).bind fun t184 => ((pages_Cost.f kj12 t184 t179 a2).bind fun bt187 => (if bt187.2 = true then (if bt187.1 = t180 then ((colophonlaw27_wakes.f kj12).bind fun t189 => (some t189)) else (some false)) else (some false)))) else (if (t179.length : Int) = 0 then (if t180 = 0 then ((colophonlaw27_wakes.f kj12).bind fun t190 => (some t190)) else (some false)) else (some false))) = some r := by rw [if_neg (show ¬ (false = true) by decide)] at H; exact H
          clear H
          have H := H1
          clear H1
          by_cases c25 : t181 = true
          · subst c25
            have H1 : ((colophonlaw27_twin.f l0).bind fun t184 => ((pages_Cost.f kj12 t184 t179 a2).bind fun bt187 => (if bt187.2 = true then (if bt187.1 = t180 then ((colophonlaw27_wakes.f kj12).bind fun t189 => (some t189)) else (some false)) else (some false)))) = some r := by rw [if_pos rfl] at H; exact H
            clear H
            have H := H1
            clear H1
            replace H := Option.bind_eq_some_iff.mp H
            obtain ⟨t184, A260, H⟩ := H
            replace H : ((pages_Cost.f kj12 t184 t179 a2).bind fun bt187 => (if bt187.2 = true then (if bt187.1 = t180 then ((colophonlaw27_wakes.f kj12).bind fun t189 => (some t189)) else (some false)) else (some false))) = some r := H
            have A26 := Aside0.mk A260
            clear A260
            replace H := Option.bind_eq_some_iff.mp H
            obtain ⟨⟨t187, t188⟩, A270, H⟩ := H
            replace H : (if t188 = true then (if t187 = t180 then ((colophonlaw27_wakes.f kj12).bind fun t189 => (some t189)) else (some false)) else (some false)) = some r := H
            have A27 := Aside0.mk A270
            clear A270
            by_cases c28 : t188 = true
            · subst c28
              have H1 : (if t187 = t180 then ((colophonlaw27_wakes.f kj12).bind fun t189 => (some t189)) else (some false)) = some r := by rw [if_pos rfl] at H; exact H
              clear H
              have H := H1
              clear H1
              by_cases c29 : t187 = t180
              · rw [if_pos c29] at H
                have c29b0 : (t187 == t180) = true := beq_iff_eq.mpr c29
                have c29b1 : (t187 != t180) = false := bne_eq_false_iff_eq.mpr c29
                clear c29
                replace H := Option.bind_eq_some_iff.mp H
                obtain ⟨t189, A300, H⟩ := H
                replace H : (some t189) = some r := H
                have A30 := Aside0.mk A300
                clear A300
                obtain rfl := Option.some.inj H
                go_wp2_with (first | ((with_reducible refine gate_callee (f := 12) rfl ?_); refine goesL_ (some 58) rfl rfl Try.func12 (by kernel_rfl) rfl #[.slice A0 l0.length c0] rfl (by (try simp only [List.map_toArray, List.map_cons, List.map_nil]); first | done | rfl | (simp only [List.length_drop, List.length_take]; rfl)) ?_; (with_reducible refine (colophonlaw27_twin.calls _ _ l0 t184 _ ?side1 ?side2 A26.out).mono ?_); (case side1 => repeat (first | exact (Kd.C_below HR0.out HB.out) | (with_reducible refine Kd.C_alloc ?_ _) | (with_reducible refine Kd.C_drewN ?_ _) | (with_reducible refine Kd.C_drew ?_))); (case side2 => exact HC0.out); rintro e w31 ⟨v185, rfl, ho0, hb⟩; refine ⟨_, rfl, ?_⟩; have n0_ := Aside0.mk (Kd.R_below (by (with_reducible repeat (first | apply Kd.R_alloc | apply Kd.R_drewN | apply Kd.R_drew)); exact HO_9.out) hb); have n1_ := Aside0.mk (Kd.R_lower ho0 (below_size (by repeat (first | (with_reducible first | exact HB.out | apply below_alloc | apply pw_below_drewN | apply below_drew1) | exact HB.out)))); have n2_ := Aside0.mk (below_step (by repeat (first | (with_reducible first | exact HB.out | apply below_alloc | apply pw_below_drewN | apply below_drew1) | exact HB.out)) hb); clear HO_9; clear HB; have HO_9 := n0_; have HO186 := n1_; have HB := n2_; clear n0_ n1_ n2_; (try clear hb); (try clear hb2); (try clear hk); (try clear hi); (try clear ho0); obtain ⟨Ao32, co32, eo32⟩ := Kd.R_slice HO186.out; subst eo32; obtain ⟨Ao33, co33, eo33⟩ := Kd.R_slice HO_9.out; subst eo33) | ((with_reducible refine gate_callee (f := 25) rfl ?_); refine goesL_ (some 61) rfl rfl Try.func25 (by kernel_rfl) rfl #[.slice Ao32 t184.length co32, .slice Ao33 t179.length co33, .int .i64 a2] rfl (by (try simp only [List.map_toArray, List.map_cons, List.map_nil]); first | done | rfl | (simp only [List.length_drop, List.length_take]; rfl)) ?_; (with_reducible refine (pages_Cost.calls kj12 _ _ t184 _ _ t179 a2 t187 true _ ?side1 ?side2 ?side3 ?side4 A27.out).mono ?_); (case side1 => repeat (first | exact (Kd.R_reads' HO186.out).2.2 | (with_reducible refine Kd.C_alloc ?_ _) | (with_reducible refine Kd.C_drewN ?_ _) | (with_reducible refine Kd.C_drew ?_))); (case side2 => exact (Kd.R_reads' HO186.out).2.1); (case side3 => repeat (first | exact (Kd.R_reads' HO_9.out).2.2 | (with_reducible refine Kd.C_alloc ?_ _) | (with_reducible refine Kd.C_drewN ?_ _) | (with_reducible refine Kd.C_drew ?_))); (case side4 => exact (Kd.R_reads' HO_9.out).2.1); rintro e w34 ⟨rfl, hb⟩; refine ⟨_, rfl, ?_⟩; have n0_ := Aside0.mk (Kd.R_below (by (with_reducible repeat (first | apply Kd.R_alloc | apply Kd.R_drewN | apply Kd.R_drew)); exact HO_9.out) hb); have n1_ := Aside0.mk (Kd.R_below (by (with_reducible repeat (first | apply Kd.R_alloc | apply Kd.R_drewN | apply Kd.R_drew)); exact HO186.out) hb); have n2_ := Aside0.mk (below_step (by repeat (first | (with_reducible first | exact HB.out | apply below_alloc | apply pw_below_drewN | apply below_drew1) | exact HB.out)) hb); clear HO_9; clear HO186; clear HB; have HO_9 := n0_; have HO186 := n1_; have HB := n2_; clear n0_ n1_ n2_; (try clear hb); (try clear hb2); (try clear hk); (try clear hi)) | (go_at_call 11; (with_reducible refine (colophonlaw27_wakes.calls kj12  t189 _ A30.out).mono ?_); rintro e w35 ⟨rfl, hb⟩; have n0_ := Aside0.mk (Kd.R_below (by (with_reducible repeat (first | apply Kd.R_alloc | apply Kd.R_drewN | apply Kd.R_drew)); exact HO_9.out) hb); have n1_ := Aside0.mk (Kd.R_below (by (with_reducible repeat (first | apply Kd.R_alloc | apply Kd.R_drewN | apply Kd.R_drew)); exact HO186.out) hb); have n2_ := Aside0.mk (below_step (by repeat (first | (with_reducible first | exact HB.out | apply below_alloc | apply pw_below_drewN | apply below_drew1) | exact HB.out)) hb); clear HO_9; clear HO186; clear HB; have HO_9 := n0_; have HO186 := n1_; have HB := n2_; clear n0_ n1_ n2_; (try clear hb); (try clear hb2); (try clear hk); (try clear hi)))
                go_ret
                exact ⟨by first | rfl | (simp [errW_none, errW_some] <;> rfl) | (simp [*, errW_none, errW_some] <;> rfl), by repeat (first | (with_reducible first | exact HB.out | apply below_alloc | apply pw_below_drewN | apply below_drew1) | exact HB.out)⟩
              · rw [if_neg c29] at H
                have c29b0 : (t187 == t180) = false := beq_eq_false_iff_ne.mpr c29
                have c29b1 : (t187 != t180) = true := bne_iff_ne.mpr c29
                obtain rfl := Option.some.inj H
                go_wp2_with (first | ((with_reducible refine gate_callee (f := 12) rfl ?_); refine goesL_ (some 58) rfl rfl Try.func12 (by kernel_rfl) rfl #[.slice A0 l0.length c0] rfl (by (try simp only [List.map_toArray, List.map_cons, List.map_nil]); first | done | rfl | (simp only [List.length_drop, List.length_take]; rfl)) ?_; (with_reducible refine (colophonlaw27_twin.calls _ _ l0 t184 _ ?side1 ?side2 A26.out).mono ?_); (case side1 => repeat (first | exact (Kd.C_below HR0.out HB.out) | (with_reducible refine Kd.C_alloc ?_ _) | (with_reducible refine Kd.C_drewN ?_ _) | (with_reducible refine Kd.C_drew ?_))); (case side2 => exact HC0.out); rintro e w36 ⟨v185, rfl, ho0, hb⟩; refine ⟨_, rfl, ?_⟩; have n0_ := Aside0.mk (Kd.R_below (by (with_reducible repeat (first | apply Kd.R_alloc | apply Kd.R_drewN | apply Kd.R_drew)); exact HO_9.out) hb); have n1_ := Aside0.mk (Kd.R_lower ho0 (below_size (by repeat (first | (with_reducible first | exact HB.out | apply below_alloc | apply pw_below_drewN | apply below_drew1) | exact HB.out)))); have n2_ := Aside0.mk (below_step (by repeat (first | (with_reducible first | exact HB.out | apply below_alloc | apply pw_below_drewN | apply below_drew1) | exact HB.out)) hb); clear HO_9; clear HB; have HO_9 := n0_; have HO186 := n1_; have HB := n2_; clear n0_ n1_ n2_; (try clear hb); (try clear hb2); (try clear hk); (try clear hi); (try clear ho0); obtain ⟨Ao37, co37, eo37⟩ := Kd.R_slice HO186.out; subst eo37; obtain ⟨Ao38, co38, eo38⟩ := Kd.R_slice HO_9.out; subst eo38) | ((with_reducible refine gate_callee (f := 25) rfl ?_); refine goesL_ (some 61) rfl rfl Try.func25 (by kernel_rfl) rfl #[.slice Ao37 t184.length co37, .slice Ao38 t179.length co38, .int .i64 a2] rfl (by (try simp only [List.map_toArray, List.map_cons, List.map_nil]); first | done | rfl | (simp only [List.length_drop, List.length_take]; rfl)) ?_; (with_reducible refine (pages_Cost.calls kj12 _ _ t184 _ _ t179 a2 t187 true _ ?side1 ?side2 ?side3 ?side4 A27.out).mono ?_); (case side1 => repeat (first | exact (Kd.R_reads' HO186.out).2.2 | (with_reducible refine Kd.C_alloc ?_ _) | (with_reducible refine Kd.C_drewN ?_ _) | (with_reducible refine Kd.C_drew ?_))); (case side2 => exact (Kd.R_reads' HO186.out).2.1); (case side3 => repeat (first | exact (Kd.R_reads' HO_9.out).2.2 | (with_reducible refine Kd.C_alloc ?_ _) | (with_reducible refine Kd.C_drewN ?_ _) | (with_reducible refine Kd.C_drew ?_))); (case side4 => exact (Kd.R_reads' HO_9.out).2.1); rintro e w39 ⟨rfl, hb⟩; refine ⟨_, rfl, ?_⟩; have n0_ := Aside0.mk (Kd.R_below (by (with_reducible repeat (first | apply Kd.R_alloc | apply Kd.R_drewN | apply Kd.R_drew)); exact HO_9.out) hb); have n1_ := Aside0.mk (Kd.R_below (by (with_reducible repeat (first | apply Kd.R_alloc | apply Kd.R_drewN | apply Kd.R_drew)); exact HO186.out) hb); have n2_ := Aside0.mk (below_step (by repeat (first | (with_reducible first | exact HB.out | apply below_alloc | apply pw_below_drewN | apply below_drew1) | exact HB.out)) hb); clear HO_9; clear HO186; clear HB; have HO_9 := n0_; have HO186 := n1_; have HB := n2_; clear n0_ n1_ n2_; (try clear hb); (try clear hb2); (try clear hk); (try clear hi)))
                go_ret
                exact ⟨by first | rfl | (simp [errW_none, errW_some] <;> rfl) | (simp [*, errW_none, errW_some] <;> rfl), by repeat (first | (with_reducible first | exact HB.out | apply below_alloc | apply pw_below_drewN | apply below_drew1) | exact HB.out)⟩
            · replace c28 := Bool.eq_false_iff.mpr c28
              subst c28
              have H1 : (some false) = some r := by rw [if_neg (show ¬ (false = true) by decide)] at H; exact H
              clear H
              have H := H1
              clear H1
              obtain rfl := Option.some.inj H
              go_wp2_with (first | ((with_reducible refine gate_callee (f := 12) rfl ?_); refine goesL_ (some 58) rfl rfl Try.func12 (by kernel_rfl) rfl #[.slice A0 l0.length c0] rfl (by (try simp only [List.map_toArray, List.map_cons, List.map_nil]); first | done | rfl | (simp only [List.length_drop, List.length_take]; rfl)) ?_; (with_reducible refine (colophonlaw27_twin.calls _ _ l0 t184 _ ?side1 ?side2 A26.out).mono ?_); (case side1 => repeat (first | exact (Kd.C_below HR0.out HB.out) | (with_reducible refine Kd.C_alloc ?_ _) | (with_reducible refine Kd.C_drewN ?_ _) | (with_reducible refine Kd.C_drew ?_))); (case side2 => exact HC0.out); rintro e w40 ⟨v185, rfl, ho0, hb⟩; refine ⟨_, rfl, ?_⟩; have n0_ := Aside0.mk (Kd.R_below (by (with_reducible repeat (first | apply Kd.R_alloc | apply Kd.R_drewN | apply Kd.R_drew)); exact HO_9.out) hb); have n1_ := Aside0.mk (Kd.R_lower ho0 (below_size (by repeat (first | (with_reducible first | exact HB.out | apply below_alloc | apply pw_below_drewN | apply below_drew1) | exact HB.out)))); have n2_ := Aside0.mk (below_step (by repeat (first | (with_reducible first | exact HB.out | apply below_alloc | apply pw_below_drewN | apply below_drew1) | exact HB.out)) hb); clear HO_9; clear HB; have HO_9 := n0_; have HO186 := n1_; have HB := n2_; clear n0_ n1_ n2_; (try clear hb); (try clear hb2); (try clear hk); (try clear hi); (try clear ho0); obtain ⟨Ao41, co41, eo41⟩ := Kd.R_slice HO186.out; subst eo41; obtain ⟨Ao42, co42, eo42⟩ := Kd.R_slice HO_9.out; subst eo42) | ((with_reducible refine gate_callee (f := 25) rfl ?_); refine goesL_ (some 61) rfl rfl Try.func25 (by kernel_rfl) rfl #[.slice Ao41 t184.length co41, .slice Ao42 t179.length co42, .int .i64 a2] rfl (by (try simp only [List.map_toArray, List.map_cons, List.map_nil]); first | done | rfl | (simp only [List.length_drop, List.length_take]; rfl)) ?_; (with_reducible refine (pages_Cost.calls kj12 _ _ t184 _ _ t179 a2 t187 false _ ?side1 ?side2 ?side3 ?side4 A27.out).mono ?_); (case side1 => repeat (first | exact (Kd.R_reads' HO186.out).2.2 | (with_reducible refine Kd.C_alloc ?_ _) | (with_reducible refine Kd.C_drewN ?_ _) | (with_reducible refine Kd.C_drew ?_))); (case side2 => exact (Kd.R_reads' HO186.out).2.1); (case side3 => repeat (first | exact (Kd.R_reads' HO_9.out).2.2 | (with_reducible refine Kd.C_alloc ?_ _) | (with_reducible refine Kd.C_drewN ?_ _) | (with_reducible refine Kd.C_drew ?_))); (case side4 => exact (Kd.R_reads' HO_9.out).2.1); rintro e w43 ⟨rfl, hb⟩; refine ⟨_, rfl, ?_⟩; have n0_ := Aside0.mk (Kd.R_below (by (with_reducible repeat (first | apply Kd.R_alloc | apply Kd.R_drewN | apply Kd.R_drew)); exact HO_9.out) hb); have n1_ := Aside0.mk (Kd.R_below (by (with_reducible repeat (first | apply Kd.R_alloc | apply Kd.R_drewN | apply Kd.R_drew)); exact HO186.out) hb); have n2_ := Aside0.mk (below_step (by repeat (first | (with_reducible first | exact HB.out | apply below_alloc | apply pw_below_drewN | apply below_drew1) | exact HB.out)) hb); clear HO_9; clear HO186; clear HB; have HO_9 := n0_; have HO186 := n1_; have HB := n2_; clear n0_ n1_ n2_; (try clear hb); (try clear hb2); (try clear hk); (try clear hi)))
              go_ret
              exact ⟨by first | rfl | (simp [errW_none, errW_some] <;> rfl) | (simp [*, errW_none, errW_some] <;> rfl), by repeat (first | (with_reducible first | exact HB.out | apply below_alloc | apply pw_below_drewN | apply below_drew1) | exact HB.out)⟩
          · replace c25 := Bool.eq_false_iff.mpr c25
            subst c25
            have H1 : (if (t179.length : Int) = 0 then (if t180 = 0 then ((colophonlaw27_wakes.f kj12).bind fun t190 => (some t190)) else (some false)) else (some false)) = some r := by rw [if_neg (show ¬ (false = true) by decide)] at H; exact H
            clear H
            have H := H1
            clear H1
            by_cases c44 : (t179.length : Int) = 0
            · rw [if_pos c44] at H
              have c44b0 : ((t179.length : Int) == 0) = true := beq_iff_eq.mpr c44
              have c44b1 : ((t179.length : Int) != 0) = false := bne_eq_false_iff_eq.mpr c44
              clear c44
              by_cases c45 : t180 = 0
              · rw [if_pos c45] at H
                have c45b0 : (t180 == 0) = true := beq_iff_eq.mpr c45
                have c45b1 : (t180 != 0) = false := bne_eq_false_iff_eq.mpr c45
                clear c45
                replace H := Option.bind_eq_some_iff.mp H
                obtain ⟨t190, A460, H⟩ := H
                replace H : (some t190) = some r := H
                have A46 := Aside0.mk A460
                clear A460
                obtain rfl := Option.some.inj H
                obtain ⟨Ao47, co47, eo47⟩ := Kd.R_slice HO_9.out
                subst eo47
                go_wp2_with (first | (go_at_call 11; (with_reducible refine (colophonlaw27_wakes.calls kj12  t190 _ A46.out).mono ?_); rintro e w48 ⟨rfl, hb⟩; have n0_ := Aside0.mk (Kd.R_below (by (with_reducible repeat (first | apply Kd.R_alloc | apply Kd.R_drewN | apply Kd.R_drew)); exact HO_9.out) hb); have n1_ := Aside0.mk (below_step (by repeat (first | (with_reducible first | exact HB.out | apply below_alloc | apply pw_below_drewN | apply below_drew1) | exact HB.out)) hb); clear HO_9; clear HB; have HO_9 := n0_; have HB := n1_; clear n0_ n1_; (try clear hb); (try clear hb2); (try clear hk); (try clear hi)))
                go_ret
                exact ⟨by first | rfl | (simp [errW_none, errW_some] <;> rfl) | (simp [*, errW_none, errW_some] <;> rfl), by repeat (first | (with_reducible first | exact HB.out | apply below_alloc | apply pw_below_drewN | apply below_drew1) | exact HB.out)⟩
              · rw [if_neg c45] at H
                have c45b0 : (t180 == 0) = false := beq_eq_false_iff_ne.mpr c45
                have c45b1 : (t180 != 0) = true := bne_iff_ne.mpr c45
                obtain rfl := Option.some.inj H
                obtain ⟨Ao49, co49, eo49⟩ := Kd.R_slice HO_9.out
                subst eo49
                go_wp2
                go_ret
                exact ⟨by first | rfl | (simp [errW_none, errW_some] <;> rfl) | (simp [*, errW_none, errW_some] <;> rfl), by repeat (first | (with_reducible first | exact HB.out | apply below_alloc | apply pw_below_drewN | apply below_drew1) | exact HB.out)⟩
            · rw [if_neg c44] at H
              have c44b0 : ((t179.length : Int) == 0) = false := beq_eq_false_iff_ne.mpr c44
              have c44b1 : ((t179.length : Int) != 0) = true := bne_iff_ne.mpr c44
              have c44b2 : ¬ (t179 = []) := fun h_ => c44 (by rw [h_]; rfl)
              obtain rfl := Option.some.inj H
              obtain ⟨Ao50, co50, eo50⟩ := Kd.R_slice HO_9.out
              subst eo50
              go_wp2
              go_ret
              exact ⟨by first | rfl | (simp [errW_none, errW_some] <;> rfl) | (simp [*, errW_none, errW_some] <;> rfl), by repeat (first | (with_reducible first | exact HB.out | apply below_alloc | apply pw_below_drewN | apply below_drew1) | exact HB.out)⟩

end Go.Proofs.Ytogjeababinnlaa.PPagesLeast
