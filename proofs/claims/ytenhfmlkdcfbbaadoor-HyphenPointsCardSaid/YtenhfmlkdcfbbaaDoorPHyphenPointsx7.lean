/- A part of this claim's proof. -/
import Derived.Test.YtenhfmlkdcfbbaaDoorPHyphenPointsx0
import Derived.Test.YtenhfmlkdcfbbaaDoorPHyphenPointsx6
namespace Go.Proofs.YtenhfmlkdcfbbaaDoor.PHyphenPoints
open Go.RowKit Go.Proofs.YtenhfmlkdcfbbaaDoorW.PrintWords Go.Proofs.YtenhfmlkdcfbbaaDoorW.PrintLast Go.Proofs.YtenhfmlkdcfbbaaDoorW.PrintMore
attribute [local go_sem] max2_int min2_int max_two min_two max_three min_three max_four min_four   
set_option linter.unusedVariables false
set_option linter.unusedSimpArgs false
mutual
def colophonref04_Words.l0 : Nat → List Int → List (S69) → Int → Int → Option ((List (S69)))
 | 0, _, _, _, _ => none
 | k + 1, x0, x3, x4, x5 => if x5 ≤ (x0.length : Int) then (if x5 = (x0.length : Int) then (colophonref04_Words.j1 k x0 x3 x4 x5 true) else (if 0 ≤ x5 then (if x5 < (x0.length : Int) then ((colophonref04_Class.f k (rd x0 x5)).bind fun t171 => (colophonref04_Words.j1 k x0 x3 x4 x5 (t171 == 1))) else (none)) else (none))) else (some x3)
def colophonref04_Words.j1 : Nat → List Int → List (S69) → Int → Int → Bool → Option ((List (S69)))
 | 0, _, _, _, _, _ => none
 | k + 1, x0, x3, x4, x5, x6 => if x6 = true then (colophonref04_Words.j2 k x0 x3 x4 x5 x6 (decide (x4 ≥ 0))) else (colophonref04_Words.j2 k x0 x3 x4 x5 x6 false)
def colophonref04_Words.j2 : Nat → List Int → List (S69) → Int → Int → Bool → Bool → Option ((List (S69)))
 | 0, _, _, _, _, _, _ => none
 | k + 1, x0, x3, x4, x5, x6, x29 => if x29 = true then (if x3.length < 8796093022208 then ((some (x3 ++ [(⟨x4, x5⟩ : S69)] : List (S69))).bind fun y172 => (if x6 = true then (colophonref04_Words.l0 k x0 y172 (-1) (wrap64 (x5 + 1))) else (if (-1) < 0 then (colophonref04_Words.l0 k x0 y172 x5 (wrap64 (x5 + 1))) else (colophonref04_Words.l0 k x0 y172 (-1) (wrap64 (x5 + 1)))))) else (none)) else (if x6 = true then (colophonref04_Words.l0 k x0 x3 x4 (wrap64 (x5 + 1))) else (if x4 < 0 then (colophonref04_Words.l0 k x0 x3 x5 (wrap64 (x5 + 1))) else (colophonref04_Words.l0 k x0 x3 x4 (wrap64 (x5 + 1)))))
end
def colophonref04_Words.f (k : Nat) (l0 : List Int) : Option ((List (S69))) := colophonref04_Words.l0 k l0 ([] : List (S69)) (-1) 0
theorem colophonref04_Words.mono_l : ∀ k, (∀ y0 y1 y2 y3, LeO (colophonref04_Words.l0 k y0 y1 y2 y3) (colophonref04_Words.l0 (k + 1) y0 y1 y2 y3)) ∧ (∀ y0 y1 y2 y3 y4, LeO (colophonref04_Words.j1 k y0 y1 y2 y3 y4) (colophonref04_Words.j1 (k + 1) y0 y1 y2 y3 y4)) ∧ (∀ y0 y1 y2 y3 y4 y5, LeO (colophonref04_Words.j2 k y0 y1 y2 y3 y4 y5) (colophonref04_Words.j2 (k + 1) y0 y1 y2 y3 y4 y5))
 | 0 => ⟨fun _ _ _ _ r h => by simp [colophonref04_Words.l0] at h, fun _ _ _ _ _ r h => by simp [colophonref04_Words.j1] at h, fun _ _ _ _ _ _ r h => by simp [colophonref04_Words.j2] at h⟩
 | k + 1 => by
  obtain ⟨ih0, ih1, ih2⟩ := colophonref04_Words.mono_l k
  refine ⟨?_, ?_, ?_⟩
  ·intro y0 y1 y2 y3
   unfold colophonref04_Words.l0
   repeat' first
   |(with_reducible exact ih0 _ _ _ _)
   |(with_reducible exact ih1 _ _ _ _ _)
   |(with_reducible exact ih2 _ _ _ _ _ _)
   |(with_reducible exact colophonref04_Class.mono _ _)
   |(with_reducible exact LeO.refl _)
   |(with_reducible exact LeO.none _)
   |(with_reducible refine LeO.ite ?_ ?_)
   |(with_reducible refine LeO.bind ?_ (fun _ => ?_))
   | exact ih0 _ _ _ _
   | exact ih1 _ _ _ _ _
   | exact ih2 _ _ _ _ _ _
   | exact colophonref04_Class.mono _ _
   | exact LeO.none _
   | refine LeO.ite ?_ ?_
   | refine LeO.bind ?_ (fun _ => ?_)
  ·intro y0 y1 y2 y3 y4
   unfold colophonref04_Words.j1
   repeat' first
   |(with_reducible exact ih0 _ _ _ _)
   |(with_reducible exact ih1 _ _ _ _ _)
   |(with_reducible exact ih2 _ _ _ _ _ _)
   |(with_reducible exact colophonref04_Class.mono _ _)
   |(with_reducible exact LeO.refl _)
   |(with_reducible exact LeO.none _)
   |(with_reducible refine LeO.ite ?_ ?_)
   |(with_reducible refine LeO.bind ?_ (fun _ => ?_))
   | exact ih0 _ _ _ _
   | exact ih1 _ _ _ _ _
   | exact ih2 _ _ _ _ _ _
   | exact colophonref04_Class.mono _ _
   | exact LeO.none _
   | refine LeO.ite ?_ ?_
   | refine LeO.bind ?_ (fun _ => ?_)
  ·intro y0 y1 y2 y3 y4 y5
   unfold colophonref04_Words.j2
   repeat' first
   |(with_reducible exact ih0 _ _ _ _)
   |(with_reducible exact ih1 _ _ _ _ _)
   |(with_reducible exact ih2 _ _ _ _ _ _)
   |(with_reducible exact colophonref04_Class.mono _ _)
   |(with_reducible exact LeO.refl _)
   |(with_reducible exact LeO.none _)
   |(with_reducible refine LeO.ite ?_ ?_)
   |(with_reducible refine LeO.bind ?_ (fun _ => ?_))
   | exact ih0 _ _ _ _
   | exact ih1 _ _ _ _ _
   | exact ih2 _ _ _ _ _ _
   | exact colophonref04_Class.mono _ _
   | exact LeO.none _
   | refine LeO.ite ?_ ?_
   | refine LeO.bind ?_ (fun _ => ?_)
theorem colophonref04_Words.mono : ∀ a0 k, LeO (colophonref04_Words.f k a0) (colophonref04_Words.f (k + 1) a0) := by
 intro a0 k
 obtain ⟨ih0, ih1, ih2⟩ := colophonref04_Words.mono_l k
 unfold colophonref04_Words.f
 repeat' first
   |(with_reducible exact ih0 _ _ _ _)
   |(with_reducible exact ih1 _ _ _ _ _)
   |(with_reducible exact ih2 _ _ _ _ _ _)
   |(with_reducible exact colophonref04_Class.mono _ _)
   |(with_reducible exact LeO.refl _)
   |(with_reducible exact LeO.none _)
   |(with_reducible refine LeO.ite ?_ ?_)
   |(with_reducible refine LeO.bind ?_ (fun _ => ?_))
   | exact ih0 _ _ _ _
   | exact ih1 _ _ _ _ _
   | exact ih2 _ _ _ _ _ _
   | exact colophonref04_Class.mono _ _
   | exact LeO.none _
   | refine LeO.ite ?_ ?_
   | refine LeO.bind ?_ (fun _ => ?_)
set_option maxHeartbeats 8000000 in
set_option maxRecDepth 100000 in
theorem colophonref04_Words.calls (k : Nat) (A0 : Option Addr) (c0 : Nat) (l0 : List Int) (r : List (S69)) (w : World) (hr0 : Kd.C (Kd.int .i64) w A0 l0.length l0) (hc0 : l0.length ≤ c0) (h : colophonref04_Words.f k l0 = some r) :
  Calls Tryd.prog 29 #[.slice A0 l0.length c0] w fun e w' => ∃ v0_ : Value, e = .returned (v0_) ∧ Kd.R k69 69 w' w.heap.size (fun _ => True) v0_ r ∧ Below w.heap.size w w' := by
 have hu69 := Tryd.underlying69
 have HR0 := Aside0.mk hr0
 have HC0 := Aside0.mk hc0
 clear hr0 hc0
 have HB := Aside0.mk (Below.refl w.heap.size w)
 have H : (colophonref04_Words.l0 k l0 ([] : List (S69)) (-1) 0) = some r := h
 clear h
 have H' := Aside0.mk H
 clear H
 go_enter Tryd.func29, Tryd.ntmps29
 go_wp2
 go_loopg [3, 4, 5] k (fun kq v3 v4 v5 w' => ∃ (x3_1 : List (S69)) (x4_1 : Int) (x5_1 : Int), v4 = .int .i64 x4_1 ∧ v5 = .int .i64 x5_1 ∧ Aside0 (colophonref04_Words.l0 kq l0 x3_1 x4_1 x5_1 = some r) ∧ Aside0 (kq ≤ k) ∧ Aside0 (Kd.R k69 69 w' w.heap.size (fun _ => True) v3 x3_1) ∧ Aside0 (Below w.heap.size w w'))
 case atStart => exact ⟨(([] : List (S69))), ((-1)), (0), (by first | rfl | (simp; done) | (simp [*]; done)), (by first | rfl | (simp; done) | (simp [*]; done)), H', ⟨Nat.le_refl _⟩, ⟨by first | exact Kd.R_nil _ _ _ _ _ | exact Kd.N_nil _ _ _ _ _ | exact Kd.V_nil _ _ _ _ _ | exact Kd.Q_nil _ _ _ _ _ | exact Kd.S_nil _ _ _ _ _⟩, ⟨by repeat (first | (with_reducible first | exact HB.out | apply below_alloc | apply pw_below_drewN | apply below_drew1) | exact HB.out)⟩⟩
 case round =>
  clear H'
  obtain ⟨x3_1, x4_1, x5_1, rfl, rfl, HA, HK1, HO_3, HB⟩ := hrel
  cases gk with
  | zero => exact absurd HA.out (by simp [colophonref04_Words.l0])
  | succ k1 =>
   have H := HA.out
   clear HA
   simp only [colophonref04_Words.l0] at H
   by_cases c2 : x5_1 ≤ (l0.length : Int)
   ·rw [if_pos c2] at H
    have c2b0 : decide (x5_1 ≤ (l0.length : Int)) = true := decide_eq_true c2
    clear c2
    have HC3 := Aside0.mk H
    clear H
    go_upto_region 6 with (fail)
    go_cut [6] (fun v6 wc => ∃ (kq : Nat) (x6_2 : Bool), v6 = .bool x6_2 ∧ Aside0 (colophonref04_Words.j1 kq l0 x3_1 x4_1 x5_1 x6_2 = some r) ∧ Aside0 (kq ≤ k1) ∧ Aside0 (Kd.R k69 69 wc w.heap.size (fun _ => True) u3 x3_1) ∧ Aside0 (Below w.heap.size w wc))
    case first =>
     have H := HC3.out
     clear HC3
     by_cases c4 : x5_1 = (l0.length : Int)
     ·rw [if_pos c4] at H
      have c4b0 : (x5_1 == (l0.length : Int)) = true := beq_iff_eq.mpr c4
      have c4b1 : (x5_1 != (l0.length : Int)) = false := bne_eq_false_iff_eq.mpr c4
      clear c4
      (first | rw [c4b0] | (simp only [i64_w, i32_w]; rw [c4b0]) | skip)
      have H' := Aside0.mk H
      clear H
      go_wp2
      go_meet
      case rel => exact ⟨_, (true), (by first | rfl | (simp; done) | (simp [*]; done)), H', ⟨by have := HK1.out; first | omega | exact Nat.le_refl _⟩, ⟨by (with_reducible repeat (first | apply Kd.R_alloc | apply Kd.R_drewN | apply Kd.R_drew)); exact HO_3.out⟩, ⟨by repeat (first | (with_reducible first | exact HB.out | apply below_alloc | apply pw_below_drewN | apply below_drew1) | exact HB.out)⟩⟩
     ·rw [if_neg c4] at H
      have c4b0 : (x5_1 == (l0.length : Int)) = false := beq_eq_false_iff_ne.mpr c4
      have c4b1 : (x5_1 != (l0.length : Int)) = true := bne_iff_ne.mpr c4
      (first | rw [c4b0] | (simp only [i64_w, i32_w]; rw [c4b0]) | skip)
      by_cases c5 : 0 ≤ x5_1
      ·rw [if_pos c5] at H
       have c5b0 : decide (0 ≤ x5_1) = true := decide_eq_true c5
       clear c5
       by_cases c6 : x5_1 < (l0.length : Int)
       ·rw [if_pos c6] at H
        have c6b0 : decide (x5_1 < (l0.length : Int)) = true := decide_eq_true c6
        clear c6
        replace H := Option.bind_eq_some_iff.mp H
        obtain ⟨t171, A70, H⟩ := H
        replace H : (colophonref04_Words.j1 k1 l0 x3_1 x4_1 x5_1 (t171 == 1)) = some r := H
        have A7 := Aside0.mk A70
        clear A70
        have H' := Aside0.mk H
        clear H
        have p170 : 0 ≤ (x5_1 : Int) := of_decide_eq_true (by first | (with_reducible assumption) | assumption)
        have q170 : x5_1 < (l0.length : Int) := of_decide_eq_true (by first | (with_reducible assumption) | assumption)
        obtain ⟨ad170, e170, hx170_0⟩ := Kd.at_int HR0.out x5_1 p170 q170
        cases e170
        replace hx170_0 := (HB.out.cell (World.block_lt_of_cell? w _ hx170_0)).trans hx170_0
        replace p170 := eq_true p170
        replace q170 := eq_true q170
        go_wp2_with (first | (go_at_call 21; (with_reducible refine (colophonref04_Class.calls k1 (rd l0 x5_1) t171 _ A7.out).mono ?_); rintro e w' ⟨rfl, ⟨nd, rfl⟩⟩))
        go_meet
        case rel => exact ⟨_, ((t171 == 1)), (by first | rfl | (simp; done) | (simp [*]; done)), H', ⟨by have := HK1.out; first | omega | exact Nat.le_refl _⟩, ⟨by (with_reducible repeat (first | apply Kd.R_alloc | apply Kd.R_drewN | apply Kd.R_drew)); exact HO_3.out⟩, ⟨by repeat (first | (with_reducible first | exact HB.out | apply below_alloc | apply pw_below_drewN | apply below_drew1) | exact HB.out)⟩⟩
       ·rw [if_neg c6] at H
        exact absurd H (by simp)
      ·rw [if_neg c5] at H
       exact absurd H (by simp)
    case rest =>
     clear HC3
     obtain ⟨kq, x6_2, rfl, HA, HJ2, HO_3, HB⟩ := hcut
     cases kq with
     | zero => exact absurd HA.out (by simp [colophonref04_Words.j1])
     | succ kj2 =>
      have H := HA.out
      clear HA
      simp only [colophonref04_Words.j1] at H
      have HC8 := Aside0.mk H
      clear H
      go_upto_region 7 with (fail)
      go_cut [29] (fun v29 wc => ∃ (kq : Nat) (x29_7 : Bool), v29 = .bool x29_7 ∧ Aside0 (colophonref04_Words.j2 kq l0 x3_1 x4_1 x5_1 x6_2 x29_7 = some r) ∧ Aside0 (kq ≤ kj2) ∧ Aside0 (Kd.R k69 69 wc w.heap.size (fun _ => True) u3 x3_1) ∧ Aside0 (Below w.heap.size w wc))
      case first =>
       have H := HC8.out
       clear HC8
       by_cases c9 : x6_2 = true
       ·subst c9
        have H1 : (colophonref04_Words.j2 kj2 l0 x3_1 x4_1 x5_1 true (decide (x4_1 ≥ 0))) = some r := by rw [if_pos rfl] at H; exact H
        clear H
        have H := H1
        clear H1
        have H' := Aside0.mk H
        clear H
        go_wp2
        go_meet
        case rel => exact ⟨_, (decide (x4_1 ≥ 0)), (by first | rfl | (simp; done) | (simp [*]; done)), H', ⟨by have := HK1.out; have := HJ2.out; first | omega | exact Nat.le_refl _⟩, ⟨by (with_reducible repeat (first | apply Kd.R_alloc | apply Kd.R_drewN | apply Kd.R_drew)); exact HO_3.out⟩, ⟨by repeat (first | (with_reducible first | exact HB.out | apply below_alloc | apply pw_below_drewN | apply below_drew1) | exact HB.out)⟩⟩
       ·replace c9 := Bool.eq_false_iff.mpr c9
        subst c9
        have H1 : (colophonref04_Words.j2 kj2 l0 x3_1 x4_1 x5_1 false false) = some r := by rw [if_neg (show ¬ (false = true) by decide)] at H; exact H
        clear H
        have H := H1
        clear H1
        have H' := Aside0.mk H
        clear H
        go_wp2
        go_meet
        case rel => exact ⟨_, (false), (by first | rfl | (simp; done) | (simp [*]; done)), H', ⟨by have := HK1.out; have := HJ2.out; first | omega | exact Nat.le_refl _⟩, ⟨by (with_reducible repeat (first | apply Kd.R_alloc | apply Kd.R_drewN | apply Kd.R_drew)); exact HO_3.out⟩, ⟨by repeat (first | (with_reducible first | exact HB.out | apply below_alloc | apply pw_below_drewN | apply below_drew1) | exact HB.out)⟩⟩
      case rest =>
       clear HC8
       obtain ⟨kq, x29_7, rfl, HA, HJ7, HO_3, HB⟩ := hcut
       cases kq with
       | zero => exact absurd HA.out (by simp [colophonref04_Words.j2])
       | succ kj7 =>
        have H := HA.out
        clear HA
        simp only [colophonref04_Words.j2] at H
        by_cases c10 : x29_7 = true
        ·subst c10
         have H1 : (if x3_1.length < 8796093022208 then ((some (x3_1 ++ [(⟨x4_1, x5_1⟩ : S69)] : List (S69))).bind fun y172 => (if x6_2 = true then (colophonref04_Words.l0 kj7 l0 y172 (-1) (wrap64 (x5_1 + 1))) else (if (-1) < 0 then (colophonref04_Words.l0 kj7 l0 y172 x5_1 (wrap64 (x5_1 + 1))) else (colophonref04_Words.l0 kj7 l0 y172 (-1) (wrap64 (x5_1 + 1)))))) else (none)) = some r := by rw [if_pos rfl] at H; exact H
         clear H
         have H := H1
         clear H1
         by_cases c11 : x3_1.length < 8796093022208
         ·rw [if_pos c11] at H
          have LMc11 := Aside0.mk c11
          clear c11
          obtain ⟨y172, hy172⟩ : ∃ y_ : List (S69), y_ = (x3_1 ++ [(⟨x4_1, x5_1⟩ : S69)]) := ⟨_, rfl⟩
          replace H : (if x6_2 = true then (colophonref04_Words.l0 kj7 l0 y172 (-1) (wrap64 (x5_1 + 1))) else (if (-1) < 0 then (colophonref04_Words.l0 kj7 l0 y172 x5_1 (wrap64 (x5_1 + 1))) else (colophonref04_Words.l0 kj7 l0 y172 (-1) (wrap64 (x5_1 + 1))))) = some r := by first | (rw [hy172]; with_reducible exact H) | (have H2_ := (Option.bind_some _ _).symm.trans H; rw [hy172]; with_reducible exact H2_) | (have H2_ := (Option.bind_some _ _).symm.trans H; with_reducible exact H2_) | with_reducible exact H | (rw [hy172]; exact H) | exact H
          have Ny172 := Aside0.mk hy172
          clear hy172
          by_cases c12 : x6_2 = true
          ·subst c12
           have H1 : (colophonref04_Words.l0 kj7 l0 y172 (-1) (wrap64 (x5_1 + 1))) = some r := by rw [if_pos rfl] at H; exact H
           clear H
           have H := H1
           clear H1
           have H' := Aside0.mk H
           clear H
           go_wp2_with (first | ((with_reducible refine gate_builtin (b := .append) (xs := #[.tmp 30, .tmp 34]) rfl ?_); at_builtin; refine Kd.R_append k69 (w0 := w) w.heap.size rfl (.tmp 30) (.tmp 34) 63 69 (.agg #[(.int .i64 0), (.int .i64 0)]) 16 rfl Tryd.underlying63 info69 rfl (by decide) (by omega) u3 x3_1 (⟨x4_1, x5_1⟩ : S69) [.int .i64 x4_1, .int .i64 x5_1] (fun _ => True) (fun _ => False) rfl rfl ?aP (fun _ hk => hk.elim) ?aF ?aO ?aB ?aS ?aL ?_; (case aP => exact k69_mkM _ _ _ (⟨x4_1, x5_1⟩ : S69)); (case aB => exact (by repeat (first | (with_reducible first | exact HB.out | apply below_alloc | apply pw_below_drewN | apply below_drew1) | exact HB.out))); (case aF => exact (fun _ _ => trivial)); (case aO => exact (by (with_reducible repeat (first | apply Kd.R_alloc | apply Kd.R_drewN | apply Kd.R_drew)); exact HO_3.out)); (case aS => exact (below_size (by repeat (first | (with_reducible first | exact HB.out | apply below_alloc | apply pw_below_drewN | apply below_drew1) | exact HB.out)))); (case aL => have := LMc11.out; omega); intro v173 w13 ho hb hg hat; rw [← Ny172.out] at ho; have n0_ := Aside0.mk (hb); have n1_ := Aside0.mk (ho); clear HB; clear HO_3; have HB := n0_; have HO174 := n1_; clear n0_ n1_; clear ho hb hg hat))
           go_roundg kj7
           case measure => have := HK1.out; have := HJ2.out; have := HJ7.out; omega
           case rel => exact ⟨(y172), ((-1)), (wrap64 (x5_1 + 1)), (by first | rfl | (simp; done) | (simp [*]; done)), (by first | rfl | (simp; done) | (simp [*]; done)), H', ⟨by have := HK1.out; have := HJ2.out; have := HJ7.out; omega⟩, ⟨by (with_reducible repeat (first | apply Kd.R_alloc | apply Kd.R_drewN | apply Kd.R_drew)); exact HO174.out⟩, ⟨by repeat (first | (with_reducible first | exact HB.out | apply below_alloc | apply pw_below_drewN | apply below_drew1) | exact HB.out)⟩⟩
          ·replace c12 := Bool.eq_false_iff.mpr c12
           subst c12
           have H1 : (if (-1) < 0 then (colophonref04_Words.l0 kj7 l0 y172 x5_1 (wrap64 (x5_1 + 1))) else (colophonref04_Words.l0 kj7 l0 y172 (-1) (wrap64 (x5_1 + 1)))) = some r := by rw [if_neg (show ¬ (false = true) by decide)] at H; exact H
           clear H
           have H := H1
           clear H1
           by_cases c14 : (-1) < 0
           ·rw [if_pos c14] at H
            have c14b0 : decide ((-1) < 0) = true := decide_eq_true c14
            clear c14
            have H' := Aside0.mk H
            clear H
            go_wp2_with (first | ((with_reducible refine gate_builtin (b := .append) (xs := #[.tmp 30, .tmp 34]) rfl ?_); at_builtin; refine Kd.R_append k69 (w0 := w) w.heap.size rfl (.tmp 30) (.tmp 34) 63 69 (.agg #[(.int .i64 0), (.int .i64 0)]) 16 rfl Tryd.underlying63 info69 rfl (by decide) (by omega) u3 x3_1 (⟨x4_1, x5_1⟩ : S69) [.int .i64 x4_1, .int .i64 x5_1] (fun _ => True) (fun _ => False) rfl rfl ?aP (fun _ hk => hk.elim) ?aF ?aO ?aB ?aS ?aL ?_; (case aP => exact k69_mkM _ _ _ (⟨x4_1, x5_1⟩ : S69)); (case aB => exact (by repeat (first | (with_reducible first | exact HB.out | apply below_alloc | apply pw_below_drewN | apply below_drew1) | exact HB.out))); (case aF => exact (fun _ _ => trivial)); (case aO => exact (by (with_reducible repeat (first | apply Kd.R_alloc | apply Kd.R_drewN | apply Kd.R_drew)); exact HO_3.out)); (case aS => exact (below_size (by repeat (first | (with_reducible first | exact HB.out | apply below_alloc | apply pw_below_drewN | apply below_drew1) | exact HB.out)))); (case aL => have := LMc11.out; omega); intro v173 w15 ho hb hg hat; rw [← Ny172.out] at ho; have n0_ := Aside0.mk (hb); have n1_ := Aside0.mk (ho); clear HB; clear HO_3; have HB := n0_; have HO174 := n1_; clear n0_ n1_; clear ho hb hg hat))
            go_roundg kj7
            case measure => have := HK1.out; have := HJ2.out; have := HJ7.out; omega
            case rel => exact ⟨(y172), (x5_1), (wrap64 (x5_1 + 1)), (by first | rfl | (simp; done) | (simp [*]; done)), (by first | rfl | (simp; done) | (simp [*]; done)), H', ⟨by have := HK1.out; have := HJ2.out; have := HJ7.out; omega⟩, ⟨by (with_reducible repeat (first | apply Kd.R_alloc | apply Kd.R_drewN | apply Kd.R_drew)); exact HO174.out⟩, ⟨by repeat (first | (with_reducible first | exact HB.out | apply below_alloc | apply pw_below_drewN | apply below_drew1) | exact HB.out)⟩⟩
           ·exact absurd (show (-1 : Int) < 0 by decide) c14
         ·rw [if_neg c11] at H
          exact absurd H (by simp)
        ·replace c10 := Bool.eq_false_iff.mpr c10
         subst c10
         have H1 : (if x6_2 = true then (colophonref04_Words.l0 kj7 l0 x3_1 x4_1 (wrap64 (x5_1 + 1))) else (if x4_1 < 0 then (colophonref04_Words.l0 kj7 l0 x3_1 x5_1 (wrap64 (x5_1 + 1))) else (colophonref04_Words.l0 kj7 l0 x3_1 x4_1 (wrap64 (x5_1 + 1))))) = some r := by rw [if_neg (show ¬ (false = true) by decide)] at H; exact H
         clear H
         have H := H1
         clear H1
         by_cases c17 : x6_2 = true
         ·subst c17
          have H1 : (colophonref04_Words.l0 kj7 l0 x3_1 x4_1 (wrap64 (x5_1 + 1))) = some r := by rw [if_pos rfl] at H; exact H
          clear H
          have H := H1
          clear H1
          have H' := Aside0.mk H
          clear H
          go_wp2
          go_roundg kj7
          case measure => have := HK1.out; have := HJ2.out; have := HJ7.out; omega
          case rel => exact ⟨(x3_1), (x4_1), (wrap64 (x5_1 + 1)), (by first | rfl | (simp; done) | (simp [*]; done)), (by first | rfl | (simp; done) | (simp [*]; done)), H', ⟨by have := HK1.out; have := HJ2.out; have := HJ7.out; omega⟩, ⟨by (with_reducible repeat (first | apply Kd.R_alloc | apply Kd.R_drewN | apply Kd.R_drew)); exact HO_3.out⟩, ⟨by repeat (first | (with_reducible first | exact HB.out | apply below_alloc | apply pw_below_drewN | apply below_drew1) | exact HB.out)⟩⟩
         ·replace c17 := Bool.eq_false_iff.mpr c17
          subst c17
          have H1 : (if x4_1 < 0 then (colophonref04_Words.l0 kj7 l0 x3_1 x5_1 (wrap64 (x5_1 + 1))) else (colophonref04_Words.l0 kj7 l0 x3_1 x4_1 (wrap64 (x5_1 + 1)))) = some r := by rw [if_neg (show ¬ (false = true) by decide)] at H; exact H
          clear H
          have H := H1
          clear H1
          by_cases c18 : x4_1 < 0
          ·rw [if_pos c18] at H
           have c18b0 : decide (x4_1 < 0) = true := decide_eq_true c18
           clear c18
           have H' := Aside0.mk H
           clear H
           go_wp2
           go_roundg kj7
           case measure => have := HK1.out; have := HJ2.out; have := HJ7.out; omega
           case rel => exact ⟨(x3_1), (x5_1), (wrap64 (x5_1 + 1)), (by first | rfl | (simp; done) | (simp [*]; done)), (by first | rfl | (simp; done) | (simp [*]; done)), H', ⟨by have := HK1.out; have := HJ2.out; have := HJ7.out; omega⟩, ⟨by (with_reducible repeat (first | apply Kd.R_alloc | apply Kd.R_drewN | apply Kd.R_drew)); exact HO_3.out⟩, ⟨by repeat (first | (with_reducible first | exact HB.out | apply below_alloc | apply pw_below_drewN | apply below_drew1) | exact HB.out)⟩⟩
          ·rw [if_neg c18] at H
           have c18b0 : decide (x4_1 < 0) = false := decide_eq_false c18
           clear c18
           have H' := Aside0.mk H
           clear H
           go_wp2
           go_roundg kj7
           case measure => have := HK1.out; have := HJ2.out; have := HJ7.out; omega
           case rel => exact ⟨(x3_1), (x4_1), (wrap64 (x5_1 + 1)), (by first | rfl | (simp; done) | (simp [*]; done)), (by first | rfl | (simp; done) | (simp [*]; done)), H', ⟨by have := HK1.out; have := HJ2.out; have := HJ7.out; omega⟩, ⟨by (with_reducible repeat (first | apply Kd.R_alloc | apply Kd.R_drewN | apply Kd.R_drew)); exact HO_3.out⟩, ⟨by repeat (first | (with_reducible first | exact HB.out | apply below_alloc | apply pw_below_drewN | apply below_drew1) | exact HB.out)⟩⟩
   ·rw [if_neg c2] at H
    have c2b0 : decide (x5_1 ≤ (l0.length : Int)) = false := decide_eq_false c2
    clear c2
    obtain rfl := Option.some.inj H
    go_wp2
    go_ret
    exact ⟨_, by first | rfl | (simp [errW_none, errW_some] <;> rfl) | (simp [*, errW_none, errW_some] <;> rfl), by (with_reducible repeat (first | apply Kd.R_alloc | apply Kd.R_drewN | apply Kd.R_drew)); exact HO_3.out, by repeat (first | (with_reducible first | exact HB.out | apply below_alloc | apply pw_below_drewN | apply below_drew1) | exact HB.out)⟩
def colophonref04_Lower.f (a0 : Int) : Option (Int) := if a0 ≥ 65 then (if a0 ≤ 90 then (some (wrap64 (a0 + 32))) else (if a0 ≥ 192 then (if a0 ≤ 222 then (if a0 = 215 then (some a0) else (some (wrap64 (a0 + 32)))) else (some a0)) else (some a0))) else (if a0 ≥ 192 then (if a0 ≤ 222 then (if a0 = 215 then (some a0) else (some (wrap64 (a0 + 32)))) else (some a0)) else (some a0))
set_option maxHeartbeats 8000000 in
set_option maxRecDepth 100000 in
theorem colophonref04_Lower.calls (a0 : Int) (r : Int) (w : World) (h : colophonref04_Lower.f a0 = some r) :
  Calls Tryd.prog 22 #[.int .i64 a0] w fun e w' => e = .returned (.int .i64 r) ∧ Drawn0 w w' := by
 have H : (if a0 ≥ 65 then (if a0 ≤ 90 then (some (wrap64 (a0 + 32))) else (if a0 ≥ 192 then (if a0 ≤ 222 then (if a0 = 215 then (some a0) else (some (wrap64 (a0 + 32)))) else (some a0)) else (some a0))) else (if a0 ≥ 192 then (if a0 ≤ 222 then (if a0 = 215 then (some a0) else (some (wrap64 (a0 + 32)))) else (some a0)) else (some a0))) = some r := h
 clear h
 by_cases c2 : a0 ≥ 65
 ·rw [if_pos c2] at H
  have c2b0 : decide (65 ≤ a0) = true := decide_eq_true c2
  clear c2
  by_cases c3 : a0 ≤ 90
  ·rw [if_pos c3] at H
   have c3b0 : decide (a0 ≤ 90) = true := decide_eq_true c3
   clear c3
   obtain rfl := Option.some.inj H
   go_enter Tryd.func22, Tryd.ntmps22
   go_wp2
   go_ret
   exact ⟨by first | rfl | (simp; done) | (simp [*]; done), by repeat (first | exact Drawn0.refl _ | apply Drawn0.step)⟩
  ·rw [if_neg c3] at H
   have c3b0 : decide (a0 ≤ 90) = false := decide_eq_false c3
   clear c3
   by_cases c4 : a0 ≥ 192
   ·rw [if_pos c4] at H
    have c4b0 : decide (192 ≤ a0) = true := decide_eq_true c4
    clear c4
    by_cases c5 : a0 ≤ 222
    ·rw [if_pos c5] at H
     have c5b0 : decide (a0 ≤ 222) = true := decide_eq_true c5
     clear c5
     by_cases c6 : a0 = 215
     ·rw [if_pos c6] at H
      have c6b0 : (a0 == 215) = true := beq_iff_eq.mpr c6
      have c6b1 : (a0 != 215) = false := bne_eq_false_iff_eq.mpr c6
      clear c6
      obtain rfl := Option.some.inj H
      go_enter Tryd.func22, Tryd.ntmps22
      go_wp2
      go_ret
      exact ⟨by first | rfl | (simp; done) | (simp [*]; done), by repeat (first | exact Drawn0.refl _ | apply Drawn0.step)⟩
     ·rw [if_neg c6] at H
      have c6b0 : (a0 == 215) = false := beq_eq_false_iff_ne.mpr c6
      have c6b1 : (a0 != 215) = true := bne_iff_ne.mpr c6
      obtain rfl := Option.some.inj H
      go_enter Tryd.func22, Tryd.ntmps22
      go_wp2
      go_ret
      exact ⟨by first | rfl | (simp; done) | (simp [*]; done), by repeat (first | exact Drawn0.refl _ | apply Drawn0.step)⟩
    ·rw [if_neg c5] at H
     have c5b0 : decide (a0 ≤ 222) = false := decide_eq_false c5
     clear c5
     obtain rfl := Option.some.inj H
     go_enter Tryd.func22, Tryd.ntmps22
     go_wp2
     go_ret
     exact ⟨by first | rfl | (simp; done) | (simp [*]; done), by repeat (first | exact Drawn0.refl _ | apply Drawn0.step)⟩
   ·rw [if_neg c4] at H
    have c4b0 : decide (192 ≤ a0) = false := decide_eq_false c4
    clear c4
    obtain rfl := Option.some.inj H
    go_enter Tryd.func22, Tryd.ntmps22
    go_wp2
    go_ret
    exact ⟨by first | rfl | (simp; done) | (simp [*]; done), by repeat (first | exact Drawn0.refl _ | apply Drawn0.step)⟩
 ·rw [if_neg c2] at H
  have c2b0 : decide (65 ≤ a0) = false := decide_eq_false c2
  clear c2
  by_cases c7 : a0 ≥ 192
  ·rw [if_pos c7] at H
   have c7b0 : decide (192 ≤ a0) = true := decide_eq_true c7
   clear c7
   by_cases c8 : a0 ≤ 222
   ·rw [if_pos c8] at H
    have c8b0 : decide (a0 ≤ 222) = true := decide_eq_true c8
    clear c8
    by_cases c9 : a0 = 215
    ·rw [if_pos c9] at H
     have c9b0 : (a0 == 215) = true := beq_iff_eq.mpr c9
     have c9b1 : (a0 != 215) = false := bne_eq_false_iff_eq.mpr c9
     clear c9
     obtain rfl := Option.some.inj H
     go_enter Tryd.func22, Tryd.ntmps22
     go_wp2
     go_ret
     exact ⟨by first | rfl | (simp; done) | (simp [*]; done), by repeat (first | exact Drawn0.refl _ | apply Drawn0.step)⟩
    ·rw [if_neg c9] at H
     have c9b0 : (a0 == 215) = false := beq_eq_false_iff_ne.mpr c9
     have c9b1 : (a0 != 215) = true := bne_iff_ne.mpr c9
     obtain rfl := Option.some.inj H
     go_enter Tryd.func22, Tryd.ntmps22
     go_wp2
     go_ret
     exact ⟨by first | rfl | (simp; done) | (simp [*]; done), by repeat (first | exact Drawn0.refl _ | apply Drawn0.step)⟩
   ·rw [if_neg c8] at H
    have c8b0 : decide (a0 ≤ 222) = false := decide_eq_false c8
    clear c8
    obtain rfl := Option.some.inj H
    go_enter Tryd.func22, Tryd.ntmps22
    go_wp2
    go_ret
    exact ⟨by first | rfl | (simp; done) | (simp [*]; done), by repeat (first | exact Drawn0.refl _ | apply Drawn0.step)⟩
  ·rw [if_neg c7] at H
   have c7b0 : decide (192 ≤ a0) = false := decide_eq_false c7
   clear c7
   obtain rfl := Option.some.inj H
   go_enter Tryd.func22, Tryd.ntmps22
   go_wp2
   go_ret
   exact ⟨by first | rfl | (simp; done) | (simp [*]; done), by repeat (first | exact Drawn0.refl _ | apply Drawn0.step)⟩
def colophonref21_Letter.f (k : Nat) (a0 : Int) : Option (Bool) := (colophonref04_Class.f k a0).bind fun t175 => (if t175 = 2 then ((colophonref04_Lower.f a0).bind fun t176 => (some (t176 == a0))) else (some false))
theorem colophonref21_Letter.mono : ∀ a0 k, LeO (colophonref21_Letter.f k a0) (colophonref21_Letter.f (k + 1) a0) := by
 intro a0 k
 unfold colophonref21_Letter.f
 repeat' first
   |(with_reducible exact colophonref04_Class.mono _ _)
   |(with_reducible exact LeO.refl _)
   |(with_reducible exact LeO.none _)
   |(with_reducible refine LeO.ite ?_ ?_)
   |(with_reducible refine LeO.bind ?_ (fun _ => ?_))
   | exact colophonref04_Class.mono _ _
   | exact LeO.none _
   | refine LeO.ite ?_ ?_
   | refine LeO.bind ?_ (fun _ => ?_)
set_option maxHeartbeats 8000000 in
set_option maxRecDepth 100000 in
theorem colophonref21_Letter.calls (k : Nat) (a0 : Int) (r : Bool) (w : World) (h : colophonref21_Letter.f k a0 = some r) :
  Calls Tryd.prog 47 #[.int .i64 a0] w fun e w' => e = .returned (.bool r) ∧ Drawn0 w w' := by
 have H : ((colophonref04_Class.f k a0).bind fun t175 => (if t175 = 2 then ((colophonref04_Lower.f a0).bind fun t176 => (some (t176 == a0))) else (some false))) = some r := h
 clear h
 replace H := Option.bind_eq_some_iff.mp H
 obtain ⟨t175, A20, H⟩ := H
 replace H : (if t175 = 2 then ((colophonref04_Lower.f a0).bind fun t176 => (some (t176 == a0))) else (some false)) = some r := H
 have A2 := Aside0.mk A20
 clear A20
 by_cases c3 : t175 = 2
 ·rw [if_pos c3] at H
  have c3b0 : (t175 == 2) = true := beq_iff_eq.mpr c3
  have c3b1 : (t175 != 2) = false := bne_eq_false_iff_eq.mpr c3
  clear c3
  replace H := Option.bind_eq_some_iff.mp H
  obtain ⟨t176, A40, H⟩ := H
  replace H : (some (t176 == a0)) = some r := H
  have A4 := Aside0.mk A40
  clear A40
  obtain rfl := Option.some.inj H
  go_enter Tryd.func47, Tryd.ntmps47
  go_wp2_with (first | ((with_reducible refine gate_callee (f := 21) rfl ?_); refine goesL_ (some 4) rfl rfl Tryd.func21 (by kernel_rfl) rfl #[.int .i64 a0] rfl (by (try simp only [List.map_toArray, List.map_cons, List.map_nil]); first | done | rfl | (simp only [List.length_drop, List.length_take]; rfl)) ?_; (with_reducible refine (colophonref04_Class.calls k a0 t175 _ A2.out).mono ?_); rintro e w' ⟨rfl, ⟨nd, rfl⟩⟩; refine ⟨_, rfl, ?_⟩) | (go_at_call 22; (with_reducible refine (colophonref04_Lower.calls a0 t176 _ A4.out).mono ?_); rintro e w' ⟨rfl, ⟨nd, rfl⟩⟩))
  go_ret
  exact ⟨by first | rfl | (simp; done) | (simp [*]; done), by repeat (first | exact Drawn0.refl _ | apply Drawn0.step)⟩
 ·rw [if_neg c3] at H
  have c3b0 : (t175 == 2) = false := beq_eq_false_iff_ne.mpr c3
  have c3b1 : (t175 != 2) = true := bne_iff_ne.mpr c3
  obtain rfl := Option.some.inj H
  go_enter Tryd.func47, Tryd.ntmps47
  go_wp2_with (first | ((with_reducible refine gate_callee (f := 21) rfl ?_); refine goesL_ (some 4) rfl rfl Tryd.func21 (by kernel_rfl) rfl #[.int .i64 a0] rfl (by (try simp only [List.map_toArray, List.map_cons, List.map_nil]); first | done | rfl | (simp only [List.length_drop, List.length_take]; rfl)) ?_; (with_reducible refine (colophonref04_Class.calls k a0 t175 _ A2.out).mono ?_); rintro e w' ⟨rfl, ⟨nd, rfl⟩⟩; refine ⟨_, rfl, ?_⟩))
  go_ret
  exact ⟨by first | rfl | (simp; done) | (simp [*]; done), by repeat (first | exact Drawn0.refl _ | apply Drawn0.step)⟩
end Go.Proofs.YtenhfmlkdcfbbaaDoor.PHyphenPoints
