-- Written by a copy of the print that this session has turned (wip/tools/patchprint.py): arrays as records.
import Derived.Test.YtogjeababinnlaaPPagesCostsx0
import Derived.Test.YtogjeababinnlaaPPagesCostsx2
import Derived.Test.YtogjeababinnlaaPPagesCostsx3
import Derived.Test.YtogjeababinnlaaPPagesCostsx5
namespace Go.Proofs.Ytogjeababinnlaa.PPagesCosts
open Go.RowKit Go.Proofs.YtogjeababinnlaaW.PrintWords Go.Proofs.YtogjeababinnlaaW.PrintLast Go.Proofs.YtogjeababinnlaaW.PrintMore
attribute [local go_sem] max2_int min2_int max_two min_two max_three min_three max_four min_four   -- for this text's walks alone
set_option linter.unusedVariables false
set_option linter.unusedSimpArgs false

/-! ### pages_Cost: function 25 -/
def pages_Cost.sum (l0 : List S43) (h : Int) : List Int → Int → Int → Option (Int × Bool)
  | [], s, _ => some (s, true)
  | b :: r, s, a => if b ≤ a then some (0, false) else (pages_column_legal.f l0 (pages_ready.hs l0) (pages_ready.fs l0) (pages_ready.ms l0) b).bind fun t => if t = false then some (0, false) else
      (pages_column_cost.f l0 (pages_ready.hs l0) (pages_ready.fs l0) (pages_ready.ms l0) a b h).bind fun c => if c.2 = false then some (0, false) else pages_Cost.sum l0 h r (wrap64 (s + c.1)) b
def pages_Cost.f (k : Nat) (l0 : List (S43)) (l1 : List Int) (a2 : Int) : Option (Int × Bool) :=
  (pages_Good.f k l0).bind fun t => if t = false then some (0, false) else (pages_room.f a2).bind fun u => if u = false then some (0, false) else
    if l1.length = 0 then some (0, false) else if rd l1 ((l1.length : Int) - 1) = (l0.length : Int) - 1 then (if l0.length ≤ 1024 ∧ l1.length ≤ 100000 then pages_Cost.sum l0 a2 l1 0 (-1) else none) else (if l0.length ≤ 1024 ∧ l1.length ≤ 100000 then some (0, false) else none)
theorem pages_Cost.mono : ∀ a0 a1 a2 k, LeO (pages_Cost.f k a0 a1 a2) (pages_Cost.f (k + 1) a0 a1 a2) := by
  intro a0 a1 a2 k
  unfold pages_Cost.f
  exact LeO.bind (pages_Good.mono _ _) (fun _ => LeO.refl _)
set_option maxHeartbeats 8000000 in
set_option maxRecDepth 100000 in
theorem pages_Cost.calls (k : Nat) (A0 : Option Addr) (c0 : Nat) (l0 : List (S43)) (A1 : Option Addr) (c1 : Nat) (l1 : List Int) (a2 : Int) (r1 : Int) (r2 : Bool) (w : World) (hr0 : Kd.C k43 w A0 l0.length l0) (hc0 : l0.length ≤ c0) (hr1 : Kd.C (Kd.int .i64) w A1 l1.length l1) (hc1 : l1.length ≤ c1) (h : pages_Cost.f k l0 l1 a2 = some (r1, r2)) :
    Calls Try.prog 25 #[.slice A0 l0.length c0, .slice A1 l1.length c1, .int .i64 a2] w fun e w' => e = .returned (.tuple #[.int .i64 r1, .bool r2]) ∧ Below w.heap.size w w' := by
  have hu43 := Try.underlying43
  have HR0 := Aside0.mk hr0
  have HC0 := Aside0.mk hc0
  have HR1 := Aside0.mk hr1
  have HC1 := Aside0.mk hc1
  have HB := Aside0.mk (Below.refl w.heap.size w)
  clear hr0 hc0 hr1 hc1
  unfold pages_Cost.f at h
  obtain ⟨t, A10, H⟩ := Option.bind_eq_some_iff.mp h
  have A1 := Aside0.mk A10
  clear A10 h
  cases t with
  | false =>
    rw [if_pos rfl] at H
    simp only [Option.some.injEq, Prod.mk.injEq] at H
    obtain ⟨rfl, rfl⟩ := H
    go_enter Try.func25, Try.ntmps25
    go_wp2_with (first | (go_at_call 29; (with_reducible refine (pages_Good.calls k _ _ l0 false _ HR0.out HC0.out A1.out).mono ?_); rintro e w5 ⟨rfl, hb⟩; have n0_ := Aside0.mk (below_step HB.out hb); clear HB; have HB := n0_; clear n0_; clear hb))
    go_ret2
    exact ⟨rfl, (by repeat (first | (with_reducible first | exact HB.out | apply below_alloc | apply pw_below_drewN | apply below_drew1) | exact HB.out))⟩
  | true =>
    rw [if_neg (by decide)] at H
    obtain ⟨u, A20, H⟩ := Option.bind_eq_some_iff.mp H
    have A2 := Aside0.mk A20
    clear A20
    cases u with
    | false =>
      rw [if_pos rfl] at H
      simp only [Option.some.injEq, Prod.mk.injEq] at H
      obtain ⟨rfl, rfl⟩ := H
      go_enter Try.func25, Try.ntmps25
      go_wp2_with (first | (go_at_call 29; (with_reducible refine (pages_Good.calls k _ _ l0 true _ HR0.out HC0.out A1.out).mono ?_); rintro e w5 ⟨rfl, hb⟩; have n0_ := Aside0.mk (below_step HB.out hb); clear HB; have HB := n0_; clear n0_; clear hb) | (go_at_call 35; (with_reducible refine (pages_room.calls a2 false _ A2.out).mono ?_); rintro e w6 ⟨rfl, ⟨nd, rfl⟩⟩; have n0_ := Aside0.mk (pw_below_drewN HB.out nd); clear HB; have HB := n0_; clear n0_))
      go_ret2
      exact ⟨rfl, (by repeat (first | (with_reducible first | exact HB.out | apply below_alloc | apply pw_below_drewN | apply below_drew1) | exact HB.out))⟩
    | true =>
      rw [if_neg (by decide)] at H
      by_cases c1 : l1.length = 0
      · rw [if_pos c1] at H
        have c1b : ((l1.length : Int) == 0) = true := beq_iff_eq.mpr (by omega)
        have c1c : (l1.length == 0) = true := beq_iff_eq.mpr c1
        simp only [Option.some.injEq, Prod.mk.injEq] at H
        obtain ⟨rfl, rfl⟩ := H
        clear c1
        go_enter Try.func25, Try.ntmps25
        go_wp2_with (first | (go_at_call 29; (with_reducible refine (pages_Good.calls k _ _ l0 true _ HR0.out HC0.out A1.out).mono ?_); rintro e w5 ⟨rfl, hb⟩; have n0_ := Aside0.mk (below_step HB.out hb); clear HB; have HB := n0_; clear n0_; clear hb) | (go_at_call 35; (with_reducible refine (pages_room.calls a2 true _ A2.out).mono ?_); rintro e w6 ⟨rfl, ⟨nd, rfl⟩⟩; have n0_ := Aside0.mk (pw_below_drewN HB.out nd); clear HB; have HB := n0_; clear n0_))
        go_ret2
        exact ⟨rfl, (by repeat (first | (with_reducible first | exact HB.out | apply below_alloc | apply pw_below_drewN | apply below_drew1) | exact HB.out))⟩
      · rw [if_neg c1] at H
        have c1b : ((l1.length : Int) == 0) = false := beq_eq_false_iff_ne.mpr (by omega)
        have c1c : (l1.length == 0) = false := beq_eq_false_iff_ne.mpr c1
        have hpos : 0 < l1.length := by omega
        obtain ⟨ad, ead, hx⟩ := Kd.at_int HR1.out ((l1.length : Int) - 1) (by omega) (by omega)
        cases ead
        rw [show ((l1.length : Int) - 1).toNat = l1.length - 1 by omega] at hx
        have q1 : (0 ≤ (l1.length : Int) - 1) = True := eq_true (by omega)
        have q2 : ((l1.length : Int) - 1 < (l1.length : Int)) = True := eq_true (by omega)
        have q3 : (1 ≤ (l1.length : Int)) = True := eq_true (by omega)
        have q4 : (0 < l1.length) = True := eq_true hpos
        have q5 : ((l1.length : Int) - 1).toNat = l1.length - 1 := by omega
        by_cases hn : l0.length ≤ 1024 ∧ l1.length ≤ 100000
        rotate_left
        · exfalso
          by_cases cx : rd l1 ((l1.length : Int) - 1) = (l0.length : Int) - 1
          · rw [if_pos cx, if_neg hn] at H
            exact absurd H (by simp)
          · rw [if_neg cx, if_neg hn] at H
            exact absurd H (by simp)
        rw [if_pos hn, if_pos hn] at H
        have HN := Aside0.mk hn.1
        have hw0 : IntKind.i64.wrap ((l0.length : Int) - 1) = (l0.length : Int) - 1 := by rw [IntKind.wrap_i64]; omega
        have hw1 : IntKind.i64.wrap ((l1.length : Int) - 1) = (l1.length : Int) - 1 := by rw [IntKind.wrap_i64]; omega
        have HL1 := Aside0.mk hn.2
        clear hn c1 hpos
        by_cases c2 : rd l1 ((l1.length : Int) - 1) = (l0.length : Int) - 1
        rotate_left
        · rw [if_neg c2] at H
          simp only [Option.some.injEq, Prod.mk.injEq] at H
          obtain ⟨rfl, rfl⟩ := H
          have c2b : (rd l1 ((l1.length : Int) - 1) == (l0.length : Int) - 1) = false := beq_eq_false_iff_ne.mpr c2
          have c2c : (rd l1 ((l1.length : Int) - 1) != (l0.length : Int) - 1) = true := bne_iff_ne.mpr c2
          clear c2
          go_enter Try.func25, Try.ntmps25
          go_wp2_with (first | (go_at_call 29; (with_reducible refine (pages_Good.calls k _ _ l0 true _ HR0.out HC0.out A1.out).mono ?_); rintro e w5 ⟨rfl, hb⟩; have n0_ := Aside0.mk (below_step HB.out hb); clear HB; have HB := n0_; clear n0_; clear hb) | (go_at_call 35; (with_reducible refine (pages_room.calls a2 true _ A2.out).mono ?_); rintro e w6 ⟨rfl, ⟨nd, rfl⟩⟩; have n0_ := Aside0.mk (pw_below_drewN HB.out nd); clear HB; have HB := n0_; clear n0_; replace hx := pw_cell_below HB.out hx))
          go_ret2
          exact ⟨rfl, (by repeat (first | (with_reducible first | exact HB.out | apply below_alloc | apply pw_below_drewN | apply below_drew1) | exact HB.out))⟩
        · rw [if_pos c2] at H
          have c2b : (rd l1 ((l1.length : Int) - 1) == (l0.length : Int) - 1) = true := beq_iff_eq.mpr c2
          have c2c : (rd l1 ((l1.length : Int) - 1) != (l0.length : Int) - 1) = false := bne_eq_false_iff_eq.mpr c2
          have HS := Aside0.mk H
          clear c2 H
          go_enter Try.func25, Try.ntmps25
          go_wp2_with (first | (go_at_call 29; (with_reducible refine (pages_Good.calls k _ _ l0 true _ HR0.out HC0.out A1.out).mono ?_); rintro e w5 ⟨rfl, hb⟩; have n0_ := Aside0.mk (below_step HB.out hb); clear HB; have HB := n0_; clear n0_; clear hb) | (go_at_call 35; (with_reducible refine (pages_room.calls a2 true _ A2.out).mono ?_); rintro e w6 ⟨rfl, ⟨nd, rfl⟩⟩; have n0_ := Aside0.mk (pw_below_drewN HB.out nd); clear HB; have HB := n0_; clear n0_; replace hx := pw_cell_below HB.out hx) | (go_at_call 36; (with_reducible refine (pages_ready.calls _ _ l0 _ (Kd.C_below HR0.out (by repeat (first | (with_reducible first | exact HB.out | apply below_alloc | apply pw_below_drewN | apply below_drew1) | exact HB.out))) HC0.out (Nat.le_trans HN.out (by decide))).mono ?_); rintro e w7 ⟨g, rfl, hcol, hb⟩; have HCOL := Aside0.mk hcol; have n0_ := Aside0.mk (below_step (by repeat (first | (with_reducible first | exact HB.out | apply below_alloc | apply pw_below_drewN | apply below_drew1) | exact HB.out)) hb); clear HB hb hcol; have HB := n0_; clear n0_))
          clear hx c2b c2c q1 q2 q3 q4 q5 hw0 hw1 c1b c1c
          go_loopg [9, 10, 44] (l1.length) (fun kq v9 v10 v44 w' => ∃ (i : Nat) (s a : Int), v9 = .int .i64 s ∧ v10 = .int .i64 a ∧ v44 = .int .i64 (i : Int) ∧ Aside0 (i + kq = l1.length) ∧ Aside0 (pages_Cost.sum l0 a2 (l1.drop i) s a = some (r1, r2)) ∧ Aside0 (Below w.heap.size w w') ∧ Aside0 (Pg.Col k43 w' g l0 (pages_ready.hs l0) (pages_ready.fs l0) (pages_ready.ms l0)))
          case atStart => exact ⟨0, 0, -1, rfl, by first | rfl | simp, by first | rfl | simp, ⟨by omega⟩, HS, ⟨(by repeat (first | (with_reducible first | exact HB.out | apply below_alloc | apply pw_below_drewN | apply below_drew1) | exact HB.out))⟩, ⟨HCOL.out.below (by repeat (first | exact Below.refl _ _ | apply below_alloc | apply pw_below_drewN | apply below_drew1))⟩⟩
          case round =>
            clear HS HB HCOL
            obtain ⟨i, s, a, rfl, rfl, rfl, HK, HS, HB, HCOL⟩ := hrel
            cases gk with
            | zero =>
              have m1 : decide ((i : Int) < (l1.length : Int)) = false := decide_eq_false (by have := HK.out; omega)
              have m2 : (i < l1.length) = False := eq_false (by have := HK.out; omega)
              have m3 : decide (i < l1.length) = false := decide_eq_false (by have := HK.out; omega)
              have H := HS.out
              rw [List.drop_eq_nil_of_le (by have := HK.out; omega)] at H
              unfold pages_Cost.sum at H
              simp only [Option.some.injEq, Prod.mk.injEq] at H
              obtain ⟨rfl, rfl⟩ := H
              go_wp2
              go_ret2
              exact ⟨rfl, (by repeat (first | (with_reducible first | exact HB.out | apply below_alloc | apply pw_below_drewN | apply below_drew1) | exact HB.out))⟩
            | succ c =>
              have hi : i < l1.length := by have := HK.out; omega
              have m1 : decide ((i : Int) < (l1.length : Int)) = true := decide_eq_true (by omega)
              have m2 : ((i : Int) < (l1.length : Int)) = True := eq_true (by omega)
              have m3 : (0 ≤ (i : Int)) = True := eq_true (by omega)
              have m4 : (i < l1.length) = True := eq_true hi
              have m5 : decide (i < l1.length) = true := decide_eq_true hi
              have hwi : IntKind.i64.wrap ((i : Int) + 1) = (i : Int) + 1 := by have := HL1.out; rw [IntKind.wrap_i64]; omega
              obtain ⟨adi, eadi, hxi⟩ := Kd.at_int HR1.out (i : Int) (by omega) (by omega)
              obtain rfl : ad = adi := by injection eadi
              rw [Int.toNat_natCast] at hxi
              have hxj := pw_cell_below HB.out hxi
              have H := HS.out
              have ed : l1.drop i = rd l1 (i : Int) :: l1.drop (i + 1) := by
                rw [List.drop_eq_getElem_cons hi]
                simp [rd, List.getD_eq_getElem?_getD, hi]
              rw [ed] at H
              obtain ⟨b, hbv⟩ : ∃ b : Int, rd l1 (i : Int) = b := ⟨_, rfl⟩
              rw [hbv] at H hxj
              unfold pages_Cost.sum at H
              clear hxi ed hbv HS hi eadi
              by_cases d1 : b ≤ a
              · rw [if_pos d1] at H
                have d1b : decide (b ≤ a) = true := decide_eq_true d1
                simp only [Option.some.injEq, Prod.mk.injEq] at H
                obtain ⟨rfl, rfl⟩ := H
                clear d1
                go_wp2
                go_ret2
                exact ⟨rfl, (by repeat (first | (with_reducible first | exact HB.out | apply below_alloc | apply pw_below_drewN | apply below_drew1) | exact HB.out))⟩
              · rw [if_neg d1] at H
                have d1b : decide (b ≤ a) = false := decide_eq_false d1
                clear d1
                obtain ⟨t, A40, H⟩ := Option.bind_eq_some_iff.mp H
                have A4 := Aside0.mk A40
                clear A40
                cases t with
                | false =>
                  rw [if_pos rfl] at H
                  simp only [Option.some.injEq, Prod.mk.injEq] at H
                  obtain ⟨rfl, rfl⟩ := H
                  go_wp2_with (first | (go_at_call 37; (with_reducible refine (pages_column_legal.calls g _ _ _ _ b false _ (HCOL.out.below (by repeat (first | exact Below.refl _ _ | apply below_alloc | apply pw_below_drewN | apply below_drew1))) A4.out).mono ?_); rintro e w8 ⟨rfl, hb⟩; have n0_ := Aside0.mk (below_step (by repeat (first | (with_reducible first | exact HB.out | apply below_alloc | apply pw_below_drewN | apply below_drew1) | exact HB.out)) hb); have n1_ := Aside0.mk (HCOL.out.below (below_step (by repeat (first | exact Below.refl _ _ | apply below_alloc | apply pw_below_drewN | apply below_drew1)) hb)); clear HB HCOL hb; have HB := n0_; have HCOL := n1_; clear n0_ n1_))
                  go_ret2
                  exact ⟨rfl, (by repeat (first | (with_reducible first | exact HB.out | apply below_alloc | apply pw_below_drewN | apply below_drew1) | exact HB.out))⟩
                | true =>
                  rw [if_neg (by decide)] at H
                  obtain ⟨⟨n, ok⟩, A50, H⟩ := Option.bind_eq_some_iff.mp H
                  have A5 := Aside0.mk A50
                  clear A50
                  cases ok with
                  | false =>
                    rw [if_pos rfl] at H
                    simp only [Option.some.injEq, Prod.mk.injEq] at H
                    obtain ⟨rfl, rfl⟩ := H
                    go_wp2_with (first | (go_at_call 37; (with_reducible refine (pages_column_legal.calls g _ _ _ _ b true _ (HCOL.out.below (by repeat (first | exact Below.refl _ _ | apply below_alloc | apply pw_below_drewN | apply below_drew1))) A4.out).mono ?_); rintro e w8 ⟨rfl, hb⟩; have n0_ := Aside0.mk (below_step (by repeat (first | (with_reducible first | exact HB.out | apply below_alloc | apply pw_below_drewN | apply below_drew1) | exact HB.out)) hb); have n1_ := Aside0.mk (HCOL.out.below (below_step (by repeat (first | exact Below.refl _ _ | apply below_alloc | apply pw_below_drewN | apply below_drew1)) hb)); clear HB HCOL hb; have HB := n0_; have HCOL := n1_; clear n0_ n1_) | (go_at_call 39; (with_reducible refine (pages_column_cost.calls g _ _ _ _ a b a2 n false _ (HCOL.out.below (by repeat (first | exact Below.refl _ _ | apply below_alloc | apply pw_below_drewN | apply below_drew1))) A5.out).mono ?_); rintro e w9 ⟨rfl, hb⟩; have n0_ := Aside0.mk (below_step (by repeat (first | (with_reducible first | exact HB.out | apply below_alloc | apply pw_below_drewN | apply below_drew1) | exact HB.out)) hb); have n1_ := Aside0.mk (HCOL.out.below (below_step (by repeat (first | exact Below.refl _ _ | apply below_alloc | apply pw_below_drewN | apply below_drew1)) hb)); clear HB HCOL hb; have HB := n0_; have HCOL := n1_; clear n0_ n1_))
                    go_ret2
                    exact ⟨rfl, (by repeat (first | (with_reducible first | exact HB.out | apply below_alloc | apply pw_below_drewN | apply below_drew1) | exact HB.out))⟩
                  | true =>
                    rw [if_neg (by simp)] at H
                    have HS := Aside0.mk H
                    clear H
                    go_wp2_with (first | (go_at_call 37; (with_reducible refine (pages_column_legal.calls g _ _ _ _ b true _ (HCOL.out.below (by repeat (first | exact Below.refl _ _ | apply below_alloc | apply pw_below_drewN | apply below_drew1))) A4.out).mono ?_); rintro e w8 ⟨rfl, hb⟩; have n0_ := Aside0.mk (below_step (by repeat (first | (with_reducible first | exact HB.out | apply below_alloc | apply pw_below_drewN | apply below_drew1) | exact HB.out)) hb); have n1_ := Aside0.mk (HCOL.out.below (below_step (by repeat (first | exact Below.refl _ _ | apply below_alloc | apply pw_below_drewN | apply below_drew1)) hb)); clear HB HCOL hb; have HB := n0_; have HCOL := n1_; clear n0_ n1_) | (go_at_call 39; (with_reducible refine (pages_column_cost.calls g _ _ _ _ a b a2 n true _ (HCOL.out.below (by repeat (first | exact Below.refl _ _ | apply below_alloc | apply pw_below_drewN | apply below_drew1))) A5.out).mono ?_); rintro e w9 ⟨rfl, hb⟩; have n0_ := Aside0.mk (below_step (by repeat (first | (with_reducible first | exact HB.out | apply below_alloc | apply pw_below_drewN | apply below_drew1) | exact HB.out)) hb); have n1_ := Aside0.mk (HCOL.out.below (below_step (by repeat (first | exact Below.refl _ _ | apply below_alloc | apply pw_below_drewN | apply below_drew1)) hb)); clear HB HCOL hb; have HB := n0_; have HCOL := n1_; clear n0_ n1_))
                    go_roundg c
                    case measure => exact Nat.lt_succ_self c
                    case rel => exact ⟨i + 1, wrap64 (s + n), b, by first | rfl | simp, rfl, by first | rfl | simp, ⟨by have := HK.out; omega⟩, HS, ⟨(by repeat (first | (with_reducible first | exact HB.out | apply below_alloc | apply pw_below_drewN | apply below_drew1) | exact HB.out))⟩, ⟨HCOL.out.below (by repeat (first | exact Below.refl _ _ | apply below_alloc | apply pw_below_drewN | apply below_drew1))⟩⟩

/-! ### colophonkeep_Ints: function 26 -/
def colophonkeep_Ints.f (l0 : List Int) (a1 : Int) : Option (List Int) := if (l0.length : Int) > a1 then (if 0 ≤ a1 then (if a1 ≤ (l0.length : Int) then ((some (([] : List Int) : List Int)).bind fun y159 => (if y159.length + (l0.take (a1 : Int).toNat).length < 17592186044416 then (some (y159 ++ (l0.take (a1 : Int).toNat))) else (none))) else (none)) else (none)) else ((some (([] : List Int) : List Int)).bind fun y165 => (if y165.length + l0.length < 17592186044416 then (some (y165 ++ l0)) else (none)))
set_option maxHeartbeats 8000000 in
set_option maxRecDepth 100000 in
theorem colophonkeep_Ints.calls (A0 : Option Addr) (c0 : Nat) (l0 : List Int) (a1 : Int) (r : List Int) (w : World) (hr0 : Kd.C (Kd.int .i64) w A0 l0.length l0) (hc0 : l0.length ≤ c0) (h : colophonkeep_Ints.f l0 a1 = some r) :
    Calls Try.prog 26 #[.slice A0 l0.length c0, .int .i64 a1] w fun e w' => ∃ v0_ : Value, e = .returned (v0_) ∧ Kd.R (Kd.int .i64) 3 w' w.heap.size (fun _ => True) v0_ r ∧ Below w.heap.size w w' := by
  have HR0 := Aside0.mk hr0
  have HC0 := Aside0.mk hc0
  clear hr0 hc0
  have HB := Aside0.mk (Below.refl w.heap.size w)
  have H : (if (l0.length : Int) > a1 then (if 0 ≤ a1 then (if a1 ≤ (l0.length : Int) then ((some (([] : List Int) : List Int)).bind fun y159 => (if y159.length + (l0.take (a1 : Int).toNat).length < 17592186044416 then (some (y159 ++ (l0.take (a1 : Int).toNat))) else (none))) else (none)) else (none)) else ((some (([] : List Int) : List Int)).bind fun y165 => (if y165.length + l0.length < 17592186044416 then (some (y165 ++ l0)) else (none)))) = some r := h
  clear h
  by_cases c3 : (l0.length : Int) > a1
  · rw [if_pos c3] at H
    have c3b0 : decide (a1 < (l0.length : Int)) = true := decide_eq_true c3
    clear c3
    by_cases c4 : 0 ≤ a1
    · rw [if_pos c4] at H
      have c4b0 := eq_true c4
      have c4b1 : decide (0 ≤ a1) = true := decide_eq_true c4
      clear c4
      by_cases c5 : a1 ≤ (l0.length : Int)
      · rw [if_pos c5] at H
        have c5b0 := eq_true c5
        have c5b1 : decide (a1 ≤ (l0.length : Int)) = true := decide_eq_true c5
        clear c5
        obtain ⟨y159, hy159⟩ : ∃ y_ : List Int, y_ = (([] : List Int)) := ⟨_, rfl⟩
        replace H : (if y159.length + (l0.take (a1 : Int).toNat).length < 17592186044416 then (some (y159 ++ (l0.take (a1 : Int).toNat))) else (none)) = some r := by first | (rw [hy159]; with_reducible exact H) | (have H2_ := (Option.bind_some _ _).symm.trans H; rw [hy159]; with_reducible exact H2_) | (have H2_ := (Option.bind_some _ _).symm.trans H; with_reducible exact H2_) | with_reducible exact H | (rw [hy159]; exact H) | exact H
        have Ny159 := Aside0.mk hy159
        clear hy159
        by_cases c6 : y159.length + (l0.take (a1 : Int).toNat).length < 17592186044416
        · rw [if_pos c6] at H
          have LMc6 := Aside0.mk c6
          clear c6
          obtain ⟨y162, hy162⟩ : ∃ y_ : List Int, y_ = (y159 ++ (l0.take (a1 : Int).toNat)) := ⟨_, rfl⟩
          replace H : (some y162) = some r := by first | (rw [hy162]; with_reducible exact H) | (have H2_ := (Option.bind_some _ _).symm.trans H; rw [hy162]; with_reducible exact H2_) | (have H2_ := (Option.bind_some _ _).symm.trans H; with_reducible exact H2_) | with_reducible exact H | (rw [hy162]; exact H) | exact H
          have Ny162 := Aside0.mk hy162
          clear hy162
          obtain rfl := Option.some.inj H
          obtain ⟨i07, hi07, _, hsz7, _⟩ := info_parts info3
          obtain ⟨hcut7, hA7, hC7⟩ := print_take_of (P := Try.prog) (Value.int .i64) 0 26 3 .i64 Try.underlying26 hi07 hsz7 A0 c0 l0 a1 (of_decide_eq_true (by first | (with_reducible assumption) | assumption)) (of_decide_eq_true (by first | (with_reducible assumption) | assumption)) HC0.out
          have HR158 := Aside0.mk (Kd.C_of_reads (h1 := fun _ => rfl) (hA7 _ (Kd.reads_of_C HR0.out)))
          have HC158 := Aside0.mk hC7
          clear hA7 hC7 hi07 hsz7
          go_enter Try.func26, Try.ntmps26
          go_wp2_with (first | ((with_reducible refine gate_dst (N := 12) rfl ?_); refine Kd.R_lit (Kd.int .i64) _ 3 ?hg (N := 12) ?hd (xs := ([] : List Int)) (inner := []) (ok := fun _ => True) (okp := fun _ => True) ?hr ?hp (fun _ hk => hk) trivial (Below.refl _ _) (Nat.le_refl _) (by simp) ?_; (case hd => rfl); (case hg => rfl); (case hr => first | (go_simp; done) | (go_simp; rfl)); (case hp => exact (Reps.none _ _)); intro v160 w8 ho9 hb hg_ hnew_; clear hg_ hnew_; (first | rw [← Ny159.out] at ho9 | (simp only [Int.reduceToNat] at ho9; rw [← Ny159.out] at ho9)); have n0_ := Aside0.mk (Kd.R_lower ho9 (below_size (by repeat (first | (with_reducible first | exact HB.out | apply below_alloc | apply pw_below_drewN | apply below_drew1) | exact HB.out)))); have n1_ := Aside0.mk (below_step (by repeat (first | (with_reducible first | exact HB.out | apply below_alloc | apply pw_below_drewN | apply below_drew1) | exact HB.out)) hb); clear HB; have HO161 := n0_; have HB := n1_; clear n0_ n1_; clear hb ho9) | ((with_reducible refine gate_builtin (b := .append) (xs := #[.tmp 12, .tmp 13]) rfl ?_); at_builtin; refine Kd.R_append_rows (Kd.int .i64) (w0 := w) w.heap.size rfl (.tmp 12) (.tmp 13) 26 3 (.int .i64 0) 8 rfl Try.underlying26 info3 rfl (by decide) (by omega) v160 y159 (l0.take (a1 : Int).toNat) _ _ _ (fun _ => True) (fun _ => False) rfl rfl ?aO ?aR (fun _ _ h => h) (fun _ h => h.elim) ?aF ?aB ?aS ?aL ?_; (case aR => first | (have q_ := HR158.out; rw [show (l0.take (a1 : Int).toNat).length = a1.toNat from (by rw [List.length_take]; have h_ : (a1 : Int) ≤ (l0.length : Int) := of_decide_eq_true (by first | (with_reducible assumption) | assumption); omega)] at q_; repeat (first | exact (Kd.C_below q_ HB.out) | (with_reducible refine Kd.C_alloc ?_ _) | (with_reducible refine Kd.C_drewN ?_ _) | (with_reducible refine Kd.C_drew ?_))) | (rw [← show (l0.take (a1 : Int).toNat).length = a1.toNat from (by rw [List.length_take]; have h_ : (a1 : Int) ≤ (l0.length : Int) := of_decide_eq_true (by first | (with_reducible assumption) | assumption); omega)]; repeat (first | exact (Kd.C_below HR158.out HB.out) | (with_reducible refine Kd.C_alloc ?_ _) | (with_reducible refine Kd.C_drewN ?_ _) | (with_reducible refine Kd.C_drew ?_))) | (repeat (first | exact (Kd.C_below HR158.out HB.out) | (with_reducible refine Kd.C_alloc ?_ _) | (with_reducible refine Kd.C_drewN ?_ _) | (with_reducible refine Kd.C_drew ?_)))); (case aB => exact (by repeat (first | (with_reducible first | exact HB.out | apply below_alloc | apply pw_below_drewN | apply below_drew1) | exact HB.out))); (case aF => exact (fun _ _ => trivial)); (case aO => exact (by (with_reducible repeat (first | apply Kd.R_alloc | apply Kd.R_drewN | apply Kd.R_drew)); exact HO161.out)); (case aS => exact (below_size (by repeat (first | (with_reducible first | exact HB.out | apply below_alloc | apply pw_below_drewN | apply below_drew1) | exact HB.out)))); (case aL => have := LMc6.out; have hlx_ := (show (l0.take (a1 : Int).toNat).length = a1.toNat from (by rw [List.length_take]; have h_ : (a1 : Int) ≤ (l0.length : Int) := of_decide_eq_true (by first | (with_reducible assumption) | assumption); omega)); omega); intro v163 w10 ho hb hg hat; rw [← Ny162.out] at ho; have n0_ := Aside0.mk (hb); have n1_ := Aside0.mk (ho); clear HB; clear HO161; have HB := n0_; have HO164 := n1_; clear n0_ n1_; clear ho hb hg hat))
          go_ret
          exact ⟨_, by first | rfl | (simp [errW_none, errW_some] <;> rfl) | (simp [*, errW_none, errW_some] <;> rfl), by (with_reducible repeat (first | apply Kd.R_alloc | apply Kd.R_drewN | apply Kd.R_drew)); exact HO164.out, by repeat (first | (with_reducible first | exact HB.out | apply below_alloc | apply pw_below_drewN | apply below_drew1) | exact HB.out)⟩
        · rw [if_neg c6] at H
          exact absurd H (by simp)
      · rw [if_neg c5] at H
        exact absurd H (by simp)
    · rw [if_neg c4] at H
      exact absurd H (by simp)
  · rw [if_neg c3] at H
    have c3b0 : decide (a1 < (l0.length : Int)) = false := decide_eq_false c3
    clear c3
    obtain ⟨y165, hy165⟩ : ∃ y_ : List Int, y_ = (([] : List Int)) := ⟨_, rfl⟩
    replace H : (if y165.length + l0.length < 17592186044416 then (some (y165 ++ l0)) else (none)) = some r := by first | (rw [hy165]; with_reducible exact H) | (have H2_ := (Option.bind_some _ _).symm.trans H; rw [hy165]; with_reducible exact H2_) | (have H2_ := (Option.bind_some _ _).symm.trans H; with_reducible exact H2_) | with_reducible exact H | (rw [hy165]; exact H) | exact H
    have Ny165 := Aside0.mk hy165
    clear hy165
    by_cases c11 : y165.length + l0.length < 17592186044416
    · rw [if_pos c11] at H
      have LMc11 := Aside0.mk c11
      clear c11
      obtain ⟨y168, hy168⟩ : ∃ y_ : List Int, y_ = (y165 ++ l0) := ⟨_, rfl⟩
      replace H : (some y168) = some r := by first | (rw [hy168]; with_reducible exact H) | (have H2_ := (Option.bind_some _ _).symm.trans H; rw [hy168]; with_reducible exact H2_) | (have H2_ := (Option.bind_some _ _).symm.trans H; with_reducible exact H2_) | with_reducible exact H | (rw [hy168]; exact H) | exact H
      have Ny168 := Aside0.mk hy168
      clear hy168
      obtain rfl := Option.some.inj H
      go_enter Try.func26, Try.ntmps26
      go_wp2_with (first | ((with_reducible refine gate_dst (N := 12) rfl ?_); refine Kd.R_lit (Kd.int .i64) _ 3 ?hg (N := 12) ?hd (xs := ([] : List Int)) (inner := []) (ok := fun _ => True) (okp := fun _ => True) ?hr ?hp (fun _ hk => hk) trivial (Below.refl _ _) (Nat.le_refl _) (by simp) ?_; (case hd => rfl); (case hg => rfl); (case hr => first | (go_simp; done) | (go_simp; rfl)); (case hp => exact (Reps.none _ _)); intro v166 w12 ho13 hb hg_ hnew_; clear hg_ hnew_; (first | rw [← Ny165.out] at ho13 | (simp only [Int.reduceToNat] at ho13; rw [← Ny165.out] at ho13)); have n0_ := Aside0.mk (Kd.R_lower ho13 (below_size (by repeat (first | (with_reducible first | exact HB.out | apply below_alloc | apply pw_below_drewN | apply below_drew1) | exact HB.out)))); have n1_ := Aside0.mk (below_step (by repeat (first | (with_reducible first | exact HB.out | apply below_alloc | apply pw_below_drewN | apply below_drew1) | exact HB.out)) hb); clear HB; have HO167 := n0_; have HB := n1_; clear n0_ n1_; clear hb ho13) | ((with_reducible refine gate_builtin (b := .append) (xs := #[.tmp 12, .tmp 13]) rfl ?_); at_builtin; refine Kd.R_append_rows (Kd.int .i64) (w0 := w) w.heap.size rfl (.tmp 12) (.tmp 13) 26 3 (.int .i64 0) 8 rfl Try.underlying26 info3 rfl (by decide) (by omega) v166 y165 l0 _ _ _ (fun _ => True) (fun _ => False) rfl rfl ?aO ?aR (fun _ _ h => h) (fun _ h => h.elim) ?aF ?aB ?aS ?aL ?_; (case aR => repeat (first | exact (Kd.C_below HR0.out HB.out) | (with_reducible refine Kd.C_alloc ?_ _) | (with_reducible refine Kd.C_drewN ?_ _) | (with_reducible refine Kd.C_drew ?_))); (case aB => exact (by repeat (first | (with_reducible first | exact HB.out | apply below_alloc | apply pw_below_drewN | apply below_drew1) | exact HB.out))); (case aF => exact (fun _ _ => trivial)); (case aO => exact (by (with_reducible repeat (first | apply Kd.R_alloc | apply Kd.R_drewN | apply Kd.R_drew)); exact HO167.out)); (case aS => exact (below_size (by repeat (first | (with_reducible first | exact HB.out | apply below_alloc | apply pw_below_drewN | apply below_drew1) | exact HB.out)))); (case aL => have := LMc11.out; omega); intro v169 w14 ho hb hg hat; rw [← Ny168.out] at ho; have n0_ := Aside0.mk (hb); have n1_ := Aside0.mk (ho); clear HB; clear HO167; have HB := n0_; have HO170 := n1_; clear n0_ n1_; clear ho hb hg hat))
      go_ret
      exact ⟨_, by first | rfl | (simp [errW_none, errW_some] <;> rfl) | (simp [*, errW_none, errW_some] <;> rfl), by (with_reducible repeat (first | apply Kd.R_alloc | apply Kd.R_drewN | apply Kd.R_drew)); exact HO170.out, by repeat (first | (with_reducible first | exact HB.out | apply below_alloc | apply pw_below_drewN | apply below_drew1) | exact HB.out)⟩
    · rw [if_neg c11] at H
      exact absurd H (by simp)

/-! ### colophonref27_height: function 46 -/
def colophonref27_height.l0 : Nat → List (S43) → Int → Int → Bool → Int → Option (Int)
  | 0, _, _, _, _, _ => none
  | k + 1, x0, x2, x7, x8, x9 => if x9 < x2 then (if 0 ≤ x9 then (if x9 < (x0.length : Int) then (if ((rd_T43 x0 x9).f0) = 1 then (if x8 = true then (colophonref27_height.l0 k x0 x2 (wrap64 (x7 + ((rd_T43 x0 x9).f1))) true (wrap64 (x9 + 1))) else (colophonref27_height.l0 k x0 x2 (wrap64 ((wrap64 (x7 + ((rd_T43 x0 x9).f2))) + ((rd_T43 x0 x9).f1))) true (wrap64 (x9 + 1)))) else (if x8 = true then (colophonref27_height.l0 k x0 x2 (wrap64 (x7 + ((rd_T43 x0 x9).f1))) x8 (wrap64 (x9 + 1))) else (colophonref27_height.l0 k x0 x2 x7 x8 (wrap64 (x9 + 1))))) else (none)) else (none)) else (some x7)
def colophonref27_height.f (k : Nat) (l0 : List (S43)) (a1 : Int) (a2 : Int) : Option (Int) := colophonref27_height.l0 k l0 a2 0 false (wrap64 (a1 + 1))
theorem colophonref27_height.mono_l : ∀ k, (∀ y0 y1 y2 y3 y4, LeO (colophonref27_height.l0 k y0 y1 y2 y3 y4) (colophonref27_height.l0 (k + 1) y0 y1 y2 y3 y4))
  | 0 => fun _ _ _ _ _ r h => by simp [colophonref27_height.l0] at h
  | k + 1 => by
    have ih0 := colophonref27_height.mono_l k
    · intro y0 y1 y2 y3 y4
      unfold colophonref27_height.l0
      repeat' first
      | (with_reducible exact ih0 _ _ _ _ _)
      | (with_reducible exact LeO.refl _)
      | (with_reducible exact LeO.none _)
      | (with_reducible refine LeO.ite ?_ ?_)
      | (with_reducible refine LeO.bind ?_ (fun _ => ?_))
      | exact ih0 _ _ _ _ _
      | exact LeO.none _
      | refine LeO.ite ?_ ?_
      | refine LeO.bind ?_ (fun _ => ?_)
theorem colophonref27_height.mono : ∀ a0 a1 a2 k, LeO (colophonref27_height.f k a0 a1 a2) (colophonref27_height.f (k + 1) a0 a1 a2) := by
  intro a0 a1 a2 k
  have ih0 := colophonref27_height.mono_l k
  unfold colophonref27_height.f
  repeat' first
      | (with_reducible exact ih0 _ _ _ _ _)
      | (with_reducible exact LeO.refl _)
      | (with_reducible exact LeO.none _)
      | (with_reducible refine LeO.ite ?_ ?_)
      | (with_reducible refine LeO.bind ?_ (fun _ => ?_))
      | exact ih0 _ _ _ _ _
      | exact LeO.none _
      | refine LeO.ite ?_ ?_
      | refine LeO.bind ?_ (fun _ => ?_)
set_option maxHeartbeats 8000000 in
set_option maxRecDepth 100000 in
theorem colophonref27_height.calls (k : Nat) (A0 : Option Addr) (c0 : Nat) (l0 : List (S43)) (a1 : Int) (a2 : Int) (r : Int) (w : World) (hr0 : Kd.C k43 w A0 l0.length l0) (hc0 : l0.length ≤ c0) (h : colophonref27_height.f k l0 a1 a2 = some r) :
    Calls Try.prog 46 #[.slice A0 l0.length c0, .int .i64 a1, .int .i64 a2] w fun e w' => e = .returned (.int .i64 r) ∧ Drawn0 w w' := by
  have HR0 := Aside0.mk hr0
  have HC0 := Aside0.mk hc0
  clear hr0 hc0
  have H : (colophonref27_height.l0 k l0 a2 0 false (wrap64 (a1 + 1))) = some r := h
  clear h
  have H' := Aside0.mk H
  clear H
  go_enter Try.func46, Try.ntmps46
  go_wp2
  go_loopg [7, 8, 9] k (fun kq v7 v8 v9 w' => ∃ (x7_1 : Int) (x8_1 : Bool) (x9_1 : Int), v7 = .int .i64 x7_1 ∧ v8 = .bool x8_1 ∧ v9 = .int .i64 x9_1 ∧ Aside0 (colophonref27_height.l0 kq l0 a2 x7_1 x8_1 x9_1 = some r) ∧ Aside0 (kq ≤ k) ∧ Drawn0 w w')
  case atStart => exact ⟨(0), (false), (wrap64 (a1 + 1)), (by first | rfl | (simp; done) | (simp [*]; done)), (by first | rfl | (simp; done) | (simp [*]; done)), (by first | rfl | (simp; done) | (simp [*]; done)), H', ⟨Nat.le_refl _⟩, by repeat (first | exact Drawn0.refl _ | apply Drawn0.step)⟩
  case round =>
    clear H'
    try clear p2
    obtain ⟨x7_1, x8_1, x9_1, rfl, rfl, rfl, HA, HK1, ⟨m1, rfl⟩⟩ := hrel
    cases gk with
    | zero => exact absurd HA.out (by simp [colophonref27_height.l0])
    | succ k1 =>
      have H := HA.out
      clear HA
      simp only [colophonref27_height.l0] at H
      by_cases c4 : x9_1 < a2
      · rw [if_pos c4] at H
        have c4b0 : decide (x9_1 < a2) = true := decide_eq_true c4
        clear c4
        by_cases c5 : 0 ≤ x9_1
        · rw [if_pos c5] at H
          have c5b0 : decide (0 ≤ x9_1) = true := decide_eq_true c5
          clear c5
          by_cases c6 : x9_1 < (l0.length : Int)
          · rw [if_pos c6] at H
            have c6b0 : decide (x9_1 < (l0.length : Int)) = true := decide_eq_true c6
            clear c6
            by_cases c7 : ((rd_T43 l0 x9_1).f0) = 1
            · rw [if_pos c7] at H
              have c7b0 : (((rd_T43 l0 x9_1).f0) == 1) = true := beq_iff_eq.mpr c7
              have c7b1 : (((rd_T43 l0 x9_1).f0) != 1) = false := bne_eq_false_iff_eq.mpr c7
              clear c7
              by_cases c8 : x8_1 = true
              · subst c8
                have H1 : (colophonref27_height.l0 k1 l0 a2 (wrap64 (x7_1 + ((rd_T43 l0 x9_1).f1))) true (wrap64 (x9_1 + 1))) = some r := by rw [if_pos rfl] at H; exact H
                clear H
                have H := H1
                clear H1
                have H' := Aside0.mk H
                clear H
                have p171 : 0 ≤ (x9_1 : Int) := of_decide_eq_true (by first | (with_reducible assumption) | assumption)
                have q171 : x9_1 < (l0.length : Int) := of_decide_eq_true (by first | (with_reducible assumption) | assumption)
                obtain ⟨ad171, e171, hx171_0, hx171_1, hx171_2, hx171_3⟩ := at_T43 HR0.out x9_1 p171 q171
                cases e171
                replace p171 := eq_true p171
                replace q171 := eq_true q171
                have p172 : 0 ≤ (x9_1 : Int) := of_decide_eq_true (by first | (with_reducible assumption) | assumption)
                have q172 : x9_1 < (l0.length : Int) := of_decide_eq_true (by first | (with_reducible assumption) | assumption)
                obtain ⟨ad172, e172, hx172_0, hx172_1, hx172_2, hx172_3⟩ := at_T43 HR0.out x9_1 p172 q172
                obtain rfl : ad171 = ad172 := (by injection e172)
                replace p172 := eq_true p172
                replace q172 := eq_true q172
                go_wp2
                go_roundg k1
                case measure => have := HK1.out; omega
                case rel => exact ⟨(wrap64 (x7_1 + ((rd_T43 l0 x9_1).f1))), (true), (wrap64 (x9_1 + 1)), (by first | rfl | (simp; done) | (simp [*]; done)), (by first | rfl | (simp; done) | (simp [*]; done)), (by first | rfl | (simp; done) | (simp [*]; done)), H', ⟨by have := HK1.out; omega⟩, by repeat (first | exact Drawn0.refl _ | apply Drawn0.step)⟩
              · replace c8 := Bool.eq_false_iff.mpr c8
                subst c8
                have H1 : (colophonref27_height.l0 k1 l0 a2 (wrap64 ((wrap64 (x7_1 + ((rd_T43 l0 x9_1).f2))) + ((rd_T43 l0 x9_1).f1))) true (wrap64 (x9_1 + 1))) = some r := by rw [if_neg (show ¬ (false = true) by decide)] at H; exact H
                clear H
                have H := H1
                clear H1
                have H' := Aside0.mk H
                clear H
                have p171 : 0 ≤ (x9_1 : Int) := of_decide_eq_true (by first | (with_reducible assumption) | assumption)
                have q171 : x9_1 < (l0.length : Int) := of_decide_eq_true (by first | (with_reducible assumption) | assumption)
                obtain ⟨ad171, e171, hx171_0, hx171_1, hx171_2, hx171_3⟩ := at_T43 HR0.out x9_1 p171 q171
                cases e171
                replace p171 := eq_true p171
                replace q171 := eq_true q171
                have p173 : 0 ≤ (x9_1 : Int) := of_decide_eq_true (by first | (with_reducible assumption) | assumption)
                have q173 : x9_1 < (l0.length : Int) := of_decide_eq_true (by first | (with_reducible assumption) | assumption)
                obtain ⟨ad173, e173, hx173_0, hx173_1, hx173_2, hx173_3⟩ := at_T43 HR0.out x9_1 p173 q173
                obtain rfl : ad171 = ad173 := (by injection e173)
                replace p173 := eq_true p173
                replace q173 := eq_true q173
                have p174 : 0 ≤ (x9_1 : Int) := of_decide_eq_true (by first | (with_reducible assumption) | assumption)
                have q174 : x9_1 < (l0.length : Int) := of_decide_eq_true (by first | (with_reducible assumption) | assumption)
                obtain ⟨ad174, e174, hx174_0, hx174_1, hx174_2, hx174_3⟩ := at_T43 HR0.out x9_1 p174 q174
                obtain rfl : ad171 = ad174 := (by injection e174)
                replace p174 := eq_true p174
                replace q174 := eq_true q174
                go_wp2
                go_roundg k1
                case measure => have := HK1.out; omega
                case rel => exact ⟨(wrap64 ((wrap64 (x7_1 + ((rd_T43 l0 x9_1).f2))) + ((rd_T43 l0 x9_1).f1))), (true), (wrap64 (x9_1 + 1)), (by first | rfl | (simp; done) | (simp [*]; done)), (by first | rfl | (simp; done) | (simp [*]; done)), (by first | rfl | (simp; done) | (simp [*]; done)), H', ⟨by have := HK1.out; omega⟩, by repeat (first | exact Drawn0.refl _ | apply Drawn0.step)⟩
            · rw [if_neg c7] at H
              have c7b0 : (((rd_T43 l0 x9_1).f0) == 1) = false := beq_eq_false_iff_ne.mpr c7
              have c7b1 : (((rd_T43 l0 x9_1).f0) != 1) = true := bne_iff_ne.mpr c7
              by_cases c9 : x8_1 = true
              · subst c9
                have H1 : (colophonref27_height.l0 k1 l0 a2 (wrap64 (x7_1 + ((rd_T43 l0 x9_1).f1))) true (wrap64 (x9_1 + 1))) = some r := by rw [if_pos rfl] at H; exact H
                clear H
                have H := H1
                clear H1
                have H' := Aside0.mk H
                clear H
                have p171 : 0 ≤ (x9_1 : Int) := of_decide_eq_true (by first | (with_reducible assumption) | assumption)
                have q171 : x9_1 < (l0.length : Int) := of_decide_eq_true (by first | (with_reducible assumption) | assumption)
                obtain ⟨ad171, e171, hx171_0, hx171_1, hx171_2, hx171_3⟩ := at_T43 HR0.out x9_1 p171 q171
                cases e171
                replace p171 := eq_true p171
                replace q171 := eq_true q171
                have p175 : 0 ≤ (x9_1 : Int) := of_decide_eq_true (by first | (with_reducible assumption) | assumption)
                have q175 : x9_1 < (l0.length : Int) := of_decide_eq_true (by first | (with_reducible assumption) | assumption)
                obtain ⟨ad175, e175, hx175_0, hx175_1, hx175_2, hx175_3⟩ := at_T43 HR0.out x9_1 p175 q175
                obtain rfl : ad171 = ad175 := (by injection e175)
                replace p175 := eq_true p175
                replace q175 := eq_true q175
                go_wp2
                go_roundg k1
                case measure => have := HK1.out; omega
                case rel => exact ⟨(wrap64 (x7_1 + ((rd_T43 l0 x9_1).f1))), (true), (wrap64 (x9_1 + 1)), (by first | rfl | (simp; done) | (simp [*]; done)), (by first | rfl | (simp; done) | (simp [*]; done)), (by first | rfl | (simp; done) | (simp [*]; done)), H', ⟨by have := HK1.out; omega⟩, by repeat (first | exact Drawn0.refl _ | apply Drawn0.step)⟩
              · replace c9 := Bool.eq_false_iff.mpr c9
                subst c9
                have H1 : (colophonref27_height.l0 k1 l0 a2 x7_1 false (wrap64 (x9_1 + 1))) = some r := by rw [if_neg (show ¬ (false = true) by decide)] at H; exact H
                clear H
                have H := H1
                clear H1
                have H' := Aside0.mk H
                clear H
                have p171 : 0 ≤ (x9_1 : Int) := of_decide_eq_true (by first | (with_reducible assumption) | assumption)
                have q171 : x9_1 < (l0.length : Int) := of_decide_eq_true (by first | (with_reducible assumption) | assumption)
                obtain ⟨ad171, e171, hx171_0, hx171_1, hx171_2, hx171_3⟩ := at_T43 HR0.out x9_1 p171 q171
                cases e171
                replace p171 := eq_true p171
                replace q171 := eq_true q171
                go_wp2
                go_roundg k1
                case measure => have := HK1.out; omega
                case rel => exact ⟨(x7_1), (false), (wrap64 (x9_1 + 1)), (by first | rfl | (simp; done) | (simp [*]; done)), (by first | rfl | (simp; done) | (simp [*]; done)), (by first | rfl | (simp; done) | (simp [*]; done)), H', ⟨by have := HK1.out; omega⟩, by repeat (first | exact Drawn0.refl _ | apply Drawn0.step)⟩
          · rw [if_neg c6] at H
            exact absurd H (by simp)
        · rw [if_neg c5] at H
          exact absurd H (by simp)
      · rw [if_neg c4] at H
        have c4b0 : decide (x9_1 < a2) = false := decide_eq_false c4
        clear c4
        obtain rfl := Option.some.inj H
        go_wp2
        go_ret
        exact ⟨by first | rfl | (simp; done) | (simp [*]; done), by repeat (first | exact Drawn0.refl _ | apply Drawn0.step)⟩

/-! ### colophonref27_cost: function 41 -/
def colophonref27_cost.l0 : Nat → List (S43) → Int → Int → Int → Int → Option (Int × Bool)
  | 0, _, _, _, _, _ => none
  | k + 1, x0, x1, x2, x3, x10 => if x10 < x2 then (if 0 ≤ x10 then (if x10 < (x0.length : Int) then ((colophonref27_forced.f ((rd_T43 x0 x10).f0) ((rd_T43 x0 x10).f1) ((rd_T43 x0 x10).f2) ((rd_T43 x0 x10).f3)).bind fun t177 => (if t177 = true then (some (0, false)) else (colophonref27_cost.l0 k x0 x1 x2 x3 (wrap64 (x10 + 1))))) else (none)) else (none)) else ((colophonref27_height.f k x0 x1 x2).bind fun t178 => (if t178 > x3 then (some (0, false)) else (if 0 ≤ x2 then (if x2 < (x0.length : Int) then ((colophonref27_forced.f ((rd_T43 x0 x2).f0) ((rd_T43 x0 x2).f1) ((rd_T43 x0 x2).f2) ((rd_T43 x0 x2).f3)).bind fun t180 => (if t180 = true then (some (0, true)) else (if x3 = 0 then (none) else (some (wrap64 ((wrap64 ((wrap64 (Int.tdiv (wrap64 (100 * (wrap64 (x3 - t178)))) x3)) * (wrap64 (Int.tdiv (wrap64 (100 * (wrap64 (x3 - t178)))) x3)))) + ((rd_T43 x0 x2).f3)), true))))) else (none)) else (none))))
def colophonref27_cost.f (k : Nat) (l0 : List (S43)) (a1 : Int) (a2 : Int) (a3 : Int) : Option (Int × Bool) := colophonref27_cost.l0 k l0 a1 a2 a3 (wrap64 (a1 + 1))
theorem colophonref27_cost.mono_l : ∀ k, (∀ y0 y1 y2 y3 y4, LeO (colophonref27_cost.l0 k y0 y1 y2 y3 y4) (colophonref27_cost.l0 (k + 1) y0 y1 y2 y3 y4))
  | 0 => fun _ _ _ _ _ r h => by simp [colophonref27_cost.l0] at h
  | k + 1 => by
    have ih0 := colophonref27_cost.mono_l k
    · intro y0 y1 y2 y3 y4
      unfold colophonref27_cost.l0
      repeat' first
      | (with_reducible exact ih0 _ _ _ _ _)
      | (with_reducible exact colophonref27_height.mono _ _ _ _)
      | (with_reducible exact LeO.refl _)
      | (with_reducible exact LeO.none _)
      | (with_reducible refine LeO.ite ?_ ?_)
      | (with_reducible refine LeO.bind ?_ (fun _ => ?_))
      | exact ih0 _ _ _ _ _
      | exact colophonref27_height.mono _ _ _ _
      | exact LeO.none _
      | refine LeO.ite ?_ ?_
      | refine LeO.bind ?_ (fun _ => ?_)
theorem colophonref27_cost.mono : ∀ a0 a1 a2 a3 k, LeO (colophonref27_cost.f k a0 a1 a2 a3) (colophonref27_cost.f (k + 1) a0 a1 a2 a3) := by
  intro a0 a1 a2 a3 k
  have ih0 := colophonref27_cost.mono_l k
  unfold colophonref27_cost.f
  repeat' first
      | (with_reducible exact ih0 _ _ _ _ _)
      | (with_reducible exact colophonref27_height.mono _ _ _ _)
      | (with_reducible exact LeO.refl _)
      | (with_reducible exact LeO.none _)
      | (with_reducible refine LeO.ite ?_ ?_)
      | (with_reducible refine LeO.bind ?_ (fun _ => ?_))
      | exact ih0 _ _ _ _ _
      | exact colophonref27_height.mono _ _ _ _
      | exact LeO.none _
      | refine LeO.ite ?_ ?_
      | refine LeO.bind ?_ (fun _ => ?_)
set_option maxHeartbeats 8000000 in
set_option maxRecDepth 100000 in
theorem colophonref27_cost.calls (k : Nat) (A0 : Option Addr) (c0 : Nat) (l0 : List (S43)) (a1 : Int) (a2 : Int) (a3 : Int) (r1 : Int) (r2 : Bool) (w : World) (hr0 : Kd.C k43 w A0 l0.length l0) (hc0 : l0.length ≤ c0) (h : colophonref27_cost.f k l0 a1 a2 a3 = some (r1, r2)) :
    Calls Try.prog 41 #[.slice A0 l0.length c0, .int .i64 a1, .int .i64 a2, .int .i64 a3] w fun e w' => e = .returned (.tuple #[.int .i64 r1, .bool r2]) ∧ Below w.heap.size w w' := by
  have hu43 := Try.underlying43
  have HR0 := Aside0.mk hr0
  have HC0 := Aside0.mk hc0
  clear hr0 hc0
  have HB := Aside0.mk (Below.refl w.heap.size w)
  have H : (colophonref27_cost.l0 k l0 a1 a2 a3 (wrap64 (a1 + 1))) = some (r1, r2) := h
  clear h
  have H' := Aside0.mk H
  clear H
  go_enter Try.func41, Try.ntmps41
  go_wp2
  go_loopg [10] k (fun kq v10 w' => ∃ (x10_1 : Int), v10 = .int .i64 x10_1 ∧ Aside0 (colophonref27_cost.l0 kq l0 a1 a2 a3 x10_1 = some (r1, r2)) ∧ Aside0 (kq ≤ k) ∧ Aside0 (Below w.heap.size w w'))
  case atStart => exact ⟨(wrap64 (a1 + 1)), (by first | rfl | (simp; done) | (simp [*]; done)), H', ⟨Nat.le_refl _⟩, ⟨by repeat (first | (with_reducible first | exact HB.out | apply below_alloc | apply pw_below_drewN | apply below_drew1) | exact HB.out)⟩⟩
  case round =>
    clear H'
    try clear p2
    try clear c4
    obtain ⟨x10_1, rfl, HA, HK1, HB⟩ := hrel
    cases gk with
    | zero => exact absurd HA.out (by simp [colophonref27_cost.l0])
    | succ k1 =>
      have H := HA.out
      clear HA
      simp only [colophonref27_cost.l0] at H
      by_cases c5 : x10_1 < a2
      · rw [if_pos c5] at H
        have c5b0 : decide (x10_1 < a2) = true := decide_eq_true c5
        clear c5
        by_cases c6 : 0 ≤ x10_1
        · rw [if_pos c6] at H
          have c6b0 : decide (0 ≤ x10_1) = true := decide_eq_true c6
          clear c6
          by_cases c7 : x10_1 < (l0.length : Int)
          · rw [if_pos c7] at H
            have c7b0 : decide (x10_1 < (l0.length : Int)) = true := decide_eq_true c7
            clear c7
            replace H := Option.bind_eq_some_iff.mp H
            obtain ⟨t177, A80, H⟩ := H
            replace H : (if t177 = true then (some (0, false)) else (colophonref27_cost.l0 k1 l0 a1 a2 a3 (wrap64 (x10_1 + 1)))) = some (r1, r2) := H
            have A8 := Aside0.mk A80
            clear A80
            by_cases c9 : t177 = true
            · subst c9
              have H1 : (some (0, false)) = some (r1, r2) := by rw [if_pos rfl] at H; exact H
              clear H
              have H := H1
              clear H1
              simp only [Option.some.injEq, Prod.mk.injEq] at H
              obtain ⟨rfl, rfl⟩ := H
              have p176 : 0 ≤ (x10_1 : Int) := of_decide_eq_true (by first | (with_reducible assumption) | assumption)
              have q176 : x10_1 < (l0.length : Int) := of_decide_eq_true (by first | (with_reducible assumption) | assumption)
              obtain ⟨ad176, e176, hx176_0, hx176_1, hx176_2, hx176_3⟩ := at_T43 HR0.out x10_1 p176 q176
              cases e176
              replace hx176_0 := (HB.out.cell (World.block_lt_of_cell? w _ hx176_0)).trans hx176_0
              replace hx176_1 := (HB.out.cell (World.block_lt_of_cell? w _ hx176_1)).trans hx176_1
              replace hx176_2 := (HB.out.cell (World.block_lt_of_cell? w _ hx176_2)).trans hx176_2
              replace hx176_3 := (HB.out.cell (World.block_lt_of_cell? w _ hx176_3)).trans hx176_3
              replace p176 := eq_true p176
              replace q176 := eq_true q176
              go_wp2_with (first | ((with_reducible refine gate_callee (f := 42) rfl ?_); refine goesL_ (some 24) rfl rfl Try.func42 (by kernel_rfl) rfl #[.agg #[.int .i64 ((rd_T43 l0 x10_1).f0), .int .i64 ((rd_T43 l0 x10_1).f1), .int .i64 ((rd_T43 l0 x10_1).f2), .int .i64 ((rd_T43 l0 x10_1).f3)]] rfl (by (try simp only [List.map_toArray, List.map_cons, List.map_nil]); first | done | rfl | (simp only [List.length_drop, List.length_take]; rfl)) ?_; (with_reducible refine (colophonref27_forced.calls ((rd_T43 l0 x10_1).f0) ((rd_T43 l0 x10_1).f1) ((rd_T43 l0 x10_1).f2) ((rd_T43 l0 x10_1).f3) true _ A8.out).mono ?_); rintro e w10 ⟨rfl, hb⟩; refine ⟨_, rfl, ?_⟩; have n0_ := Aside0.mk (below_step (by repeat (first | (with_reducible first | exact HB.out | apply below_alloc | apply pw_below_drewN | apply below_drew1) | exact HB.out)) hb); clear HB; have HB := n0_; clear n0_; (try clear hb); (try clear hb2); (try clear hk); (try clear hi)))
              go_ret2
              exact ⟨by first | rfl | (simp [errW_none, errW_some] <;> rfl) | (simp [*, errW_none, errW_some] <;> rfl), by repeat (first | (with_reducible first | exact HB.out | apply below_alloc | apply pw_below_drewN | apply below_drew1) | exact HB.out)⟩
            · replace c9 := Bool.eq_false_iff.mpr c9
              subst c9
              have H1 : (colophonref27_cost.l0 k1 l0 a1 a2 a3 (wrap64 (x10_1 + 1))) = some (r1, r2) := by rw [if_neg (show ¬ (false = true) by decide)] at H; exact H
              clear H
              have H := H1
              clear H1
              have H' := Aside0.mk H
              clear H
              have p176 : 0 ≤ (x10_1 : Int) := of_decide_eq_true (by first | (with_reducible assumption) | assumption)
              have q176 : x10_1 < (l0.length : Int) := of_decide_eq_true (by first | (with_reducible assumption) | assumption)
              obtain ⟨ad176, e176, hx176_0, hx176_1, hx176_2, hx176_3⟩ := at_T43 HR0.out x10_1 p176 q176
              cases e176
              replace hx176_0 := (HB.out.cell (World.block_lt_of_cell? w _ hx176_0)).trans hx176_0
              replace hx176_1 := (HB.out.cell (World.block_lt_of_cell? w _ hx176_1)).trans hx176_1
              replace hx176_2 := (HB.out.cell (World.block_lt_of_cell? w _ hx176_2)).trans hx176_2
              replace hx176_3 := (HB.out.cell (World.block_lt_of_cell? w _ hx176_3)).trans hx176_3
              replace p176 := eq_true p176
              replace q176 := eq_true q176
              go_wp2_with (first | ((with_reducible refine gate_callee (f := 42) rfl ?_); refine goesL_ (some 24) rfl rfl Try.func42 (by kernel_rfl) rfl #[.agg #[.int .i64 ((rd_T43 l0 x10_1).f0), .int .i64 ((rd_T43 l0 x10_1).f1), .int .i64 ((rd_T43 l0 x10_1).f2), .int .i64 ((rd_T43 l0 x10_1).f3)]] rfl (by (try simp only [List.map_toArray, List.map_cons, List.map_nil]); first | done | rfl | (simp only [List.length_drop, List.length_take]; rfl)) ?_; (with_reducible refine (colophonref27_forced.calls ((rd_T43 l0 x10_1).f0) ((rd_T43 l0 x10_1).f1) ((rd_T43 l0 x10_1).f2) ((rd_T43 l0 x10_1).f3) false _ A8.out).mono ?_); rintro e w11 ⟨rfl, hb⟩; refine ⟨_, rfl, ?_⟩; have n0_ := Aside0.mk (below_step (by repeat (first | (with_reducible first | exact HB.out | apply below_alloc | apply pw_below_drewN | apply below_drew1) | exact HB.out)) hb); clear HB; have HB := n0_; clear n0_; (try clear hb); (try clear hb2); (try clear hk); (try clear hi)))
              go_roundg k1
              case measure => have := HK1.out; omega
              case rel => exact ⟨(wrap64 (x10_1 + 1)), (by first | rfl | (simp; done) | (simp [*]; done)), H', ⟨by have := HK1.out; omega⟩, ⟨by repeat (first | (with_reducible first | exact HB.out | apply below_alloc | apply pw_below_drewN | apply below_drew1) | exact HB.out)⟩⟩
          · rw [if_neg c7] at H
            exact absurd H (by simp)
        · rw [if_neg c6] at H
          exact absurd H (by simp)
      · rw [if_neg c5] at H
        have c5b0 : decide (x10_1 < a2) = false := decide_eq_false c5
        clear c5
        replace H := Option.bind_eq_some_iff.mp H
        obtain ⟨t178, A120, H⟩ := H
        replace H : (if t178 > a3 then (some (0, false)) else (if 0 ≤ a2 then (if a2 < (l0.length : Int) then ((colophonref27_forced.f ((rd_T43 l0 a2).f0) ((rd_T43 l0 a2).f1) ((rd_T43 l0 a2).f2) ((rd_T43 l0 a2).f3)).bind fun t180 => (if t180 = true then (some (0, true)) else (if a3 = 0 then (none) else (some (wrap64 ((wrap64 ((wrap64 (Int.tdiv (wrap64 (100 * (wrap64 (a3 - t178)))) a3)) * (wrap64 (Int.tdiv (wrap64 (100 * (wrap64 (a3 - t178)))) a3)))) + ((rd_T43 l0 a2).f3)), true))))) else (none)) else (none))) = some (r1, r2) := H
        have A12 := Aside0.mk A120
        clear A120
        by_cases c13 : t178 > a3
        · rw [if_pos c13] at H
          have c13b0 : decide (a3 < t178) = true := decide_eq_true c13
          clear c13
          simp only [Option.some.injEq, Prod.mk.injEq] at H
          obtain ⟨rfl, rfl⟩ := H
          go_wp2_with (first | ((with_reducible refine gate_callee (f := 46) rfl ?_); refine goesL_ (some 28) rfl rfl Try.func46 (by kernel_rfl) rfl #[.slice A0 l0.length c0, .int .i64 a1, .int .i64 a2] rfl (by (try simp only [List.map_toArray, List.map_cons, List.map_nil]); first | done | rfl | (simp only [List.length_drop, List.length_take]; rfl)) ?_; (with_reducible refine (colophonref27_height.calls k1 _ _ l0 a1 a2 t178 _ ?side1 ?side2 A12.out).mono ?_); (case side1 => repeat (first | exact (Kd.C_below HR0.out HB.out) | (with_reducible refine Kd.C_alloc ?_ _) | (with_reducible refine Kd.C_drewN ?_ _) | (with_reducible refine Kd.C_drew ?_))); (case side2 => exact HC0.out); rintro e w' ⟨rfl, ⟨nd, rfl⟩⟩; refine ⟨_, rfl, ?_⟩))
          go_ret2
          exact ⟨by first | rfl | (simp [errW_none, errW_some] <;> rfl) | (simp [*, errW_none, errW_some] <;> rfl), by repeat (first | (with_reducible first | exact HB.out | apply below_alloc | apply pw_below_drewN | apply below_drew1) | exact HB.out)⟩
        · rw [if_neg c13] at H
          have c13b0 : decide (a3 < t178) = false := decide_eq_false c13
          clear c13
          by_cases c14 : 0 ≤ a2
          · rw [if_pos c14] at H
            have c14b0 : decide (0 ≤ a2) = true := decide_eq_true c14
            clear c14
            by_cases c15 : a2 < (l0.length : Int)
            · rw [if_pos c15] at H
              have c15b0 : decide (a2 < (l0.length : Int)) = true := decide_eq_true c15
              clear c15
              replace H := Option.bind_eq_some_iff.mp H
              obtain ⟨t180, A160, H⟩ := H
              replace H : (if t180 = true then (some (0, true)) else (if a3 = 0 then (none) else (some (wrap64 ((wrap64 ((wrap64 (Int.tdiv (wrap64 (100 * (wrap64 (a3 - t178)))) a3)) * (wrap64 (Int.tdiv (wrap64 (100 * (wrap64 (a3 - t178)))) a3)))) + ((rd_T43 l0 a2).f3)), true)))) = some (r1, r2) := H
              have A16 := Aside0.mk A160
              clear A160
              by_cases c17 : t180 = true
              · subst c17
                have H1 : (some (0, true)) = some (r1, r2) := by rw [if_pos rfl] at H; exact H
                clear H
                have H := H1
                clear H1
                simp only [Option.some.injEq, Prod.mk.injEq] at H
                obtain ⟨rfl, rfl⟩ := H
                go_wp2_with (first | ((with_reducible refine gate_callee (f := 46) rfl ?_); refine goesL_ (some 28) rfl rfl Try.func46 (by kernel_rfl) rfl #[.slice A0 l0.length c0, .int .i64 a1, .int .i64 a2] rfl (by (try simp only [List.map_toArray, List.map_cons, List.map_nil]); first | done | rfl | (simp only [List.length_drop, List.length_take]; rfl)) ?_; (with_reducible refine (colophonref27_height.calls k1 _ _ l0 a1 a2 t178 _ ?side1 ?side2 A12.out).mono ?_); (case side1 => repeat (first | exact (Kd.C_below HR0.out HB.out) | (with_reducible refine Kd.C_alloc ?_ _) | (with_reducible refine Kd.C_drewN ?_ _) | (with_reducible refine Kd.C_drew ?_))); (case side2 => exact HC0.out); rintro e w' ⟨rfl, ⟨nd, rfl⟩⟩; refine ⟨_, rfl, ?_⟩; have p179 : 0 ≤ (a2 : Int) := of_decide_eq_true (by first | (with_reducible assumption) | assumption); have q179 : a2 < (l0.length : Int) := of_decide_eq_true (by first | (with_reducible assumption) | assumption); obtain ⟨ad179, e179, hx179_0, hx179_1, hx179_2, hx179_3⟩ := at_T43 HR0.out a2 p179 q179; cases e179; replace hx179_0 := (HB.out.cell (World.block_lt_of_cell? w _ hx179_0)).trans hx179_0; replace hx179_1 := (HB.out.cell (World.block_lt_of_cell? w _ hx179_1)).trans hx179_1; replace hx179_2 := (HB.out.cell (World.block_lt_of_cell? w _ hx179_2)).trans hx179_2; replace hx179_3 := (HB.out.cell (World.block_lt_of_cell? w _ hx179_3)).trans hx179_3; replace p179 := eq_true p179; replace q179 := eq_true q179) | ((with_reducible refine gate_callee (f := 42) rfl ?_); refine goesL_ (some 36) rfl rfl Try.func42 (by kernel_rfl) rfl #[.agg #[.int .i64 ((rd_T43 l0 a2).f0), .int .i64 ((rd_T43 l0 a2).f1), .int .i64 ((rd_T43 l0 a2).f2), .int .i64 ((rd_T43 l0 a2).f3)]] rfl (by (try simp only [List.map_toArray, List.map_cons, List.map_nil]); first | done | rfl | (simp only [List.length_drop, List.length_take]; rfl)) ?_; (with_reducible refine (colophonref27_forced.calls ((rd_T43 l0 a2).f0) ((rd_T43 l0 a2).f1) ((rd_T43 l0 a2).f2) ((rd_T43 l0 a2).f3) true _ A16.out).mono ?_); rintro e w18 ⟨rfl, hb⟩; refine ⟨_, rfl, ?_⟩; have n0_ := Aside0.mk (below_step (by repeat (first | (with_reducible first | exact HB.out | apply below_alloc | apply pw_below_drewN | apply below_drew1) | exact HB.out)) hb); clear HB; have HB := n0_; clear n0_; (try clear hb); (try clear hb2); (try clear hk); (try clear hi)))
                go_ret2
                exact ⟨by first | rfl | (simp [errW_none, errW_some] <;> rfl) | (simp [*, errW_none, errW_some] <;> rfl), by repeat (first | (with_reducible first | exact HB.out | apply below_alloc | apply pw_below_drewN | apply below_drew1) | exact HB.out)⟩
              · replace c17 := Bool.eq_false_iff.mpr c17
                subst c17
                have H1 : (if a3 = 0 then (none) else (some (wrap64 ((wrap64 ((wrap64 (Int.tdiv (wrap64 (100 * (wrap64 (a3 - t178)))) a3)) * (wrap64 (Int.tdiv (wrap64 (100 * (wrap64 (a3 - t178)))) a3)))) + ((rd_T43 l0 a2).f3)), true))) = some (r1, r2) := by rw [if_neg (show ¬ (false = true) by decide)] at H; exact H
                clear H
                have H := H1
                clear H1
                by_cases c19 : a3 = 0
                · rw [if_pos c19] at H
                  exact absurd H (by simp)
                · rw [if_neg c19] at H
                  have c19b0 : (a3 == 0) = false := beq_eq_false_iff_ne.mpr c19
                  have c19b1 : (a3 != 0) = true := bne_iff_ne.mpr c19
                  simp only [Option.some.injEq, Prod.mk.injEq] at H
                  obtain ⟨rfl, rfl⟩ := H
                  go_wp2_with (first | ((with_reducible refine gate_callee (f := 46) rfl ?_); refine goesL_ (some 28) rfl rfl Try.func46 (by kernel_rfl) rfl #[.slice A0 l0.length c0, .int .i64 a1, .int .i64 a2] rfl (by (try simp only [List.map_toArray, List.map_cons, List.map_nil]); first | done | rfl | (simp only [List.length_drop, List.length_take]; rfl)) ?_; (with_reducible refine (colophonref27_height.calls k1 _ _ l0 a1 a2 t178 _ ?side1 ?side2 A12.out).mono ?_); (case side1 => repeat (first | exact (Kd.C_below HR0.out HB.out) | (with_reducible refine Kd.C_alloc ?_ _) | (with_reducible refine Kd.C_drewN ?_ _) | (with_reducible refine Kd.C_drew ?_))); (case side2 => exact HC0.out); rintro e w' ⟨rfl, ⟨nd, rfl⟩⟩; refine ⟨_, rfl, ?_⟩; have p179 : 0 ≤ (a2 : Int) := of_decide_eq_true (by first | (with_reducible assumption) | assumption); have q179 : a2 < (l0.length : Int) := of_decide_eq_true (by first | (with_reducible assumption) | assumption); obtain ⟨ad179, e179, hx179_0, hx179_1, hx179_2, hx179_3⟩ := at_T43 HR0.out a2 p179 q179; cases e179; replace hx179_0 := (HB.out.cell (World.block_lt_of_cell? w _ hx179_0)).trans hx179_0; replace hx179_1 := (HB.out.cell (World.block_lt_of_cell? w _ hx179_1)).trans hx179_1; replace hx179_2 := (HB.out.cell (World.block_lt_of_cell? w _ hx179_2)).trans hx179_2; replace hx179_3 := (HB.out.cell (World.block_lt_of_cell? w _ hx179_3)).trans hx179_3; replace p179 := eq_true p179; replace q179 := eq_true q179) | ((with_reducible refine gate_callee (f := 42) rfl ?_); refine goesL_ (some 36) rfl rfl Try.func42 (by kernel_rfl) rfl #[.agg #[.int .i64 ((rd_T43 l0 a2).f0), .int .i64 ((rd_T43 l0 a2).f1), .int .i64 ((rd_T43 l0 a2).f2), .int .i64 ((rd_T43 l0 a2).f3)]] rfl (by (try simp only [List.map_toArray, List.map_cons, List.map_nil]); first | done | rfl | (simp only [List.length_drop, List.length_take]; rfl)) ?_; (with_reducible refine (colophonref27_forced.calls ((rd_T43 l0 a2).f0) ((rd_T43 l0 a2).f1) ((rd_T43 l0 a2).f2) ((rd_T43 l0 a2).f3) false _ A16.out).mono ?_); rintro e w20 ⟨rfl, hb⟩; refine ⟨_, rfl, ?_⟩; have n0_ := Aside0.mk (below_step (by repeat (first | (with_reducible first | exact HB.out | apply below_alloc | apply pw_below_drewN | apply below_drew1) | exact HB.out)) hb); clear HB; have HB := n0_; clear n0_; (try clear hb); (try clear hb2); (try clear hk); (try clear hi); have p181 : 0 ≤ (a2 : Int) := of_decide_eq_true (by first | (with_reducible assumption) | assumption); have q181 : a2 < (l0.length : Int) := of_decide_eq_true (by first | (with_reducible assumption) | assumption); obtain ⟨ad181, e181, hx181_0, hx181_1, hx181_2, hx181_3⟩ := at_T43 HR0.out a2 p181 q181; obtain rfl : ad179 = ad181 := (by injection e181); replace hx181_0 := (HB.out.cell (World.block_lt_of_cell? w _ hx181_0)).trans hx181_0; replace hx181_1 := (HB.out.cell (World.block_lt_of_cell? w _ hx181_1)).trans hx181_1; replace hx181_2 := (HB.out.cell (World.block_lt_of_cell? w _ hx181_2)).trans hx181_2; replace hx181_3 := (HB.out.cell (World.block_lt_of_cell? w _ hx181_3)).trans hx181_3; replace p181 := eq_true p181; replace q181 := eq_true q181))
                  go_ret2
                  exact ⟨by first | rfl | (simp [errW_none, errW_some] <;> rfl) | (simp [*, errW_none, errW_some] <;> rfl), by repeat (first | (with_reducible first | exact HB.out | apply below_alloc | apply pw_below_drewN | apply below_drew1) | exact HB.out)⟩
            · rw [if_neg c15] at H
              exact absurd H (by simp)
          · rw [if_neg c14] at H
            exact absurd H (by simp)

/-! ### colophonref27_legal: function 40 -/
def colophonref27_legal.f (l0 : List (S43)) (a1 : Int) : Option (Bool) := if a1 ≥ 0 then (if a1 < (l0.length : Int) then (if 0 ≤ a1 then (if ((rd_T43 l0 a1).f0) = 3 then (some (decide (((rd_T43 l0 a1).f3) < 10000))) else (some false)) else (none)) else (some false)) else (some false)
set_option maxHeartbeats 8000000 in
set_option maxRecDepth 100000 in
theorem colophonref27_legal.calls (A0 : Option Addr) (c0 : Nat) (l0 : List (S43)) (a1 : Int) (r : Bool) (w : World) (hr0 : Kd.C k43 w A0 l0.length l0) (hc0 : l0.length ≤ c0) (h : colophonref27_legal.f l0 a1 = some r) :
    Calls Try.prog 40 #[.slice A0 l0.length c0, .int .i64 a1] w fun e w' => e = .returned (.bool r) ∧ Drawn0 w w' := by
  have HR0 := Aside0.mk hr0
  have HC0 := Aside0.mk hc0
  clear hr0 hc0
  have H : (if a1 ≥ 0 then (if a1 < (l0.length : Int) then (if 0 ≤ a1 then (if ((rd_T43 l0 a1).f0) = 3 then (some (decide (((rd_T43 l0 a1).f3) < 10000))) else (some false)) else (none)) else (some false)) else (some false)) = some r := h
  clear h
  by_cases c3 : a1 ≥ 0
  · rw [if_pos c3] at H
    have c3b0 : decide (0 ≤ a1) = true := decide_eq_true c3
    clear c3
    by_cases c4 : a1 < (l0.length : Int)
    · rw [if_pos c4] at H
      have c4b0 : decide (a1 < (l0.length : Int)) = true := decide_eq_true c4
      clear c4
      by_cases c5 : 0 ≤ a1
      · rw [if_pos c5] at H
        have c5b0 : decide (0 ≤ a1) = true := decide_eq_true c5
        clear c5
        by_cases c6 : ((rd_T43 l0 a1).f0) = 3
        · rw [if_pos c6] at H
          have c6b0 : (((rd_T43 l0 a1).f0) == 3) = true := beq_iff_eq.mpr c6
          have c6b1 : (((rd_T43 l0 a1).f0) != 3) = false := bne_eq_false_iff_eq.mpr c6
          clear c6
          obtain rfl := Option.some.inj H
          have p182 : 0 ≤ (a1 : Int) := of_decide_eq_true (by first | (with_reducible assumption) | assumption)
          have q182 : a1 < (l0.length : Int) := of_decide_eq_true (by first | (with_reducible assumption) | assumption)
          obtain ⟨ad182, e182, hx182_0, hx182_1, hx182_2, hx182_3⟩ := at_T43 HR0.out a1 p182 q182
          cases e182
          replace p182 := eq_true p182
          replace q182 := eq_true q182
          have p183 : 0 ≤ (a1 : Int) := of_decide_eq_true (by first | (with_reducible assumption) | assumption)
          have q183 : a1 < (l0.length : Int) := of_decide_eq_true (by first | (with_reducible assumption) | assumption)
          obtain ⟨ad183, e183, hx183_0, hx183_1, hx183_2, hx183_3⟩ := at_T43 HR0.out a1 p183 q183
          obtain rfl : ad182 = ad183 := (by injection e183)
          replace p183 := eq_true p183
          replace q183 := eq_true q183
          go_enter Try.func40, Try.ntmps40
          go_wp2
          go_ret
          exact ⟨by first | rfl | (simp; done) | (simp [*]; done), by repeat (first | exact Drawn0.refl _ | apply Drawn0.step)⟩
        · rw [if_neg c6] at H
          have c6b0 : (((rd_T43 l0 a1).f0) == 3) = false := beq_eq_false_iff_ne.mpr c6
          have c6b1 : (((rd_T43 l0 a1).f0) != 3) = true := bne_iff_ne.mpr c6
          obtain rfl := Option.some.inj H
          have p182 : 0 ≤ (a1 : Int) := of_decide_eq_true (by first | (with_reducible assumption) | assumption)
          have q182 : a1 < (l0.length : Int) := of_decide_eq_true (by first | (with_reducible assumption) | assumption)
          obtain ⟨ad182, e182, hx182_0, hx182_1, hx182_2, hx182_3⟩ := at_T43 HR0.out a1 p182 q182
          cases e182
          replace p182 := eq_true p182
          replace q182 := eq_true q182
          go_enter Try.func40, Try.ntmps40
          go_wp2
          go_ret
          exact ⟨by first | rfl | (simp; done) | (simp [*]; done), by repeat (first | exact Drawn0.refl _ | apply Drawn0.step)⟩
      · rw [if_neg c5] at H
        exact absurd H (by simp)
    · rw [if_neg c4] at H
      have c4b0 : decide (a1 < (l0.length : Int)) = false := decide_eq_false c4
      clear c4
      obtain rfl := Option.some.inj H
      go_enter Try.func40, Try.ntmps40
      go_wp2
      go_ret
      exact ⟨by first | rfl | (simp; done) | (simp [*]; done), by repeat (first | exact Drawn0.refl _ | apply Drawn0.step)⟩
  · rw [if_neg c3] at H
    have c3b0 : decide (0 ≤ a1) = false := decide_eq_false c3
    clear c3
    obtain rfl := Option.some.inj H
    go_enter Try.func40, Try.ntmps40
    go_wp2
    go_ret
    exact ⟨by first | rfl | (simp; done) | (simp [*]; done), by repeat (first | exact Drawn0.refl _ | apply Drawn0.step)⟩

/-! ### colophonref27_page: function 45 -/
def colophonref27_page.f (l0 : List (S43)) (a1 : Int) (a2 : Int) : Option (Bool) := if a1 = (-1) then ((colophonref27_legal.f l0 a2).bind fun t184 => (if t184 = true then (some (decide (a2 > a1))) else (some false))) else ((colophonref27_legal.f l0 a1).bind fun t185 => (if t185 = true then ((colophonref27_legal.f l0 a2).bind fun t186 => (if t186 = true then (some (decide (a2 > a1))) else (some false))) else (some false)))
set_option maxHeartbeats 8000000 in
set_option maxRecDepth 100000 in
theorem colophonref27_page.calls (A0 : Option Addr) (c0 : Nat) (l0 : List (S43)) (a1 : Int) (a2 : Int) (r : Bool) (w : World) (hr0 : Kd.C k43 w A0 l0.length l0) (hc0 : l0.length ≤ c0) (h : colophonref27_page.f l0 a1 a2 = some r) :
    Calls Try.prog 45 #[.slice A0 l0.length c0, .int .i64 a1, .int .i64 a2] w fun e w' => e = .returned (.bool r) ∧ Drawn0 w w' := by
  have HR0 := Aside0.mk hr0
  have HC0 := Aside0.mk hc0
  clear hr0 hc0
  have H : (if a1 = (-1) then ((colophonref27_legal.f l0 a2).bind fun t184 => (if t184 = true then (some (decide (a2 > a1))) else (some false))) else ((colophonref27_legal.f l0 a1).bind fun t185 => (if t185 = true then ((colophonref27_legal.f l0 a2).bind fun t186 => (if t186 = true then (some (decide (a2 > a1))) else (some false))) else (some false)))) = some r := h
  clear h
  by_cases c4 : a1 = (-1)
  · rw [if_pos c4] at H
    have c4b0 : (a1 == (-1)) = true := beq_iff_eq.mpr c4
    have c4b1 : (a1 != (-1)) = false := bne_eq_false_iff_eq.mpr c4
    clear c4
    replace H := Option.bind_eq_some_iff.mp H
    obtain ⟨t184, A50, H⟩ := H
    replace H : (if t184 = true then (some (decide (a2 > a1))) else (some false)) = some r := H
    have A5 := Aside0.mk A50
    clear A50
    by_cases c6 : t184 = true
    · subst c6
      have H1 : (some (decide (a2 > a1))) = some r := by rw [if_pos rfl] at H; exact H
      clear H
      have H := H1
      clear H1
      obtain rfl := Option.some.inj H
      go_enter Try.func45, Try.ntmps45
      go_wp2_with (first | (go_at_call 40; (with_reducible refine (colophonref27_legal.calls _ _ l0 a2 true _ ?side1 ?side2 A5.out).mono ?_); (case side1 => repeat (first | exact HR0.out | (with_reducible refine Kd.C_alloc ?_ _) | (with_reducible refine Kd.C_drewN ?_ _) | (with_reducible refine Kd.C_drew ?_))); (case side2 => exact HC0.out); rintro e w' ⟨rfl, ⟨nd, rfl⟩⟩))
      go_ret
      exact ⟨by first | rfl | (simp; done) | (simp [*]; done), by repeat (first | exact Drawn0.refl _ | apply Drawn0.step)⟩
    · replace c6 := Bool.eq_false_iff.mpr c6
      subst c6
      have H1 : (some false) = some r := by rw [if_neg (show ¬ (false = true) by decide)] at H; exact H
      clear H
      have H := H1
      clear H1
      obtain rfl := Option.some.inj H
      go_enter Try.func45, Try.ntmps45
      go_wp2_with (first | (go_at_call 40; (with_reducible refine (colophonref27_legal.calls _ _ l0 a2 false _ ?side1 ?side2 A5.out).mono ?_); (case side1 => repeat (first | exact HR0.out | (with_reducible refine Kd.C_alloc ?_ _) | (with_reducible refine Kd.C_drewN ?_ _) | (with_reducible refine Kd.C_drew ?_))); (case side2 => exact HC0.out); rintro e w' ⟨rfl, ⟨nd, rfl⟩⟩))
      go_ret
      exact ⟨by first | rfl | (simp; done) | (simp [*]; done), by repeat (first | exact Drawn0.refl _ | apply Drawn0.step)⟩
  · rw [if_neg c4] at H
    have c4b0 : (a1 == (-1)) = false := beq_eq_false_iff_ne.mpr c4
    have c4b1 : (a1 != (-1)) = true := bne_iff_ne.mpr c4
    replace H := Option.bind_eq_some_iff.mp H
    obtain ⟨t185, A70, H⟩ := H
    replace H : (if t185 = true then ((colophonref27_legal.f l0 a2).bind fun t186 => (if t186 = true then (some (decide (a2 > a1))) else (some false))) else (some false)) = some r := H
    have A7 := Aside0.mk A70
    clear A70
    by_cases c8 : t185 = true
    · subst c8
      have H1 : ((colophonref27_legal.f l0 a2).bind fun t186 => (if t186 = true then (some (decide (a2 > a1))) else (some false))) = some r := by rw [if_pos rfl] at H; exact H
      clear H
      have H := H1
      clear H1
      replace H := Option.bind_eq_some_iff.mp H
      obtain ⟨t186, A90, H⟩ := H
      replace H : (if t186 = true then (some (decide (a2 > a1))) else (some false)) = some r := H
      have A9 := Aside0.mk A90
      clear A90
      by_cases c10 : t186 = true
      · subst c10
        have H1 : (some (decide (a2 > a1))) = some r := by rw [if_pos rfl] at H; exact H
        clear H
        have H := H1
        clear H1
        obtain rfl := Option.some.inj H
        go_enter Try.func45, Try.ntmps45
        go_wp2_with (first | (go_at_call 40; (with_reducible refine (colophonref27_legal.calls _ _ l0 a1 true _ ?side1 ?side2 A7.out).mono ?_); (case side1 => repeat (first | exact HR0.out | (with_reducible refine Kd.C_alloc ?_ _) | (with_reducible refine Kd.C_drewN ?_ _) | (with_reducible refine Kd.C_drew ?_))); (case side2 => exact HC0.out); rintro e w' ⟨rfl, ⟨nd, rfl⟩⟩) | (go_at_call 40; (with_reducible refine (colophonref27_legal.calls _ _ l0 a2 true _ ?side1 ?side2 A9.out).mono ?_); (case side1 => repeat (first | exact HR0.out | (with_reducible refine Kd.C_alloc ?_ _) | (with_reducible refine Kd.C_drewN ?_ _) | (with_reducible refine Kd.C_drew ?_))); (case side2 => exact HC0.out); rintro e w' ⟨rfl, ⟨nd, rfl⟩⟩))
        go_ret
        exact ⟨by first | rfl | (simp; done) | (simp [*]; done), by repeat (first | exact Drawn0.refl _ | apply Drawn0.step)⟩
      · replace c10 := Bool.eq_false_iff.mpr c10
        subst c10
        have H1 : (some false) = some r := by rw [if_neg (show ¬ (false = true) by decide)] at H; exact H
        clear H
        have H := H1
        clear H1
        obtain rfl := Option.some.inj H
        go_enter Try.func45, Try.ntmps45
        go_wp2_with (first | (go_at_call 40; (with_reducible refine (colophonref27_legal.calls _ _ l0 a1 true _ ?side1 ?side2 A7.out).mono ?_); (case side1 => repeat (first | exact HR0.out | (with_reducible refine Kd.C_alloc ?_ _) | (with_reducible refine Kd.C_drewN ?_ _) | (with_reducible refine Kd.C_drew ?_))); (case side2 => exact HC0.out); rintro e w' ⟨rfl, ⟨nd, rfl⟩⟩) | (go_at_call 40; (with_reducible refine (colophonref27_legal.calls _ _ l0 a2 false _ ?side1 ?side2 A9.out).mono ?_); (case side1 => repeat (first | exact HR0.out | (with_reducible refine Kd.C_alloc ?_ _) | (with_reducible refine Kd.C_drewN ?_ _) | (with_reducible refine Kd.C_drew ?_))); (case side2 => exact HC0.out); rintro e w' ⟨rfl, ⟨nd, rfl⟩⟩))
        go_ret
        exact ⟨by first | rfl | (simp; done) | (simp [*]; done), by repeat (first | exact Drawn0.refl _ | apply Drawn0.step)⟩
    · replace c8 := Bool.eq_false_iff.mpr c8
      subst c8
      have H1 : (some false) = some r := by rw [if_neg (show ¬ (false = true) by decide)] at H; exact H
      clear H
      have H := H1
      clear H1
      obtain rfl := Option.some.inj H
      go_enter Try.func45, Try.ntmps45
      go_wp2_with (first | (go_at_call 40; (with_reducible refine (colophonref27_legal.calls _ _ l0 a1 false _ ?side1 ?side2 A7.out).mono ?_); (case side1 => repeat (first | exact HR0.out | (with_reducible refine Kd.C_alloc ?_ _) | (with_reducible refine Kd.C_drewN ?_ _) | (with_reducible refine Kd.C_drew ?_))); (case side2 => exact HC0.out); rintro e w' ⟨rfl, ⟨nd, rfl⟩⟩))
      go_ret
      exact ⟨by first | rfl | (simp; done) | (simp [*]; done), by repeat (first | exact Drawn0.refl _ | apply Drawn0.step)⟩

end Go.Proofs.Ytogjeababinnlaa.PPagesCosts
