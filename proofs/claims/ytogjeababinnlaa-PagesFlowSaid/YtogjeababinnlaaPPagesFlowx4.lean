-- Written by a copy of the print that this session has turned (wip/tools/patchprint.py): arrays as records.
import Derived.Test.YtogjeababinnlaaPPagesFlowx0
import Derived.Test.YtogjeababinnlaaPPagesFlowx2
import Derived.Test.YtogjeababinnlaaPPagesFlowx3
namespace Go.Proofs.Ytogjeababinnlaa.PPagesFlow
open Go.RowKit Go.Proofs.YtogjeababinnlaaW.PrintWords Go.Proofs.YtogjeababinnlaaW.PrintLast Go.Proofs.YtogjeababinnlaaW.PrintMore
attribute [local go_sem] max2_int min2_int max_two min_two max_three min_three max_four min_four   -- for this text's walks alone
set_option linter.unusedVariables false
set_option linter.unusedSimpArgs false

/-! ### pages_Best: function 15 -/
/-- A way that is cheaper is taken. -/
def pages_Best.tk (X : List Int × List Int) (i : Nat) (b n : Int) : List Int × List Int :=
  if rd X.1 (i : Int) = 0 ∨ n < rd X.2 (i : Int) then (X.1.set i (wrap64 (b + 1)), X.2.set i n) else X
set_option maxHeartbeats 8000000 in
set_option maxRecDepth 100000 in
theorem pages_Best.take_calls (W w : World) (m p q b2 b3 r i : Nat) (x b n : Int) (X2 X3 : List Int) (hE : Pg.Env W w m p q b2 b3 r x X2 X3) (hx : wrap64 (x + 1) = (i : Int)) (hi : i < m) :
    Calls Try.prog 38 #[.int .i64 b, .int .i64 n, .pointer (some ⟨p, 0, none⟩), .pointer (some ⟨r, 0, none⟩), .pointer (some ⟨q, 0, none⟩)] w fun e w' => e = .returned (.tuple #[]) ∧ Pg.Env W w' m p q b2 b3 r x (pages_Best.tk (X2, X3) i b n).1 (pages_Best.tk (X2, X3) i b n).2 := by
  have HE := Aside0.mk hE
  obtain ⟨z2, z3, zr⟩ := hE.cells
  obtain ⟨e1, e2, e3, e4, e5, e6⟩ := hE.p2
  have y2 := hE.h2.cell (i : Int) (by omega) (by have := hE.l2; omega)
  have y3 := hE.h3.cell (i : Int) (by omega) (by have := hE.l3; omega)
  rw [Int.toNat_natCast] at y2 y3
  have f2 := hE.h2.frozen i
  have f3 := hE.h3.frozen i
  have d23 := hE.d23
  have d32 := Ne.symm d23
  have dr2 := hE.dr2
  have dr3 := hE.dr3
  have e1' := Ne.symm e1
  have e2' := Ne.symm e2
  have e3' := Ne.symm e3
  have e4' := Ne.symm e4
  have dr2' := Ne.symm dr2
  have dr3' := Ne.symm dr3
  have hxw : (IntKind.i64.wrap (x + 1)) = (i : Int) := (i64_w _).trans hx
  have p1 : ((i : Int) < (m : Int)) = True := eq_true (by omega)
  have p2 : (0 ≤ (i : Int)) = True := eq_true (by omega)
  have HI := Aside0.mk hi
  clear hE hx hi
  by_cases c1 : rd X2 (i : Int) = 0
  · have c1b : (rd X2 (i : Int) == 0) = true := beq_iff_eq.mpr c1
    have HC := Aside0.mk c1
    clear c1
    go_enter Try.func38, Try.ntmps38
    go_wp2
    go_region_held3 (fun w' => w'.cell? ⟨p, 0, none⟩ = some (.slice (some ⟨b2, 0, none⟩) m m) ∧ w'.cell? ⟨q, 0, none⟩ = some (.slice (some ⟨b3, 0, none⟩) m m) ∧ w'.cell? ⟨r, 0, none⟩ = some (.int .i64 x)) (simp [*, World.cell?_alloc_some, World.cell?_setCell_far, World.cell?_setCell_other]) (fail)
    go_wp2
    go_end0
    refine ⟨rfl, ?_⟩
    unfold pages_Best.tk
    rw [if_pos (.inl HC.out)]
    rw [i64_w]
    exact ((HE.out.set2 i (wrap64 (b + 1))).set3 i n).drew
  · have c1b : (rd X2 (i : Int) == 0) = false := beq_eq_false_iff_ne.mpr c1
    have HC := Aside0.mk c1
    clear c1
    by_cases c2 : n < rd X3 (i : Int)
    · have c2b : decide (n < rd X3 (i : Int)) = true := decide_eq_true c2
      have HC2 := Aside0.mk c2
      clear c2
      go_enter Try.func38, Try.ntmps38
      go_wp2
      go_region_held3 (fun w' => w'.cell? ⟨p, 0, none⟩ = some (.slice (some ⟨b2, 0, none⟩) m m) ∧ w'.cell? ⟨q, 0, none⟩ = some (.slice (some ⟨b3, 0, none⟩) m m) ∧ w'.cell? ⟨r, 0, none⟩ = some (.int .i64 x)) (simp [*, World.cell?_alloc_some, World.cell?_setCell_far, World.cell?_setCell_other]) (fail)
      go_wp2
      go_end0
      refine ⟨rfl, ?_⟩
      unfold pages_Best.tk
      rw [if_pos (.inr HC2.out)]
      rw [i64_w]
      exact ((HE.out.set2 i (wrap64 (b + 1))).set3 i n).drew
    · have c2b : decide (n < rd X3 (i : Int)) = false := decide_eq_false c2
      have HC2 := Aside0.mk c2
      clear c2
      go_enter Try.func38, Try.ntmps38
      go_wp2
      go_end0
      refine ⟨rfl, ?_⟩
      unfold pages_Best.tk
      rw [if_neg (fun h => h.elim (fun e => HC.out e) (fun e => Int.not_lt.2 HC2.out e))]
      exact HE.out
theorem pages_ready.M_ge : ∀ (l : List S43) (i : Nat), (i : Int) ≤ pages_ready.M l i ∧ pages_ready.M l i ≤ (i : Int) + (l.length : Int)
  | [], i => by simp [pages_ready.M]
  | x :: r, i => by
    unfold pages_ready.M
    have h := pages_ready.M_ge r (i + 1)
    split
    · simp
      omega
    · rw [List.length_cons]
      omega
def pages_Best.inner (l : List S43) (h : Int) (i : Nat) : Nat → Nat → List Int × List Int → Option (List Int × List Int)
  | 0, _, X => some X
  | c + 1, b, X => (pages_column_legal.f l (pages_ready.hs l) (pages_ready.fs l) (pages_ready.ms l) (b : Int)).bind fun t => if t = false then pages_Best.inner l h i c (b + 1) X else
    (pages_column_cost.f l (pages_ready.hs l) (pages_ready.fs l) (pages_ready.ms l) ((i : Int) - 1) (b : Int) h).bind fun r => if r.2 = false then pages_Best.inner l h i c (b + 1) X else
      if (b : Int) = (l.length : Int) - 1 then pages_Best.inner l h i c (b + 1) (pages_Best.tk X i (b : Int) r.1)
      else if b + 1 < l.length then (if 0 < rd X.1 ((b : Int) + 1) then pages_Best.inner l h i c (b + 1) (pages_Best.tk X i (b : Int) (wrap64 (r.1 + rd X.2 ((b : Int) + 1)))) else pages_Best.inner l h i c (b + 1) X)
      else none
def pages_Best.outer (l : List S43) (h : Int) : Nat → List Int × List Int → Option (List Int × List Int)
  | 0, X => some X
  | i + 1, X => (if 1 ≤ i then pages_column_legal.f l (pages_ready.hs l) (pages_ready.fs l) (pages_ready.ms l) ((i : Int) - 1) else some true).bind fun t => if t = false then pages_Best.outer l h i X else
    (pages_Best.inner l h i (rd (pages_ready.ms l) (i : Int) + 1 - (i : Int)).toNat i X).bind fun X => pages_Best.outer l h i X
/-- The breaks, one behind the other. -/
def pages_Best.path (X2 : List Int) (last : Int) : Nat → Int → List Int → Option (List Int)
  | 0, _, _ => none
  | k + 1, a, out => if a < last then (if 0 ≤ wrap64 (a + 1) then (if wrap64 (a + 1) < (X2.length : Int) then pages_Best.path X2 last k (wrap64 (rd X2 (wrap64 (a + 1)) - 1)) (out ++ [wrap64 (rd X2 (wrap64 (a + 1)) - 1)]) else none) else none) else some out
def pages_Best.f (k : Nat) (l0 : List (S43)) (a1 : Int) : Option (List Int × Int × Bool) :=
  (pages_Good.f k l0).bind fun t => if t = false then some ([], 0, false) else (pages_room.f a1).bind fun u => if u = false then some ([], 0, false) else
    if 1 ≤ l0.length ∧ l0.length ≤ 1024 then (pages_Best.outer l0 a1 l0.length (Pg.zeros l0.length, Pg.zeros l0.length)).bind fun X => if rd X.1 0 = 0 then some ([], 0, false) else
      (pages_Best.path X.1 ((l0.length : Int) - 1) (l0.length + 1) (-1) []).bind fun out => some (out, rd X.2 0, true)
    else none
theorem pages_Best.mono : ∀ a0 a1 k, LeO (pages_Best.f k a0 a1) (pages_Best.f (k + 1) a0 a1) := by
  intro a0 a1 k
  unfold pages_Best.f
  exact LeO.bind (pages_Good.mono _ _) (fun _ => LeO.refl _)
set_option maxHeartbeats 8000000 in
set_option maxRecDepth 100000 in
theorem pages_Best.calls (k : Nat) (A0 : Option Addr) (c0 : Nat) (l0 : List (S43)) (a1 : Int) (r1 : List Int) (r2 : Int) (r3 : Bool) (w : World) (hr0 : Kd.C k43 w A0 l0.length l0) (hc0 : l0.length ≤ c0) (h : pages_Best.f k l0 a1 = some (r1, r2, r3)) :
    Calls Try.prog 15 #[.slice A0 l0.length c0, .int .i64 a1] w fun e w' => ∃ v0_ : Value, e = .returned (.tuple #[v0_, .int .i64 r2, .bool r3]) ∧ Kd.R (Kd.int .i64) 3 w' w.heap.size (fun _ => True) v0_ r1 ∧ Below w.heap.size w w' := by
  have hu43 := Try.underlying43
  have HR0 := Aside0.mk hr0
  have HC0 := Aside0.mk hc0
  have HB := Aside0.mk (Below.refl w.heap.size w)
  clear hr0 hc0
  unfold pages_Best.f at h
  obtain ⟨t, A10, H⟩ := Option.bind_eq_some_iff.mp h
  clear h
  have A1 := Aside0.mk A10
  clear A10
  by_cases ct : t = false
  · subst ct
    rw [if_pos rfl] at H
    simp only [Option.some.injEq, Prod.mk.injEq] at H
    obtain ⟨rfl, rfl, rfl⟩ := H
    go_enter Try.func15, Try.ntmps15
    go_wp2_with (first | (go_at_call 29; (refine (pages_Good.calls k _ _ l0 false _ HR0.out HC0.out A1.out).mono ?_); rintro e w5 ⟨rfl, hb⟩; have n0_ := Aside0.mk (below_step HB.out hb); clear HB; have HB := n0_; clear n0_; clear hb))
    go_ret3
    exact ⟨_, rfl, Kd.R_nil _ _ _ _ _, HB.out⟩
  replace ct : t = true := by simpa using ct
  subst ct
  rw [if_neg (by decide)] at H
  obtain ⟨u, A20, H⟩ := Option.bind_eq_some_iff.mp H
  have A2 := Aside0.mk A20
  clear A20
  by_cases cu : u = false
  · subst cu
    rw [if_pos rfl] at H
    simp only [Option.some.injEq, Prod.mk.injEq] at H
    obtain ⟨rfl, rfl, rfl⟩ := H
    go_enter Try.func15, Try.ntmps15
    go_wp2_with (first | (go_at_call 29; (refine (pages_Good.calls k _ _ l0 true _ HR0.out HC0.out A1.out).mono ?_); rintro e w5 ⟨rfl, hb⟩; have n0_ := Aside0.mk (below_step HB.out hb); clear HB; have HB := n0_; clear n0_; clear hb) | (go_at_call 35; (refine (pages_room.calls a1 false _ A2.out).mono ?_); rintro e w6 ⟨rfl, ⟨nd, rfl⟩⟩))
    go_ret3
    exact ⟨_, rfl, Kd.R_nil _ _ _ _ _, by repeat (first | (with_reducible first | exact HB.out | apply below_alloc | apply pw_below_drewN | apply below_drew1) | exact HB.out)⟩
  replace cu : u = true := by simpa using cu
  subst cu
  rw [if_neg (by decide)] at H
  by_cases cn : 1 ≤ l0.length ∧ l0.length ≤ 1024
  rotate_left
  · rw [if_neg cn] at H
    exact absurd H (by simp)
  rw [if_pos cn] at H
  have HN := Aside0.mk cn
  have HH := Aside0.mk H
  clear H cn
  have hw0 : IntKind.i64.wrap ((l0.length : Int) - 1) = (l0.length : Int) - 1 := by have := HN.out; rw [IntKind.wrap_i64]; omega
  have hw1 : IntKind.i64.wrap ((l0.length : Int) - 1 + 1) = (l0.length : Int) := by have := HN.out; rw [IntKind.wrap_i64]; omega
  have hw2 : IntKind.i64.wrap (l0.length : Int) = (l0.length : Int) := by have := HN.out; rw [IntKind.wrap_i64]; omega
  go_enter Try.func15, Try.ntmps15
  go_upto_region 5 with (first | (go_at_call 29; (refine (pages_Good.calls k _ _ l0 true _ HR0.out HC0.out A1.out).mono ?_); rintro e w5 ⟨rfl, hb⟩; have n0_ := Aside0.mk (below_step HB.out hb); clear HB; have HB := n0_; clear n0_; clear hb) | (go_at_call 35; (refine (pages_room.calls a1 true _ A2.out).mono ?_); rintro e w6 ⟨rfl, ⟨nd, rfl⟩⟩; have HBd := Aside0.mk (pw_below_drewN HB.out nd)) | (go_at_call 36; (refine (pages_ready.calls _ _ l0 _ (Kd.C_below HR0.out HBd.out) HC0.out (Nat.le_trans HN.out.2 (by decide))).mono ?_); rintro e w7 ⟨g, rfl, hcol, hb⟩; have HCOL := Aside0.mk hcol; have HBW := Aside0.mk (below_step HBd.out hb); clear HB HBd hcol hb))
  have hmk : ∀ w : World, (Instr.makeSlice 26 (.int .i64 (l0.length : Int)) (.int .i64 (l0.length : Int))).run Try.prog w = .ok (.slice (some ⟨w.heap.size, 0, none⟩) l0.length l0.length) (w.alloc (.cells ((Pg.zeros l0.length).map (Value.int .i64)).toArray 3)) := by
    intro w
    obtain ⟨i, hi, he⟩ := Option.map_eq_some_iff.1 info3
    simp only [Prod.mk.injEq] at he
    obtain ⟨e1, e2, e3⟩ := he
    have hn := HN.out
    have := run_make (P := Try.prog) w 26 3 i (.int .i64 0) Try.underlying26 hi e1 .i64 .i64 (l0.length : Int) (l0.length : Int) (by omega) (by omega) (by rw [e3]; omega) (by omega)
    rw [this, e2, Pg.made_zeros]
    have e4 : ((l0.length : Int)).toNat = l0.length := by omega
    rw [e4]
  go_cut [9, 10] (fun v9 v10 wc => ∃ (p q b2 b3 : Nat), v9 = .pointer (some ⟨p, 0, none⟩) ∧ v10 = .pointer (some ⟨q, 0, none⟩) ∧ Aside0 (Pg.Env0 w7 wc l0.length p q b2 b3 (Pg.zeros l0.length) (Pg.zeros l0.length)))
  case first =>
    go_region
    all_goals (go_wp2; go_meet; case rel => first | exact ⟨_, _, _, _, rfl, rfl, ⟨Pg.Env0.start w7 l0.length _ _ _ _ 0 1 2 3 (by decide) rfl rfl rfl rfl⟩⟩ | exact ⟨_, _, _, _, rfl, rfl, ⟨Pg.Env0.start w7 l0.length _ _ _ _ 0 1 3 2 (by decide) rfl rfl rfl rfl⟩⟩ | exact ⟨_, _, _, _, rfl, rfl, ⟨Pg.Env0.start w7 l0.length _ _ _ _ 0 2 1 3 (by decide) rfl rfl rfl rfl⟩⟩ | exact ⟨_, _, _, _, rfl, rfl, ⟨Pg.Env0.start w7 l0.length _ _ _ _ 0 2 3 1 (by decide) rfl rfl rfl rfl⟩⟩ | exact ⟨_, _, _, _, rfl, rfl, ⟨Pg.Env0.start w7 l0.length _ _ _ _ 0 3 1 2 (by decide) rfl rfl rfl rfl⟩⟩ | exact ⟨_, _, _, _, rfl, rfl, ⟨Pg.Env0.start w7 l0.length _ _ _ _ 0 3 2 1 (by decide) rfl rfl rfl rfl⟩⟩ | exact ⟨_, _, _, _, rfl, rfl, ⟨Pg.Env0.start w7 l0.length _ _ _ _ 1 0 2 3 (by decide) rfl rfl rfl rfl⟩⟩ | exact ⟨_, _, _, _, rfl, rfl, ⟨Pg.Env0.start w7 l0.length _ _ _ _ 1 0 3 2 (by decide) rfl rfl rfl rfl⟩⟩ | exact ⟨_, _, _, _, rfl, rfl, ⟨Pg.Env0.start w7 l0.length _ _ _ _ 1 2 0 3 (by decide) rfl rfl rfl rfl⟩⟩ | exact ⟨_, _, _, _, rfl, rfl, ⟨Pg.Env0.start w7 l0.length _ _ _ _ 1 2 3 0 (by decide) rfl rfl rfl rfl⟩⟩ | exact ⟨_, _, _, _, rfl, rfl, ⟨Pg.Env0.start w7 l0.length _ _ _ _ 1 3 0 2 (by decide) rfl rfl rfl rfl⟩⟩ | exact ⟨_, _, _, _, rfl, rfl, ⟨Pg.Env0.start w7 l0.length _ _ _ _ 1 3 2 0 (by decide) rfl rfl rfl rfl⟩⟩ | exact ⟨_, _, _, _, rfl, rfl, ⟨Pg.Env0.start w7 l0.length _ _ _ _ 2 0 1 3 (by decide) rfl rfl rfl rfl⟩⟩ | exact ⟨_, _, _, _, rfl, rfl, ⟨Pg.Env0.start w7 l0.length _ _ _ _ 2 0 3 1 (by decide) rfl rfl rfl rfl⟩⟩ | exact ⟨_, _, _, _, rfl, rfl, ⟨Pg.Env0.start w7 l0.length _ _ _ _ 2 1 0 3 (by decide) rfl rfl rfl rfl⟩⟩ | exact ⟨_, _, _, _, rfl, rfl, ⟨Pg.Env0.start w7 l0.length _ _ _ _ 2 1 3 0 (by decide) rfl rfl rfl rfl⟩⟩ | exact ⟨_, _, _, _, rfl, rfl, ⟨Pg.Env0.start w7 l0.length _ _ _ _ 2 3 0 1 (by decide) rfl rfl rfl rfl⟩⟩ | exact ⟨_, _, _, _, rfl, rfl, ⟨Pg.Env0.start w7 l0.length _ _ _ _ 2 3 1 0 (by decide) rfl rfl rfl rfl⟩⟩ | exact ⟨_, _, _, _, rfl, rfl, ⟨Pg.Env0.start w7 l0.length _ _ _ _ 3 0 1 2 (by decide) rfl rfl rfl rfl⟩⟩ | exact ⟨_, _, _, _, rfl, rfl, ⟨Pg.Env0.start w7 l0.length _ _ _ _ 3 0 2 1 (by decide) rfl rfl rfl rfl⟩⟩ | exact ⟨_, _, _, _, rfl, rfl, ⟨Pg.Env0.start w7 l0.length _ _ _ _ 3 1 0 2 (by decide) rfl rfl rfl rfl⟩⟩ | exact ⟨_, _, _, _, rfl, rfl, ⟨Pg.Env0.start w7 l0.length _ _ _ _ 3 1 2 0 (by decide) rfl rfl rfl rfl⟩⟩ | exact ⟨_, _, _, _, rfl, rfl, ⟨Pg.Env0.start w7 l0.length _ _ _ _ 3 2 0 1 (by decide) rfl rfl rfl rfl⟩⟩ | exact ⟨_, _, _, _, rfl, rfl, ⟨Pg.Env0.start w7 l0.length _ _ _ _ 3 2 1 0 (by decide) rfl rfl rfl rfl⟩⟩)
  case rest =>
    obtain ⟨p, q, b2, b3, rfl, rfl, HE0⟩ := hcut
    clear hmk
    have hw3 : IntKind.i64.wrap ((l0.length : Int) - 1 - 1) = (l0.length : Int) - 1 - 1 := by have := HN.out; rw [IntKind.wrap_i64]; omega
    go_wp2
    have HE1 := Aside0.mk (HE0.out.newA ((l0.length : Int) - 1 - 1))
    have HRE : Aside0 (∀ X : List Int × List Int, True) := ⟨fun _ => trivial⟩
    obtain ⟨REST, HREST⟩ : ∃ R : List Int × List Int → Option (List Int × Int × Bool), R = fun X => if rd X.1 0 = 0 then some ([], 0, false) else (pages_Best.path X.1 ((l0.length : Int) - 1) (l0.length + 1) (-1) []).bind fun out => some (out, rd X.2 0, true) := ⟨_, rfl⟩
    have HST : Aside0 ((pages_Best.outer l0 a1 l0.length (Pg.zeros l0.length, Pg.zeros l0.length)).bind REST = some (r1, r2, r3)) := ⟨by rw [HREST]; exact HH.out⟩
    have HRST := Aside0.mk HREST
    clear HREST HH HRE
    go_loopg [11] (l0.length) (fun kq v11 w' => ∃ (r : Nat) (X : List Int × List Int), v11 = .pointer (some ⟨r, 0, none⟩) ∧ Aside0 (kq ≤ l0.length) ∧ Aside0 ((pages_Best.outer l0 a1 kq X).bind REST = some (r1, r2, r3)) ∧ Aside0 (Pg.Env w7 w' l0.length p q b2 b3 r ((kq : Int) - 2) X.1 X.2))
    case atStart =>
      refine ⟨_, (Pg.zeros l0.length, Pg.zeros l0.length), rfl, ⟨Nat.le_refl _⟩, HST, ⟨?_⟩⟩
      rw [show (l0.length : Int) - 2 = (l0.length : Int) - 1 - 1 by omega]
      exact HE1.out
    case round =>
      clear HE0 HE1 HST
      obtain ⟨r, X, rfl, HK, HO, HE⟩ := hrel
      cases gk with
      | zero =>
        have hE := HE.out
        rw [show (((0 : Nat) : Int) - 2) = -2 by omega] at hE
        clear HE
        have HE := Aside0.mk hE
        clear hE
        obtain ⟨z2, z3, zr⟩ := HE.out.cells
        have k0 : decide (-1 ≤ (-2 : Int)) = false := by decide
        have O1 : Aside0 (REST X = some (r1, r2, r3)) := ⟨by have := HO.out; unfold pages_Best.outer at this; exact this⟩
        have hn1 := HN.out.1
        have y2 := HE.out.h2.cell 0 (by omega) (by have := HE.out.l2; omega)
        have y3 := HE.out.h3.cell 0 (by omega) (by have := HE.out.l3; omega)
        rw [show ((0 : Int)).toNat = 0 from rfl] at y2 y3
        have p1 : ((0 : Int) < (l0.length : Int)) = True := eq_true (by omega)
        have p2 : (0 < l0.length) = True := eq_true (by omega)
        have O2 := O1.out
        rw [HRST.out] at O2
        clear HO O1 hn1
        by_cases cz : rd X.1 0 = 0
        · have O3 : some (([] : List Int), (0 : Int), false) = some (r1, r2, r3) := by simpa only [if_pos cz] using O2
          simp only [Option.some.injEq, Prod.mk.injEq] at O3
          obtain ⟨rfl, rfl, rfl⟩ := O3
          have cz1 : (rd X.1 0 == 0) = true := beq_iff_eq.mpr cz
          clear O2 cz
          go_wp2
          go_ret3
          exact ⟨_, rfl, Kd.R_nil _ _ _ _ _, below_step HBW.out (by repeat (first | exact HE.out.hb | apply below_alloc | apply pw_below_drewN | apply below_drew1))⟩
        · have O3 : ((pages_Best.path X.1 ((l0.length : Int) - 1) (l0.length + 1) (-1) []).bind fun out => some (out, rd X.2 0, true)) = some (r1, r2, r3) := by simpa only [if_neg cz] using O2
          have cz1 : (rd X.1 0 == 0) = false := beq_eq_false_iff_ne.mpr cz
          have O4 := Aside0.mk O3
          have HY3 := Aside0.mk y3
          clear O2 O3 cz y3
          go_wp2
          go_loopg [16, 17] (l0.length + 1) (fun kq v16 v17 w' => ∃ (a : Int) (out : List Int), v17 = .int .i64 a ∧ Aside0 (out.length + kq = l0.length + 1) ∧ Aside0 (((pages_Best.path X.1 ((l0.length : Int) - 1) kq a out).bind fun out => some (out, rd X.2 0, true)) = some (r1, r2, r3)) ∧ Aside0 (Kd.R (Kd.int .i64) 3 w' w7.heap.size (Pg.Far p q b2 b3 r) v16 out) ∧ Aside0 (Pg.Env w7 w' l0.length p q b2 b3 r (-2) X.1 X.2))
          case atStart => exact ⟨-1, [], by first | rfl | simp, ⟨by simp⟩, O4, ⟨Kd.R_nil _ _ _ _ _⟩, ⟨HE.out.below (by repeat (first | exact Below.refl _ _ | apply below_alloc | apply pw_below_drewN | apply below_drew1))⟩⟩
          case round =>
            clear O4 HE HY3 z2 z3 zr y2
            obtain ⟨a, out, rfl, HL, O1, HRo, HE⟩ := hrel
            obtain ⟨z2, z3, zr⟩ := HE.out.cells
            cases gk with
            | zero =>
              exact absurd O1.out (by unfold pages_Best.path; simp)
            | succ kk =>
              have O2 := O1.out
              unfold pages_Best.path at O2
              clear O1
              by_cases ca : a < (l0.length : Int) - 1
              · rw [if_pos ca] at O2
                have ca1 : decide (a < (l0.length : Int) - 1) = true := decide_eq_true ca
                obtain ⟨ja, hja⟩ : ∃ j : Int, wrap64 (a + 1) = j := ⟨_, rfl⟩
                rw [hja] at O2
                have hjaw : IntKind.i64.wrap (a + 1) = ja := (i64_w _).trans hja
                by_cases c1 : 0 ≤ ja
                rotate_left
                · rw [if_neg c1] at O2
                  exact absurd O2 (by simp)
                rw [if_pos c1] at O2
                by_cases c2 : ja < (X.1.length : Int)
                rotate_left
                · rw [if_neg c2] at O2
                  exact absurd O2 (by simp)
                rw [if_pos c2] at O2
                have y2 := HE.out.h2.cell ja c1 c2
                rw [HE.out.l2] at c2
                obtain ⟨nv, hnv⟩ : ∃ j : Int, wrap64 (rd X.1 ja - 1) = j := ⟨_, rfl⟩
                rw [hnv] at O2
                have hnvw : IntKind.i64.wrap (rd X.1 ja - 1) = nv := (i64_w _).trans hnv
                have O3 := Aside0.mk O2
                replace c1 := eq_true c1
                replace c2 := eq_true c2
                have HLEN := Aside0.mk (show (out.length + 1) * 8 ≤ 140737488355328 by have := HL.out; have := HN.out; omega)
                clear O2 ca hja hnv
                go_wp2_with (first | ((with_reducible refine gate_builtin (b := .append) (xs := #[.tmp 120, .tmp 122]) rfl ?_); at_builtin; refine Kd.R_append (Kd.int .i64) (w0 := w7) w7.heap.size rfl (.tmp 120) (.tmp 122) 26 3 (.int .i64 0) 8 rfl Try.underlying26 info3 rfl (by decide) (by omega) _ out nv [.int .i64 nv] (Pg.Far p q b2 b3 r) (fun _ => False) rfl rfl ?aP (fun _ hk => hk.elim) ?aF ?aO ?aB ?aS ?aL ?_; (case aP => exact rfl); (case aB => exact (by repeat (first | exact HE.out.hb | apply below_alloc | apply pw_below_drewN | apply below_drew1))); (case aF => exact (fun k_ hk => HE.out.far k_ hk)); (case aO => exact (by (with_reducible repeat (first | apply Kd.R_alloc | apply Kd.R_drewN | apply Kd.R_drew)); exact HRo.out)); (case aS => exact HE.out.hb.size); (case aL => exact HLEN.out); intro v212 w101 ho hb hg hat; have HO1 := Aside0.mk ho; have HG1 := Aside0.mk (HE.out.grown hg (fun k e => HRo.out.1 k e) hb); clear ho hb hg hat))
                go_roundg kk
                case measure => exact Nat.lt_succ_self kk
                case rel => exact ⟨nv, out ++ [nv], rfl, ⟨by rw [List.length_append, List.length_singleton]; have := HL.out; omega⟩, O3, ⟨by (with_reducible repeat (first | apply Kd.R_alloc | apply Kd.R_drewN | apply Kd.R_drew)); exact HO1.out⟩, ⟨HG1.out.below (by repeat (first | exact Below.refl _ _ | apply below_alloc | apply pw_below_drewN | apply below_drew1))⟩⟩
              · rw [if_neg ca] at O2
                have ca1 : decide (a < (l0.length : Int) - 1) = false := decide_eq_false ca
                have O3 : some (out, rd X.2 0, true) = some (r1, r2, r3) := O2
                simp only [Option.some.injEq, Prod.mk.injEq] at O3
                obtain ⟨rfl, rfl, rfl⟩ := O3
                have y3 := HE.out.h3.cell 0 (by omega) (by have := HE.out.l3; have := HN.out; omega)
                rw [show ((0 : Int)).toNat = 0 from rfl] at y3
                clear O2 ca
                go_wp2
                repeat (go_quiet (fail); try go_wp2)
                go_ret3
                exact ⟨_, rfl, by (with_reducible repeat (first | apply Kd.R_alloc | apply Kd.R_drewN | apply Kd.R_drew)); exact Kd.R_mono (Kd.R_lower HRo.out HBW.out.size) (fun _ _ => trivial), below_step HBW.out (by repeat (first | exact HE.out.hb | apply below_alloc | apply pw_below_drewN | apply below_drew1))⟩
      | succ i =>
        have hE := HE.out
        rw [show (((i + 1 : Nat) : Int) - 2) = (i : Int) - 1 by omega] at hE
        clear HE
        have HE := Aside0.mk hE
        clear hE
        obtain ⟨z2, z3, zr⟩ := HE.out.cells
        have hi : i < l0.length := HK.out
        have HI := Aside0.mk hi
        have k0 : decide (-1 ≤ (i : Int) - 1) = true := decide_eq_true (by omega)
        have hwi : IntKind.i64.wrap (i : Int) = (i : Int) := by have := HN.out; rw [IntKind.wrap_i64]; omega
        have hwi1 : IntKind.i64.wrap ((i : Int) - 1 + 1) = (i : Int) := by have := HN.out; rw [IntKind.wrap_i64]; omega
        have hwi2 : IntKind.i64.wrap ((i : Int) - 1 - 1) = (i : Int) - 1 - 1 := by have := HN.out; rw [IntKind.wrap_i64]; omega
        have O1 := HO.out
        unfold pages_Best.outer at O1
        rw [Option.bind_assoc] at O1
        obtain ⟨t, A30, O2⟩ := Option.bind_eq_some_iff.mp O1
        have A3 := Aside0.mk A30
        have O := Aside0.mk O2
        clear O1 O2 A30 HO hi
        go_upto_region 9 with (fail)
        go_cut [50] (fun v50 wc => v50 = .bool (!t) ∧ Aside0 (Pg.Env w7 wc l0.length p q b2 b3 r ((i : Int) - 1) X.1 X.2))
        case first =>
          by_cases ci : 1 ≤ i
          · have A4 : Aside0 (pages_column_legal.f l0 (pages_ready.hs l0) (pages_ready.fs l0) (pages_ready.ms l0) ((i : Int) - 1) = some t) := ⟨by have := A3.out; rw [if_pos ci] at this; exact this⟩
            have k1 : decide (0 ≤ (i : Int) - 1) = true := decide_eq_true (by omega)
            have k2 : decide (1 ≤ (i : Int)) = true := decide_eq_true (by omega)
            have k3 : (1 ≤ (i : Int)) = True := eq_true (by omega)
            have k4 : (0 < i) = True := eq_true (by omega)
            have k5 : (1 ≤ i) = True := eq_true (by omega)
            have k6 : (0 < (i : Int)) = True := eq_true (by omega)
            clear ci
            go_wp2_with (first | (go_at_call 37; (refine (pages_column_legal.calls g _ _ _ _ ((i : Int) - 1) t _ (HCOL.out.below (by repeat (first | exact HE.out.hb | apply below_alloc | apply pw_below_drewN | apply below_drew1))) A4.out).mono ?_); rintro e w8 ⟨rfl, hb8⟩; have HE8 := Aside0.mk (HE.out.below (below_step (by repeat (first | exact Below.refl _ _ | apply below_alloc | apply pw_below_drewN | apply below_drew1)) hb8)); clear hb8))
            go_meet
            case rel => exact ⟨by simp, HE8⟩
          · have ht : t = true := by have := A3.out; rw [if_neg ci] at this; exact (Option.some.inj this).symm
            subst ht
            have k1 : decide (0 ≤ (i : Int) - 1) = false := decide_eq_false (by omega)
            have k2 : decide (1 ≤ (i : Int)) = false := decide_eq_false (by omega)
            have k3 : (1 ≤ (i : Int)) = False := eq_false (by omega)
            have k4 : (0 < i) = False := eq_false (by omega)
            have k5 : (1 ≤ i) = False := eq_false (by omega)
            have k6 : (0 < (i : Int)) = False := eq_false (by omega)
            clear ci
            go_wp2
            go_meet
            case rel => exact ⟨by simp, HE⟩
        case rest =>
          clear HE z2 z3 zr
          obtain ⟨rfl, HE⟩ := hcut
          obtain ⟨z2, z3, zr⟩ := HE.out.cells
          cases t with
          | false =>
            have O1 : Aside0 ((pages_Best.outer l0 a1 i X).bind REST = some (r1, r2, r3)) := ⟨by have := O.out; simpa using this⟩
            clear O A3
            go_wp2
            go_roundg i
            case measure => exact Nat.lt_succ_self i
            case rel =>
              refine ⟨_, X, rfl, ⟨Nat.le_of_lt HI.out⟩, O1, ⟨?_⟩⟩
              rw [show (i : Int) - 2 = (i : Int) - 1 - 1 by omega]
              exact HE.out.newA ((i : Int) - 1 - 1)
          | true =>
            obtain ⟨mi, hmi, hmi2⟩ : ∃ mi : Nat, rd (pages_ready.ms l0) (i : Int) = (mi : Int) ∧ i ≤ mi ∧ mi ≤ l0.length := by
              have hlt := HI.out
              have e : rd (pages_ready.ms l0) (i : Int) = pages_ready.M (l0.drop i) i := by
                unfold pages_ready.ms rd
                rw [Int.toNat_natCast, List.getD_eq_getElem?_getD, List.getElem?_map, List.getElem?_range (by omega)]
                rfl
              have hm := pages_ready.M_ge (l0.drop i) i
              rw [List.length_drop] at hm
              exact ⟨(pages_ready.M (l0.drop i) i).toNat, by rw [e]; omega, by omega, by omega⟩
            have HMI := Aside0.mk hmi2
            have O1 : Aside0 (((pages_Best.inner l0 a1 i (mi + 1 - i) i X).bind fun X => pages_Best.outer l0 a1 i X).bind REST = some (r1, r2, r3)) := ⟨by
              have := O.out
              rw [hmi] at this
              rw [show ((mi : Int) + 1 - (i : Int)).toNat = mi + 1 - i by omega] at this
              simpa using this⟩
            obtain ⟨A0c, c0c, A1c, c1c, A2c, c2c, A3c, c3c, HGc, HC0c, HC1c, HC2c, HC3c⟩ := HCOL.out
            obtain ⟨y0, y1, y2, y3⟩ := Pg.cell4 HGc
            have hml : (pages_ready.ms l0).length = l0.length + 1 := by simp [pages_ready.ms]
            obtain ⟨adm, em, hxm⟩ := Kd.at_int HC3c (i : Int) (by omega) (by rw [hml]; have := HI.out; omega)
            cases em
            rw [hmi, Int.toNat_natCast] at hxm
            rw [hml] at y3
            have HYS := Aside0.mk (And.intro y3 hxm)
            clear O A3 HGc HC0c HC1c HC2c HC3c y0 y1 y2 y3 hml hxm hmi hmi2
            go_wp2
            go_loopg [13] (mi + 1 - i) (fun kq v13 w' => ∃ (b : Nat) (Y : List Int × List Int), v13 = .int .i64 (b : Int) ∧ Aside0 (b + kq = mi + 1) ∧ Aside0 (((pages_Best.inner l0 a1 i kq b Y).bind fun X => pages_Best.outer l0 a1 i X).bind REST = some (r1, r2, r3)) ∧ Aside0 (Pg.Env w7 w' l0.length p q b2 b3 r ((i : Int) - 1) Y.1 Y.2))
            case atStart => exact ⟨i, X, rfl, ⟨by have := HMI.out; omega⟩, O1, HE⟩
            case round =>
              clear O1 HE z2 z3 zr
              obtain ⟨b, Y, rfl, HKB, O1, HE⟩ := hrel
              obtain ⟨z2, z3, zr⟩ := HE.out.cells
              have y3 := pw_cell_below HE.out.hb HYS.out.1
              have hxm := pw_cell_below HE.out.hb HYS.out.2
              have p0 : (0 ≤ (i : Int)) = True := eq_true (by omega)
              have p1 : ((i : Int) < (l0.length : Int) + 1) = True := eq_true (by have := HI.out; omega)
              go_upto_region 12 with (fail)
              go_cut [63] (fun v63 wc => v63 = .bool (decide ((b : Int) ≤ (mi : Int))) ∧ Aside0 (Pg.Env w7 wc l0.length p q b2 b3 r ((i : Int) - 1) Y.1 Y.2))
              case first =>
                repeat (go_quiet (fail); try go_wp2)
                go_meet
                case rel => exact ⟨by first | rfl | simp, ⟨by first | exact HE.out | exact HE.out.below (by repeat (first | exact Below.refl _ _ | apply below_alloc | apply pw_below_drewN | apply below_drew1))⟩⟩
              case rest =>
                clear HE z2 z3 zr y3 hxm p0 p1
                obtain ⟨rfl, HE⟩ := hcut
                obtain ⟨z2, z3, zr⟩ := HE.out.cells
                cases gk with
                | zero =>
                  have m1 : decide ((b : Int) ≤ (mi : Int)) = false := decide_eq_false (by have := HKB.out; omega)
                  have m2 : (b ≤ mi) = False := eq_false (by have := HKB.out; omega)
                  have m3 : decide (b ≤ mi) = false := decide_eq_false (by have := HKB.out; omega)
                  have O2 : Aside0 ((pages_Best.outer l0 a1 i Y).bind REST = some (r1, r2, r3)) := ⟨by have := O1.out; unfold pages_Best.inner at this; exact this⟩
                  clear O1
                  rw [m1]
                  go_wp2
                  go_roundg i
                  case measure => exact Nat.lt_succ_self i
                  case rel =>
                    refine ⟨_, Y, rfl, ⟨Nat.le_of_lt HI.out⟩, O2, ⟨?_⟩⟩
                    rw [show (i : Int) - 2 = (i : Int) - 1 - 1 by omega]
                    exact HE.out.newA ((i : Int) - 1 - 1)
                | succ c =>
                  have m1 : decide ((b : Int) ≤ (mi : Int)) = true := decide_eq_true (by have := HKB.out; omega)
                  have m2 : (b ≤ mi) = True := eq_true (by have := HKB.out; omega)
                  have m3 : decide (b ≤ mi) = true := decide_eq_true (by have := HKB.out; omega)
                  have hwb : IntKind.i64.wrap ((b : Int) + 1) = (b : Int) + 1 := by have := HKB.out; have := HMI.out; have := HN.out; rw [IntKind.wrap_i64]; omega
                  have O2 := O1.out
                  unfold pages_Best.inner at O2
                  rw [Option.bind_assoc, Option.bind_assoc] at O2
                  obtain ⟨t, A40, O3⟩ := Option.bind_eq_some_iff.mp O2
                  have A4 := Aside0.mk A40
                  have O := Aside0.mk O3
                  clear O1 O2 O3 A40
                  rw [m1]
                  cases t with
                  | false =>
                    have O1 : Aside0 (((pages_Best.inner l0 a1 i c (b + 1) Y).bind fun X => pages_Best.outer l0 a1 i X).bind REST = some (r1, r2, r3)) := ⟨by have := O.out; rw [if_pos rfl] at this; rw [Option.bind_assoc]; exact this⟩
                    clear O
                    go_wp2_with (first | (go_at_call 37; (refine (pages_column_legal.calls g _ _ _ _ (b : Int) false _ (HCOL.out.below (by repeat (first | exact HE.out.hb | apply below_alloc | apply pw_below_drewN | apply below_drew1))) A4.out).mono ?_); rintro e w8 ⟨rfl, hb8⟩; have HE8 := Aside0.mk (HE.out.below (below_step (by repeat (first | exact Below.refl _ _ | apply below_alloc | apply pw_below_drewN | apply below_drew1)) hb8)); (obtain ⟨z28, z38, zr8⟩ := HE8.out.cells); clear hb8 z2 z3 zr))
                    go_roundg c
                    case measure => exact Nat.lt_succ_self c
                    case rel => exact ⟨b + 1, Y, by first | rfl | simp, ⟨by have := HKB.out; omega⟩, O1, HE8⟩
                  | true =>
                    have O2 := O.out
                    rw [if_neg (by decide), Option.bind_assoc] at O2
                    obtain ⟨⟨n, ok⟩, A50, O3⟩ := Option.bind_eq_some_iff.mp O2
                    have A5 := Aside0.mk A50
                    clear O O2 A50
                    cases ok with
                    | false =>
                      have O1 : Aside0 (((pages_Best.inner l0 a1 i c (b + 1) Y).bind fun X => pages_Best.outer l0 a1 i X).bind REST = some (r1, r2, r3)) := ⟨by have := O3; rw [if_pos rfl] at this; rw [Option.bind_assoc]; exact this⟩
                      clear O3
                      go_wp2_with (first | (go_at_call 37; (refine (pages_column_legal.calls g _ _ _ _ (b : Int) true _ (HCOL.out.below (by repeat (first | exact HE.out.hb | apply below_alloc | apply pw_below_drewN | apply below_drew1))) A4.out).mono ?_); rintro e w8 ⟨rfl, hb8⟩; have HE8 := Aside0.mk (HE.out.below (below_step (by repeat (first | exact Below.refl _ _ | apply below_alloc | apply pw_below_drewN | apply below_drew1)) hb8)); (obtain ⟨z28, z38, zr8⟩ := HE8.out.cells); clear hb8 z2 z3 zr) | (go_at_call 39; (refine (pages_column_cost.calls g _ _ _ _ ((i : Int) - 1) (b : Int) a1 n false _ (HCOL.out.below (by repeat (first | exact HE8.out.hb | apply below_alloc | apply pw_below_drewN | apply below_drew1))) A5.out).mono ?_); rintro e w9 ⟨rfl, hb9⟩; have HE9 := Aside0.mk (HE8.out.below (below_step (by repeat (first | exact Below.refl _ _ | apply below_alloc | apply pw_below_drewN | apply below_drew1)) hb9)); (obtain ⟨z29, z39, zr9⟩ := HE9.out.cells); clear hb9 z28 z38 zr8))
                      go_roundg c
                      case measure => exact Nat.lt_succ_self c
                      case rel => exact ⟨b + 1, Y, by first | rfl | simp, ⟨by have := HKB.out; omega⟩, O1, HE9⟩
                    | true =>
                      rw [if_neg (by simp)] at O3
                      by_cases cl : (b : Int) = (l0.length : Int) - 1
                      · rw [if_pos cl] at O3
                        have O1 : Aside0 (((pages_Best.inner l0 a1 i c (b + 1) (pages_Best.tk Y i (b : Int) n)).bind fun X => pages_Best.outer l0 a1 i X).bind REST = some (r1, r2, r3)) := ⟨by rw [Option.bind_assoc]; exact O3⟩
                        have cl1 : ((b : Int) == (l0.length : Int) - 1) = true := beq_iff_eq.mpr cl
                        have CL := Aside0.mk cl
                        clear O3 cl
                        go_wp2_with (first | (go_at_call 37; (refine (pages_column_legal.calls g _ _ _ _ (b : Int) true _ (HCOL.out.below (by repeat (first | exact HE.out.hb | apply below_alloc | apply pw_below_drewN | apply below_drew1))) A4.out).mono ?_); rintro e w8 ⟨rfl, hb8⟩; have HE8 := Aside0.mk (HE.out.below (below_step (by repeat (first | exact Below.refl _ _ | apply below_alloc | apply pw_below_drewN | apply below_drew1)) hb8)); (obtain ⟨z28, z38, zr8⟩ := HE8.out.cells); clear hb8 z2 z3 zr) | (go_at_call 39; (refine (pages_column_cost.calls g _ _ _ _ ((i : Int) - 1) (b : Int) a1 n true _ (HCOL.out.below (by repeat (first | exact HE8.out.hb | apply below_alloc | apply pw_below_drewN | apply below_drew1))) A5.out).mono ?_); rintro e w9 ⟨rfl, hb9⟩; have HE9 := Aside0.mk (HE8.out.below (below_step (by repeat (first | exact Below.refl _ _ | apply below_alloc | apply pw_below_drewN | apply below_drew1)) hb9)); (obtain ⟨z29, z39, zr9⟩ := HE9.out.cells); clear hb9 z28 z38 zr8) | (go_at_call 38; (refine (pages_Best.take_calls w7 _ l0.length p q b2 b3 r i ((i : Int) - 1) (b : Int) n Y.1 Y.2 (HE9.out.below (by repeat (first | exact Below.refl _ _ | apply below_alloc | apply pw_below_drewN | apply below_drew1))) (by have := hwi1; rw [i64_w] at this; exact this) HI.out).mono ?_); rintro e w10 ⟨rfl, he10⟩; have HE10 := Aside0.mk he10; clear he10))
                        go_roundg c
                        case measure => exact Nat.lt_succ_self c
                        case rel => exact ⟨b + 1, pages_Best.tk Y i (b : Int) n, by first | rfl | simp, ⟨by have := HKB.out; omega⟩, O1, HE10⟩
                      · rw [if_neg cl] at O3
                        have cl1 : ((b : Int) == (l0.length : Int) - 1) = false := beq_eq_false_iff_ne.mpr cl
                        by_cases cb : b + 1 < l0.length
                        rotate_left
                        · rw [if_neg cb] at O3
                          exact absurd O3 (by simp)
                        rw [if_pos cb] at O3
                        have cb0 : (0 ≤ (b : Int) + 1) = True := eq_true (by omega)
                        have cb1 : ((b : Int) + 1 < (l0.length : Int)) = True := eq_true (by omega)
                        have eb : ((b : Int) + 1).toNat = b + 1 := by omega
                        have CB := Aside0.mk cb
                        clear cl cb
                        by_cases cz : 0 < rd Y.1 ((b : Int) + 1)
                        · rw [if_pos cz] at O3
                          have cz1 : decide (0 < rd Y.1 ((b : Int) + 1)) = true := decide_eq_true cz
                          have O1 : Aside0 (((pages_Best.inner l0 a1 i c (b + 1) (pages_Best.tk Y i (b : Int) (wrap64 (n + rd Y.2 ((b : Int) + 1))))).bind fun X => pages_Best.outer l0 a1 i X).bind REST = some (r1, r2, r3)) := ⟨by rw [Option.bind_assoc]; exact O3⟩
                          clear O3 cz
                          go_wp2_with (first | (go_at_call 37; (refine (pages_column_legal.calls g _ _ _ _ (b : Int) true _ (HCOL.out.below (by repeat (first | exact HE.out.hb | apply below_alloc | apply pw_below_drewN | apply below_drew1))) A4.out).mono ?_); rintro e w8 ⟨rfl, hb8⟩; have HE8 := Aside0.mk (HE.out.below (below_step (by repeat (first | exact Below.refl _ _ | apply below_alloc | apply pw_below_drewN | apply below_drew1)) hb8)); (obtain ⟨z28, z38, zr8⟩ := HE8.out.cells); clear hb8 z2 z3 zr) | (go_at_call 39; (refine (pages_column_cost.calls g _ _ _ _ ((i : Int) - 1) (b : Int) a1 n true _ (HCOL.out.below (by repeat (first | exact HE8.out.hb | apply below_alloc | apply pw_below_drewN | apply below_drew1))) A5.out).mono ?_); rintro e w9 ⟨rfl, hb9⟩; have HE9 := Aside0.mk (HE8.out.below (below_step (by repeat (first | exact Below.refl _ _ | apply below_alloc | apply pw_below_drewN | apply below_drew1)) hb9)); (obtain ⟨z29, z39, zr9⟩ := HE9.out.cells); have y2 := HE9.out.h2.cell ((b : Int) + 1) (by have := CB.out; omega) (by have := CB.out; have := HE9.out.l2; omega); have y3 := HE9.out.h3.cell ((b : Int) + 1) (by have := CB.out; omega) (by have := CB.out; have := HE9.out.l3; omega); rw [eb] at y2 y3; clear hb9 z28 z38 zr8) | (go_at_call 38; (refine (pages_Best.take_calls w7 _ l0.length p q b2 b3 r i ((i : Int) - 1) (b : Int) (wrap64 (n + rd Y.2 ((b : Int) + 1))) Y.1 Y.2 (HE9.out.below (by repeat (first | exact Below.refl _ _ | apply below_alloc | apply pw_below_drewN | apply below_drew1))) (by have := hwi1; rw [i64_w] at this; exact this) HI.out).mono ?_); rintro e w10 ⟨rfl, he10⟩; have HE10 := Aside0.mk he10; clear he10))
                          go_roundg c
                          case measure => exact Nat.lt_succ_self c
                          case rel => exact ⟨b + 1, pages_Best.tk Y i (b : Int) (wrap64 (n + rd Y.2 ((b : Int) + 1))), by first | rfl | simp, ⟨by have := HKB.out; omega⟩, O1, HE10⟩
                        · rw [if_neg cz] at O3
                          have cz1 : decide (0 < rd Y.1 ((b : Int) + 1)) = false := decide_eq_false cz
                          have O1 : Aside0 (((pages_Best.inner l0 a1 i c (b + 1) Y).bind fun X => pages_Best.outer l0 a1 i X).bind REST = some (r1, r2, r3)) := ⟨by rw [Option.bind_assoc]; exact O3⟩
                          clear O3 cz
                          go_wp2_with (first | (go_at_call 37; (refine (pages_column_legal.calls g _ _ _ _ (b : Int) true _ (HCOL.out.below (by repeat (first | exact HE.out.hb | apply below_alloc | apply pw_below_drewN | apply below_drew1))) A4.out).mono ?_); rintro e w8 ⟨rfl, hb8⟩; have HE8 := Aside0.mk (HE.out.below (below_step (by repeat (first | exact Below.refl _ _ | apply below_alloc | apply pw_below_drewN | apply below_drew1)) hb8)); (obtain ⟨z28, z38, zr8⟩ := HE8.out.cells); clear hb8 z2 z3 zr) | (go_at_call 39; (refine (pages_column_cost.calls g _ _ _ _ ((i : Int) - 1) (b : Int) a1 n true _ (HCOL.out.below (by repeat (first | exact HE8.out.hb | apply below_alloc | apply pw_below_drewN | apply below_drew1))) A5.out).mono ?_); rintro e w9 ⟨rfl, hb9⟩; have HE9 := Aside0.mk (HE8.out.below (below_step (by repeat (first | exact Below.refl _ _ | apply below_alloc | apply pw_below_drewN | apply below_drew1)) hb9)); (obtain ⟨z29, z39, zr9⟩ := HE9.out.cells); have y2 := HE9.out.h2.cell ((b : Int) + 1) (by have := CB.out; omega) (by have := CB.out; have := HE9.out.l2; omega); rw [eb] at y2; clear hb9 z28 z38 zr8))
                          go_roundg c
                          case measure => exact Nat.lt_succ_self c
                          case rel => exact ⟨b + 1, Y, by first | rfl | simp, ⟨by have := HKB.out; omega⟩, O1, HE9⟩

/-! ### pages_Break: function 13 -/
def pages_Break.f (k : Nat) (l0 : List (S43)) (a1 : Int) : Option (List Int × Int) := (pages_Good.f k l0).bind fun t109 => (if t109 = true then ((pages_room.f a1).bind fun t110 => (if t110 = true then ((pages_Best.f k l0 a1).bind fun bt111 => (if bt111.2.2 = true then (some (bt111.1, 0)) else (some (([] : List Int), 270)))) else (some (([] : List Int), 1)))) else (some (([] : List Int), 220)))
theorem pages_Break.mono : ∀ a0 a1 k, LeO (pages_Break.f k a0 a1) (pages_Break.f (k + 1) a0 a1) := by
  intro a0 a1 k
  unfold pages_Break.f
  repeat' first
      | (with_reducible exact pages_Best.mono _ _ _)
      | (with_reducible exact pages_Good.mono _ _)
      | (with_reducible exact LeO.refl _)
      | (with_reducible exact LeO.none _)
      | (with_reducible refine LeO.ite ?_ ?_)
      | (with_reducible refine LeO.bind ?_ (fun _ => ?_))
      | exact pages_Best.mono _ _ _
      | exact pages_Good.mono _ _
      | exact LeO.none _
      | refine LeO.ite ?_ ?_
      | refine LeO.bind ?_ (fun _ => ?_)
set_option maxHeartbeats 8000000 in
set_option maxRecDepth 100000 in
theorem pages_Break.calls (k : Nat) (A0 : Option Addr) (c0 : Nat) (l0 : List (S43)) (a1 : Int) (r1 : List Int) (r2 : Int) (w : World) (hr0 : Kd.C k43 w A0 l0.length l0) (hc0 : l0.length ≤ c0) (h : pages_Break.f k l0 a1 = some (r1, r2)) :
    Calls Try.prog 13 #[.slice A0 l0.length c0, .int .i64 a1] w fun e w' => ∃ v0_ : Value, e = .returned (.tuple #[v0_, .int .i64 r2]) ∧ Kd.R (Kd.int .i64) 3 w' w.heap.size (fun _ => True) v0_ r1 ∧ Below w.heap.size w w' := by
  have HR0 := Aside0.mk hr0
  have HC0 := Aside0.mk hc0
  clear hr0 hc0
  have HB := Aside0.mk (Below.refl w.heap.size w)
  have H : ((pages_Good.f k l0).bind fun t109 => (if t109 = true then ((pages_room.f a1).bind fun t110 => (if t110 = true then ((pages_Best.f k l0 a1).bind fun bt111 => (if bt111.2.2 = true then (some (bt111.1, 0)) else (some (([] : List Int), 270)))) else (some (([] : List Int), 1)))) else (some (([] : List Int), 220)))) = some (r1, r2) := h
  clear h
  replace H := Option.bind_eq_some_iff.mp H
  obtain ⟨t109, A30, H⟩ := H
  replace H : (if t109 = true then ((pages_room.f a1).bind fun t110 => (if t110 = true then ((pages_Best.f k l0 a1).bind fun bt111 => (if bt111.2.2 = true then (some (bt111.1, 0)) else (some (([] : List Int), 270)))) else (some (([] : List Int), 1)))) else (some (([] : List Int), 220))) = some (r1, r2) := H
  have A3 := Aside0.mk A30
  clear A30
  by_cases c4 : t109 = true
  · subst c4
    have H1 : ((pages_room.f a1).bind fun t110 => (if t110 = true then ((pages_Best.f k l0 a1).bind fun bt111 => (if bt111.2.2 = true then (some (bt111.1, 0)) else (some (([] : List Int), 270)))) else (some (([] : List Int), 1)))) = some (r1, r2) := by rw [if_pos rfl] at H; exact H
    clear H
    have H := H1
    clear H1
    replace H := Option.bind_eq_some_iff.mp H
    obtain ⟨t110, A50, H⟩ := H
    replace H : (if t110 = true then ((pages_Best.f k l0 a1).bind fun bt111 => (if bt111.2.2 = true then (some (bt111.1, 0)) else (some (([] : List Int), 270)))) else (some (([] : List Int), 1))) = some (r1, r2) := H
    have A5 := Aside0.mk A50
    clear A50
    by_cases c6 : t110 = true
    · subst c6
      have H1 : ((pages_Best.f k l0 a1).bind fun bt111 => (if bt111.2.2 = true then (some (bt111.1, 0)) else (some (([] : List Int), 270)))) = some (r1, r2) := by rw [if_pos rfl] at H; exact H
      clear H
      have H := H1
      clear H1
      replace H := Option.bind_eq_some_iff.mp H
      obtain ⟨⟨t111, t112, t113⟩, A70, H⟩ := H
      replace H : (if t113 = true then (some (t111, 0)) else (some (([] : List Int), 270))) = some (r1, r2) := H
      have A7 := Aside0.mk A70
      clear A70
      by_cases c8 : t113 = true
      · subst c8
        have H1 : (some (t111, 0)) = some (r1, r2) := by rw [if_pos rfl] at H; exact H
        clear H
        have H := H1
        clear H1
        simp only [Option.some.injEq, Prod.mk.injEq] at H
        obtain ⟨rfl, rfl⟩ := H
        go_enter Try.func13, Try.ntmps13
        go_wp2_with (first | ((with_reducible refine gate_callee (f := 29) rfl ?_); refine goesL_ (some 11) rfl rfl Try.func29 (by kernel_rfl) rfl #[.slice A0 l0.length c0] rfl (by (try simp only [List.map_toArray, List.map_cons, List.map_nil]); first | done | rfl | (simp only [List.length_drop, List.length_take]; rfl)) ?_; (with_reducible refine (pages_Good.calls k _ _ l0 true _ ?side1 ?side2 A3.out).mono ?_); (case side1 => repeat (first | exact HR0.out | (with_reducible refine Kd.C_alloc ?_ _) | (with_reducible refine Kd.C_drewN ?_ _) | (with_reducible refine Kd.C_drew ?_))); (case side2 => exact HC0.out); rintro e w9 ⟨rfl, hb⟩; refine ⟨_, rfl, ?_⟩; have n0_ := Aside0.mk (below_step (by repeat (first | (with_reducible first | exact HB.out | apply below_alloc | apply pw_below_drewN | apply below_drew1) | exact HB.out)) hb); clear HB; have HB := n0_; clear n0_; (try clear hb); (try clear hb2); (try clear hk); (try clear hi)) | ((with_reducible refine gate_callee (f := 35) rfl ?_); refine goesL_ (some 15) rfl rfl Try.func35 (by kernel_rfl) rfl #[.int .i64 a1] rfl (by (try simp only [List.map_toArray, List.map_cons, List.map_nil]); first | done | rfl | (simp only [List.length_drop, List.length_take]; rfl)) ?_; (with_reducible refine (pages_room.calls a1 true _ A5.out).mono ?_); rintro e w' ⟨rfl, ⟨nd, rfl⟩⟩; refine ⟨_, rfl, ?_⟩) | ((with_reducible refine gate_callee (f := 15) rfl ?_); refine goesL_ (some 20) rfl rfl Try.func15 (by kernel_rfl) rfl #[.slice A0 l0.length c0, .int .i64 a1] rfl (by (try simp only [List.map_toArray, List.map_cons, List.map_nil]); first | done | rfl | (simp only [List.length_drop, List.length_take]; rfl)) ?_; (with_reducible refine (pages_Best.calls k _ _ l0 a1 t111 t112 true _ ?side1 ?side2 A7.out).mono ?_); (case side1 => repeat (first | exact (Kd.C_below HR0.out (by repeat (first | (with_reducible first | exact HB.out | apply below_alloc | apply pw_below_drewN | apply below_drew1) | exact HB.out))) | (with_reducible refine Kd.C_alloc ?_ _) | (with_reducible refine Kd.C_drewN ?_ _) | (with_reducible refine Kd.C_drew ?_))); (case side2 => exact HC0.out); rintro e w10 ⟨v114, rfl, ho0, hb⟩; refine ⟨_, rfl, ?_⟩; have n0_ := Aside0.mk (Kd.R_lower ho0 (below_size (by repeat (first | (with_reducible first | exact HB.out | apply below_alloc | apply pw_below_drewN | apply below_drew1) | exact HB.out)))); have n1_ := Aside0.mk (below_step (by repeat (first | (with_reducible first | exact HB.out | apply below_alloc | apply pw_below_drewN | apply below_drew1) | exact HB.out)) hb); clear HB; have HO115 := n0_; have HB := n1_; clear n0_ n1_; (try clear hb); (try clear hb2); (try clear hk); (try clear hi); (try clear ho0)))
        go_ret2
        exact ⟨_, by first | rfl | (simp [errW_none, errW_some] <;> rfl) | (simp [*, errW_none, errW_some] <;> rfl), by (with_reducible repeat (first | apply Kd.R_alloc | apply Kd.R_drewN | apply Kd.R_drew)); exact HO115.out, by repeat (first | (with_reducible first | exact HB.out | apply below_alloc | apply pw_below_drewN | apply below_drew1) | exact HB.out)⟩
      · replace c8 := Bool.eq_false_iff.mpr c8
        subst c8
        have H1 : (some (([] : List Int), 270)) = some (r1, r2) := by rw [if_neg (show ¬ (false = true) by decide)] at H; exact H
        clear H
        have H := H1
        clear H1
        simp only [Option.some.injEq, Prod.mk.injEq] at H
        obtain ⟨rfl, rfl⟩ := H
        go_enter Try.func13, Try.ntmps13
        go_wp2_with (first | ((with_reducible refine gate_callee (f := 29) rfl ?_); refine goesL_ (some 11) rfl rfl Try.func29 (by kernel_rfl) rfl #[.slice A0 l0.length c0] rfl (by (try simp only [List.map_toArray, List.map_cons, List.map_nil]); first | done | rfl | (simp only [List.length_drop, List.length_take]; rfl)) ?_; (with_reducible refine (pages_Good.calls k _ _ l0 true _ ?side1 ?side2 A3.out).mono ?_); (case side1 => repeat (first | exact HR0.out | (with_reducible refine Kd.C_alloc ?_ _) | (with_reducible refine Kd.C_drewN ?_ _) | (with_reducible refine Kd.C_drew ?_))); (case side2 => exact HC0.out); rintro e w11 ⟨rfl, hb⟩; refine ⟨_, rfl, ?_⟩; have n0_ := Aside0.mk (below_step (by repeat (first | (with_reducible first | exact HB.out | apply below_alloc | apply pw_below_drewN | apply below_drew1) | exact HB.out)) hb); clear HB; have HB := n0_; clear n0_; (try clear hb); (try clear hb2); (try clear hk); (try clear hi)) | ((with_reducible refine gate_callee (f := 35) rfl ?_); refine goesL_ (some 15) rfl rfl Try.func35 (by kernel_rfl) rfl #[.int .i64 a1] rfl (by (try simp only [List.map_toArray, List.map_cons, List.map_nil]); first | done | rfl | (simp only [List.length_drop, List.length_take]; rfl)) ?_; (with_reducible refine (pages_room.calls a1 true _ A5.out).mono ?_); rintro e w' ⟨rfl, ⟨nd, rfl⟩⟩; refine ⟨_, rfl, ?_⟩) | ((with_reducible refine gate_callee (f := 15) rfl ?_); refine goesL_ (some 20) rfl rfl Try.func15 (by kernel_rfl) rfl #[.slice A0 l0.length c0, .int .i64 a1] rfl (by (try simp only [List.map_toArray, List.map_cons, List.map_nil]); first | done | rfl | (simp only [List.length_drop, List.length_take]; rfl)) ?_; (with_reducible refine (pages_Best.calls k _ _ l0 a1 t111 t112 false _ ?side1 ?side2 A7.out).mono ?_); (case side1 => repeat (first | exact (Kd.C_below HR0.out (by repeat (first | (with_reducible first | exact HB.out | apply below_alloc | apply pw_below_drewN | apply below_drew1) | exact HB.out))) | (with_reducible refine Kd.C_alloc ?_ _) | (with_reducible refine Kd.C_drewN ?_ _) | (with_reducible refine Kd.C_drew ?_))); (case side2 => exact HC0.out); rintro e w12 ⟨v114, rfl, ho0, hb⟩; refine ⟨_, rfl, ?_⟩; have n0_ := Aside0.mk (Kd.R_lower ho0 (below_size (by repeat (first | (with_reducible first | exact HB.out | apply below_alloc | apply pw_below_drewN | apply below_drew1) | exact HB.out)))); have n1_ := Aside0.mk (below_step (by repeat (first | (with_reducible first | exact HB.out | apply below_alloc | apply pw_below_drewN | apply below_drew1) | exact HB.out)) hb); clear HB; have HO115 := n0_; have HB := n1_; clear n0_ n1_; (try clear hb); (try clear hb2); (try clear hk); (try clear hi); (try clear ho0)))
        go_ret2
        exact ⟨_, by first | rfl | (simp [errW_none, errW_some] <;> rfl) | (simp [*, errW_none, errW_some] <;> rfl), by first | exact Kd.R_nil _ _ _ _ _ | exact Kd.N_nil _ _ _ _ _ | exact Kd.V_nil _ _ _ _ _ | exact Kd.Q_nil _ _ _ _ _ | exact Kd.S_nil _ _ _ _ _, by repeat (first | (with_reducible first | exact HB.out | apply below_alloc | apply pw_below_drewN | apply below_drew1) | exact HB.out)⟩
    · replace c6 := Bool.eq_false_iff.mpr c6
      subst c6
      have H1 : (some (([] : List Int), 1)) = some (r1, r2) := by rw [if_neg (show ¬ (false = true) by decide)] at H; exact H
      clear H
      have H := H1
      clear H1
      simp only [Option.some.injEq, Prod.mk.injEq] at H
      obtain ⟨rfl, rfl⟩ := H
      go_enter Try.func13, Try.ntmps13
      go_wp2_with (first | ((with_reducible refine gate_callee (f := 29) rfl ?_); refine goesL_ (some 11) rfl rfl Try.func29 (by kernel_rfl) rfl #[.slice A0 l0.length c0] rfl (by (try simp only [List.map_toArray, List.map_cons, List.map_nil]); first | done | rfl | (simp only [List.length_drop, List.length_take]; rfl)) ?_; (with_reducible refine (pages_Good.calls k _ _ l0 true _ ?side1 ?side2 A3.out).mono ?_); (case side1 => repeat (first | exact HR0.out | (with_reducible refine Kd.C_alloc ?_ _) | (with_reducible refine Kd.C_drewN ?_ _) | (with_reducible refine Kd.C_drew ?_))); (case side2 => exact HC0.out); rintro e w13 ⟨rfl, hb⟩; refine ⟨_, rfl, ?_⟩; have n0_ := Aside0.mk (below_step (by repeat (first | (with_reducible first | exact HB.out | apply below_alloc | apply pw_below_drewN | apply below_drew1) | exact HB.out)) hb); clear HB; have HB := n0_; clear n0_; (try clear hb); (try clear hb2); (try clear hk); (try clear hi)) | ((with_reducible refine gate_callee (f := 35) rfl ?_); refine goesL_ (some 15) rfl rfl Try.func35 (by kernel_rfl) rfl #[.int .i64 a1] rfl (by (try simp only [List.map_toArray, List.map_cons, List.map_nil]); first | done | rfl | (simp only [List.length_drop, List.length_take]; rfl)) ?_; (with_reducible refine (pages_room.calls a1 false _ A5.out).mono ?_); rintro e w' ⟨rfl, ⟨nd, rfl⟩⟩; refine ⟨_, rfl, ?_⟩))
      go_ret2
      exact ⟨_, by first | rfl | (simp [errW_none, errW_some] <;> rfl) | (simp [*, errW_none, errW_some] <;> rfl), by first | exact Kd.R_nil _ _ _ _ _ | exact Kd.N_nil _ _ _ _ _ | exact Kd.V_nil _ _ _ _ _ | exact Kd.Q_nil _ _ _ _ _ | exact Kd.S_nil _ _ _ _ _, by repeat (first | (with_reducible first | exact HB.out | apply below_alloc | apply pw_below_drewN | apply below_drew1) | exact HB.out)⟩
  · replace c4 := Bool.eq_false_iff.mpr c4
    subst c4
    have H1 : (some (([] : List Int), 220)) = some (r1, r2) := by rw [if_neg (show ¬ (false = true) by decide)] at H; exact H
    clear H
    have H := H1
    clear H1
    simp only [Option.some.injEq, Prod.mk.injEq] at H
    obtain ⟨rfl, rfl⟩ := H
    go_enter Try.func13, Try.ntmps13
    go_wp2_with (first | ((with_reducible refine gate_callee (f := 29) rfl ?_); refine goesL_ (some 11) rfl rfl Try.func29 (by kernel_rfl) rfl #[.slice A0 l0.length c0] rfl (by (try simp only [List.map_toArray, List.map_cons, List.map_nil]); first | done | rfl | (simp only [List.length_drop, List.length_take]; rfl)) ?_; (with_reducible refine (pages_Good.calls k _ _ l0 false _ ?side1 ?side2 A3.out).mono ?_); (case side1 => repeat (first | exact HR0.out | (with_reducible refine Kd.C_alloc ?_ _) | (with_reducible refine Kd.C_drewN ?_ _) | (with_reducible refine Kd.C_drew ?_))); (case side2 => exact HC0.out); rintro e w14 ⟨rfl, hb⟩; refine ⟨_, rfl, ?_⟩; have n0_ := Aside0.mk (below_step (by repeat (first | (with_reducible first | exact HB.out | apply below_alloc | apply pw_below_drewN | apply below_drew1) | exact HB.out)) hb); clear HB; have HB := n0_; clear n0_; (try clear hb); (try clear hb2); (try clear hk); (try clear hi)))
    go_ret2
    exact ⟨_, by first | rfl | (simp [errW_none, errW_some] <;> rfl) | (simp [*, errW_none, errW_some] <;> rfl), by first | exact Kd.R_nil _ _ _ _ _ | exact Kd.N_nil _ _ _ _ _ | exact Kd.V_nil _ _ _ _ _ | exact Kd.Q_nil _ _ _ _ _ | exact Kd.S_nil _ _ _ _ _, by repeat (first | (with_reducible first | exact HB.out | apply below_alloc | apply pw_below_drewN | apply below_drew1) | exact HB.out)⟩

/-! ### colophonkeep_Same: function 17 -/
def colophonkeep_Same.l0 : Nat → List Int → List Int → Int → Option (Bool)
  | 0, _, _, _ => none
  | k + 1, x0, x1, x5 => if x5 < (x0.length : Int) then (if 0 ≤ x5 then (if x5 < (x1.length : Int) then (if (rd x0 x5) = (rd x1 x5) then (colophonkeep_Same.l0 k x0 x1 (wrap64 (x5 + 1))) else (some false)) else (none)) else (none)) else (some true)
def colophonkeep_Same.f (k : Nat) (l0 : List Int) (l1 : List Int) : Option (Bool) := if (l0.length : Int) = (l1.length : Int) then (colophonkeep_Same.l0 k l0 l1 0) else (some false)
theorem colophonkeep_Same.mono_l : ∀ k, (∀ y0 y1 y2, LeO (colophonkeep_Same.l0 k y0 y1 y2) (colophonkeep_Same.l0 (k + 1) y0 y1 y2))
  | 0 => fun _ _ _ r h => by simp [colophonkeep_Same.l0] at h
  | k + 1 => by
    have ih0 := colophonkeep_Same.mono_l k
    · intro y0 y1 y2
      unfold colophonkeep_Same.l0
      repeat' first
      | (with_reducible exact ih0 _ _ _)
      | (with_reducible exact LeO.refl _)
      | (with_reducible exact LeO.none _)
      | (with_reducible refine LeO.ite ?_ ?_)
      | (with_reducible refine LeO.bind ?_ (fun _ => ?_))
      | exact ih0 _ _ _
      | exact LeO.none _
      | refine LeO.ite ?_ ?_
      | refine LeO.bind ?_ (fun _ => ?_)
theorem colophonkeep_Same.mono : ∀ a0 a1 k, LeO (colophonkeep_Same.f k a0 a1) (colophonkeep_Same.f (k + 1) a0 a1) := by
  intro a0 a1 k
  have ih0 := colophonkeep_Same.mono_l k
  unfold colophonkeep_Same.f
  repeat' first
      | (with_reducible exact ih0 _ _ _)
      | (with_reducible exact LeO.refl _)
      | (with_reducible exact LeO.none _)
      | (with_reducible refine LeO.ite ?_ ?_)
      | (with_reducible refine LeO.bind ?_ (fun _ => ?_))
      | exact ih0 _ _ _
      | exact LeO.none _
      | refine LeO.ite ?_ ?_
      | refine LeO.bind ?_ (fun _ => ?_)
set_option maxHeartbeats 8000000 in
set_option maxRecDepth 100000 in
theorem colophonkeep_Same.calls (k : Nat) (A0 : Option Addr) (c0 : Nat) (l0 : List Int) (A1 : Option Addr) (c1 : Nat) (l1 : List Int) (r : Bool) (w : World) (hr0 : Kd.C (Kd.int .i64) w A0 l0.length l0) (hc0 : l0.length ≤ c0) (hr1 : Kd.C (Kd.int .i64) w A1 l1.length l1) (hc1 : l1.length ≤ c1) (h : colophonkeep_Same.f k l0 l1 = some r) :
    Calls Try.prog 17 #[.slice A0 l0.length c0, .slice A1 l1.length c1] w fun e w' => e = .returned (.bool r) ∧ Drawn0 w w' := by
  have HR0 := Aside0.mk hr0
  have HC0 := Aside0.mk hc0
  clear hr0 hc0
  have HR1 := Aside0.mk hr1
  have HC1 := Aside0.mk hc1
  clear hr1 hc1
  have H : (if (l0.length : Int) = (l1.length : Int) then (colophonkeep_Same.l0 k l0 l1 0) else (some false)) = some r := h
  clear h
  by_cases c3 : (l0.length : Int) = (l1.length : Int)
  · rw [if_pos c3] at H
    have c3b0 : ((l0.length : Int) == (l1.length : Int)) = true := beq_iff_eq.mpr c3
    have c3b1 : ((l0.length : Int) != (l1.length : Int)) = false := bne_eq_false_iff_eq.mpr c3
    have c3b2 : (l0.length == l1.length) = true := by first | simpa using c3 | (simp at c3 ⊢; omega)
    clear c3
    have H' := Aside0.mk H
    clear H
    go_enter Try.func17, Try.ntmps17
    go_wp2
    repeat (go_quiet (fail); try go_wp2)
    go_loopg [5] k (fun kq v5 w' => ∃ (x5_1 : Int), v5 = .int .i64 x5_1 ∧ Aside0 (colophonkeep_Same.l0 kq l0 l1 x5_1 = some r) ∧ Aside0 (kq ≤ k) ∧ Drawn0 w w')
    case atStart => exact ⟨(0), (by first | rfl | (simp; done) | (simp [*]; done)), H', ⟨Nat.le_refl _⟩, by repeat (first | exact Drawn0.refl _ | apply Drawn0.step)⟩
    case round =>
      clear H'
      try clear c1
      try clear p2
      try clear c3
      try clear c3b0
      try clear c3b1
      try clear c3b2
      obtain ⟨x5_1, rfl, HA, HK1, ⟨m1, rfl⟩⟩ := hrel
      cases gk with
      | zero => exact absurd HA.out (by simp [colophonkeep_Same.l0])
      | succ k1 =>
        have H := HA.out
        clear HA
        simp only [colophonkeep_Same.l0] at H
        by_cases c4 : x5_1 < (l0.length : Int)
        · rw [if_pos c4] at H
          have c4b0 : decide (x5_1 < (l0.length : Int)) = true := decide_eq_true c4
          clear c4
          by_cases c5 : 0 ≤ x5_1
          · rw [if_pos c5] at H
            have c5b0 : decide (0 ≤ x5_1) = true := decide_eq_true c5
            clear c5
            by_cases c6 : x5_1 < (l1.length : Int)
            · rw [if_pos c6] at H
              have c6b0 : decide (x5_1 < (l1.length : Int)) = true := decide_eq_true c6
              clear c6
              by_cases c7 : (rd l0 x5_1) = (rd l1 x5_1)
              · rw [if_pos c7] at H
                have c7b0 : ((rd l0 x5_1) == (rd l1 x5_1)) = true := beq_iff_eq.mpr c7
                have c7b1 : ((rd l0 x5_1) != (rd l1 x5_1)) = false := bne_eq_false_iff_eq.mpr c7
                clear c7
                have H' := Aside0.mk H
                clear H
                have p116 : 0 ≤ (x5_1 : Int) := of_decide_eq_true (by first | (with_reducible assumption) | assumption)
                have q116 : x5_1 < (l0.length : Int) := of_decide_eq_true (by first | (with_reducible assumption) | assumption)
                obtain ⟨ad116, e116, hx116_0⟩ := Kd.at_int HR0.out x5_1 p116 q116
                cases e116
                replace p116 := eq_true p116
                replace q116 := eq_true q116
                have p117 : 0 ≤ (x5_1 : Int) := of_decide_eq_true (by first | (with_reducible assumption) | assumption)
                have q117 : x5_1 < (l1.length : Int) := of_decide_eq_true (by first | (with_reducible assumption) | assumption)
                obtain ⟨ad117, e117, hx117_0⟩ := Kd.at_int HR1.out x5_1 p117 q117
                cases e117
                replace p117 := eq_true p117
                replace q117 := eq_true q117
                go_wp2
                repeat (go_quiet (fail); try go_wp2)
                go_roundg k1
                case measure => have := HK1.out; omega
                case rel => exact ⟨(wrap64 (x5_1 + 1)), (by first | rfl | (simp; done) | (simp [*]; done)), H', ⟨by have := HK1.out; omega⟩, by repeat (first | exact Drawn0.refl _ | apply Drawn0.step)⟩
              · rw [if_neg c7] at H
                have c7b0 : ((rd l0 x5_1) == (rd l1 x5_1)) = false := beq_eq_false_iff_ne.mpr c7
                have c7b1 : ((rd l0 x5_1) != (rd l1 x5_1)) = true := bne_iff_ne.mpr c7
                obtain rfl := Option.some.inj H
                have p116 : 0 ≤ (x5_1 : Int) := of_decide_eq_true (by first | (with_reducible assumption) | assumption)
                have q116 : x5_1 < (l0.length : Int) := of_decide_eq_true (by first | (with_reducible assumption) | assumption)
                obtain ⟨ad116, e116, hx116_0⟩ := Kd.at_int HR0.out x5_1 p116 q116
                cases e116
                replace p116 := eq_true p116
                replace q116 := eq_true q116
                have p117 : 0 ≤ (x5_1 : Int) := of_decide_eq_true (by first | (with_reducible assumption) | assumption)
                have q117 : x5_1 < (l1.length : Int) := of_decide_eq_true (by first | (with_reducible assumption) | assumption)
                obtain ⟨ad117, e117, hx117_0⟩ := Kd.at_int HR1.out x5_1 p117 q117
                cases e117
                replace p117 := eq_true p117
                replace q117 := eq_true q117
                go_wp2
                repeat (go_quiet (fail); try go_wp2)
                go_ret
                exact ⟨by first | rfl | (simp; done) | (simp [*]; done), by repeat (first | exact Drawn0.refl _ | apply Drawn0.step)⟩
            · rw [if_neg c6] at H
              exact absurd H (by simp)
          · rw [if_neg c5] at H
            exact absurd H (by simp)
        · rw [if_neg c4] at H
          have c4b0 : decide (x5_1 < (l0.length : Int)) = false := decide_eq_false c4
          clear c4
          obtain rfl := Option.some.inj H
          go_wp2
          repeat (go_quiet (fail); try go_wp2)
          go_ret
          exact ⟨by first | rfl | (simp; done) | (simp [*]; done), by repeat (first | exact Drawn0.refl _ | apply Drawn0.step)⟩
  · rw [if_neg c3] at H
    have c3b0 : ((l0.length : Int) == (l1.length : Int)) = false := beq_eq_false_iff_ne.mpr c3
    have c3b1 : ((l0.length : Int) != (l1.length : Int)) = true := bne_iff_ne.mpr c3
    have c3b2 : (l0.length == l1.length) = false := by first | simpa using c3 | (simp at c3 ⊢; omega)
    obtain rfl := Option.some.inj H
    go_enter Try.func17, Try.ntmps17
    go_wp2
    repeat (go_quiet (fail); try go_wp2)
    go_ret
    exact ⟨by first | rfl | (simp; done) | (simp [*]; done), by repeat (first | exact Drawn0.refl _ | apply Drawn0.step)⟩

/-! ### colophonlaw27_four: function 34 -/
def colophonlaw27_four.f  : Option ((List (S43))) := some (([(⟨1, 10, 0, 0⟩ : S43), (⟨3, 0, 0, 0⟩ : S43), (⟨1, 10, 0, 0⟩ : S43), (⟨3, 0, 0, 0⟩ : S43), (⟨1, 10, 0, 0⟩ : S43), (⟨3, 0, 0, 0⟩ : S43), (⟨1, 10, 0, 0⟩ : S43), (⟨3, 0, 0, (-10000)⟩ : S43)] : List (S43)))
set_option maxHeartbeats 8000000 in
set_option maxRecDepth 100000 in
theorem colophonlaw27_four.calls  (r : List (S43)) (w : World) (h : colophonlaw27_four.f  = some r) :
    Calls Try.prog 34 #[] w fun e w' => ∃ v0_ : Value, e = .returned (v0_) ∧ Kd.R k43 43 w' w.heap.size (fun _ => True) v0_ r ∧ Below w.heap.size w w' := by
  have hu43 := Try.underlying43
  have HB := Aside0.mk (Below.refl w.heap.size w)
  have H : (some (([(⟨1, 10, 0, 0⟩ : S43), (⟨3, 0, 0, 0⟩ : S43), (⟨1, 10, 0, 0⟩ : S43), (⟨3, 0, 0, 0⟩ : S43), (⟨1, 10, 0, 0⟩ : S43), (⟨3, 0, 0, 0⟩ : S43), (⟨1, 10, 0, 0⟩ : S43), (⟨3, 0, 0, (-10000)⟩ : S43)] : List (S43)))) = some r := h
  clear h
  obtain ⟨y118, hy118⟩ : ∃ y_ : List (S43), y_ = (([(⟨1, 10, 0, 0⟩ : S43), (⟨3, 0, 0, 0⟩ : S43), (⟨1, 10, 0, 0⟩ : S43), (⟨3, 0, 0, 0⟩ : S43), (⟨1, 10, 0, 0⟩ : S43), (⟨3, 0, 0, 0⟩ : S43), (⟨1, 10, 0, 0⟩ : S43), (⟨3, 0, 0, (-10000)⟩ : S43)] : List (S43))) := ⟨_, rfl⟩
  replace H : (some y118) = some r := by first | (rw [hy118]; with_reducible exact H) | (have H2_ := (Option.bind_some _ _).symm.trans H; rw [hy118]; with_reducible exact H2_) | (have H2_ := (Option.bind_some _ _).symm.trans H; with_reducible exact H2_) | with_reducible exact H | (rw [hy118]; exact H) | exact H
  have Ny118 := Aside0.mk hy118
  clear hy118
  obtain rfl := Option.some.inj H
  go_enter Try.func34, Try.ntmps34
  go_wp2_with (first | ((with_reducible refine gate_dst (N := 9) rfl ?_); refine Kd.R_lit k43 _ 43 ?hg (N := 9) ?hd (xs := ([(⟨1, 10, 0, 0⟩ : S43), (⟨3, 0, 0, 0⟩ : S43), (⟨1, 10, 0, 0⟩ : S43), (⟨3, 0, 0, 0⟩ : S43), (⟨1, 10, 0, 0⟩ : S43), (⟨3, 0, 0, 0⟩ : S43), (⟨1, 10, 0, 0⟩ : S43), (⟨3, 0, 0, (-10000)⟩ : S43)] : List (S43))) (inner := [.int .i64 1, .int .i64 10, .int .i64 0, .int .i64 0, .int .i64 3, .int .i64 0, .int .i64 0, .int .i64 0, .int .i64 1, .int .i64 10, .int .i64 0, .int .i64 0, .int .i64 3, .int .i64 0, .int .i64 0, .int .i64 0, .int .i64 1, .int .i64 10, .int .i64 0, .int .i64 0, .int .i64 3, .int .i64 0, .int .i64 0, .int .i64 0, .int .i64 1, .int .i64 10, .int .i64 0, .int .i64 0, .int .i64 3, .int .i64 0, .int .i64 0, .int .i64 (-10000)]) (ok := fun _ => True) (okp := fun _ => True) ?hr ?hp (fun _ hk => hk) trivial (Below.refl _ _) (Nat.le_refl _) (by simp) ?_; (case hd => rfl); (case hg => rfl); (case hr => first | (go_simp; done) | (go_simp; rfl)); (case hp => exact (Reps.c4 (show Kd.M k43 _ _ _ (⟨1, 10, 0, 0⟩ : S43) [.int .i64 1, .int .i64 10, .int .i64 0, .int .i64 0] from (k43_mkM _ _ _ (⟨1, 10, 0, 0⟩ : S43) )) (Reps.c4 (show Kd.M k43 _ _ _ (⟨3, 0, 0, 0⟩ : S43) [.int .i64 3, .int .i64 0, .int .i64 0, .int .i64 0] from (k43_mkM _ _ _ (⟨3, 0, 0, 0⟩ : S43) )) (Reps.c4 (show Kd.M k43 _ _ _ (⟨1, 10, 0, 0⟩ : S43) [.int .i64 1, .int .i64 10, .int .i64 0, .int .i64 0] from (k43_mkM _ _ _ (⟨1, 10, 0, 0⟩ : S43) )) (Reps.c4 (show Kd.M k43 _ _ _ (⟨3, 0, 0, 0⟩ : S43) [.int .i64 3, .int .i64 0, .int .i64 0, .int .i64 0] from (k43_mkM _ _ _ (⟨3, 0, 0, 0⟩ : S43) )) (Reps.c4 (show Kd.M k43 _ _ _ (⟨1, 10, 0, 0⟩ : S43) [.int .i64 1, .int .i64 10, .int .i64 0, .int .i64 0] from (k43_mkM _ _ _ (⟨1, 10, 0, 0⟩ : S43) )) (Reps.c4 (show Kd.M k43 _ _ _ (⟨3, 0, 0, 0⟩ : S43) [.int .i64 3, .int .i64 0, .int .i64 0, .int .i64 0] from (k43_mkM _ _ _ (⟨3, 0, 0, 0⟩ : S43) )) (Reps.c4 (show Kd.M k43 _ _ _ (⟨1, 10, 0, 0⟩ : S43) [.int .i64 1, .int .i64 10, .int .i64 0, .int .i64 0] from (k43_mkM _ _ _ (⟨1, 10, 0, 0⟩ : S43) )) (Reps.c4 (show Kd.M k43 _ _ _ (⟨3, 0, 0, (-10000)⟩ : S43) [.int .i64 3, .int .i64 0, .int .i64 0, .int .i64 (-10000)] from (k43_mkM _ _ _ (⟨3, 0, 0, (-10000)⟩ : S43) )) (Reps.none _ _)))))))))); intro v119 w1 ho2 hb hg_ hnew_; clear hg_ hnew_; (first | rw [← Ny118.out] at ho2 | (simp only [Int.reduceToNat] at ho2; rw [← Ny118.out] at ho2)); have n0_ := Aside0.mk (Kd.R_lower ho2 (below_size (by repeat (first | (with_reducible first | exact HB.out | apply below_alloc | apply pw_below_drewN | apply below_drew1) | exact HB.out)))); have n1_ := Aside0.mk (below_step (by repeat (first | (with_reducible first | exact HB.out | apply below_alloc | apply pw_below_drewN | apply below_drew1) | exact HB.out)) hb); clear HB; have HO120 := n0_; have HB := n1_; clear n0_ n1_; clear hb ho2))
  go_ret
  exact ⟨_, by first | rfl | (simp [errW_none, errW_some] <;> rfl) | (simp [*, errW_none, errW_some] <;> rfl), by (with_reducible repeat (first | apply Kd.R_alloc | apply Kd.R_drewN | apply Kd.R_drew)); exact HO120.out, by repeat (first | (with_reducible first | exact HB.out | apply below_alloc | apply pw_below_drewN | apply below_drew1) | exact HB.out)⟩

/-! ### colophonlaw27_wakes: function 11 -/
def colophonlaw27_wakes.f (k : Nat)  : Option (Bool) := (colophonlaw27_four.f).bind fun t121 => ((pages_Break.f k t121 25).bind fun bt124 => ((pages_Break.f k (([(⟨1, 30, 0, 0⟩ : S43), (⟨3, 0, 0, (-10000)⟩ : S43)] : List (S43))) 25).bind fun bt131 => ((colophonlaw27_four.f).bind fun t135 => ((pages_Best.f k t135 25).bind fun bt138 => (if bt124.2 = 0 then ((colophonkeep_Same.f k bt124.1 (([3, 7] : List Int))).bind fun t146 => (if t146 = true then (if bt131.2 = 270 then (if bt138.2.2 = true then (some (bt138.2.1 == 400)) else (some false)) else (some false)) else (some false))) else (some false))))))
theorem colophonlaw27_wakes.mono : ∀ k, LeO (colophonlaw27_wakes.f k ) (colophonlaw27_wakes.f (k + 1) ) := by
  intro  k
  unfold colophonlaw27_wakes.f
  repeat' first
      | (with_reducible exact colophonkeep_Same.mono _ _ _)
      | (with_reducible exact pages_Best.mono _ _ _)
      | (with_reducible exact pages_Break.mono _ _ _)
      | (with_reducible exact LeO.refl _)
      | (with_reducible exact LeO.none _)
      | (with_reducible refine LeO.ite ?_ ?_)
      | (with_reducible refine LeO.bind ?_ (fun _ => ?_))
      | exact colophonkeep_Same.mono _ _ _
      | exact pages_Best.mono _ _ _
      | exact pages_Break.mono _ _ _
      | exact LeO.none _
      | refine LeO.ite ?_ ?_
      | refine LeO.bind ?_ (fun _ => ?_)
set_option maxHeartbeats 8000000 in
set_option maxRecDepth 100000 in
theorem colophonlaw27_wakes.calls (k : Nat)  (r : Bool) (w : World) (h : colophonlaw27_wakes.f k  = some r) :
    Calls Try.prog 11 #[] w fun e w' => e = .returned (.bool r) ∧ Below w.heap.size w w' := by
  have hu43 := Try.underlying43
  have HB := Aside0.mk (Below.refl w.heap.size w)
  have H : ((colophonlaw27_four.f).bind fun t121 => ((pages_Break.f k t121 25).bind fun bt124 => ((pages_Break.f k (([(⟨1, 30, 0, 0⟩ : S43), (⟨3, 0, 0, (-10000)⟩ : S43)] : List (S43))) 25).bind fun bt131 => ((colophonlaw27_four.f).bind fun t135 => ((pages_Best.f k t135 25).bind fun bt138 => (if bt124.2 = 0 then ((colophonkeep_Same.f k bt124.1 (([3, 7] : List Int))).bind fun t146 => (if t146 = true then (if bt131.2 = 270 then (if bt138.2.2 = true then (some (bt138.2.1 == 400)) else (some false)) else (some false)) else (some false))) else (some false))))))) = some r := h
  clear h
  replace H := Option.bind_eq_some_iff.mp H
  obtain ⟨t121, A10, H⟩ := H
  replace H : ((pages_Break.f k t121 25).bind fun bt124 => ((pages_Break.f k (([(⟨1, 30, 0, 0⟩ : S43), (⟨3, 0, 0, (-10000)⟩ : S43)] : List (S43))) 25).bind fun bt131 => ((colophonlaw27_four.f).bind fun t135 => ((pages_Best.f k t135 25).bind fun bt138 => (if bt124.2 = 0 then ((colophonkeep_Same.f k bt124.1 (([3, 7] : List Int))).bind fun t146 => (if t146 = true then (if bt131.2 = 270 then (if bt138.2.2 = true then (some (bt138.2.1 == 400)) else (some false)) else (some false)) else (some false))) else (some false)))))) = some r := H
  have A1 := Aside0.mk A10
  clear A10
  replace H := Option.bind_eq_some_iff.mp H
  obtain ⟨⟨t124, t125⟩, A20, H⟩ := H
  replace H : ((pages_Break.f k (([(⟨1, 30, 0, 0⟩ : S43), (⟨3, 0, 0, (-10000)⟩ : S43)] : List (S43))) 25).bind fun bt131 => ((colophonlaw27_four.f).bind fun t135 => ((pages_Best.f k t135 25).bind fun bt138 => (if t125 = 0 then ((colophonkeep_Same.f k t124 (([3, 7] : List Int))).bind fun t146 => (if t146 = true then (if bt131.2 = 270 then (if bt138.2.2 = true then (some (bt138.2.1 == 400)) else (some false)) else (some false)) else (some false))) else (some false))))) = some r := H
  have A2 := Aside0.mk A20
  clear A20
  obtain ⟨y128, hy128⟩ : ∃ y_ : List (S43), y_ = (([(⟨1, 30, 0, 0⟩ : S43), (⟨3, 0, 0, (-10000)⟩ : S43)] : List (S43))) := ⟨_, rfl⟩
  replace H : ((pages_Break.f k y128 25).bind fun bt131 => ((colophonlaw27_four.f).bind fun t135 => ((pages_Best.f k t135 25).bind fun bt138 => (if t125 = 0 then ((colophonkeep_Same.f k t124 (([3, 7] : List Int))).bind fun t146 => (if t146 = true then (if bt131.2 = 270 then (if bt138.2.2 = true then (some (bt138.2.1 == 400)) else (some false)) else (some false)) else (some false))) else (some false))))) = some r := by first | (rw [hy128]; with_reducible exact H) | (have H2_ := (Option.bind_some _ _).symm.trans H; rw [hy128]; with_reducible exact H2_) | (have H2_ := (Option.bind_some _ _).symm.trans H; with_reducible exact H2_) | with_reducible exact H | (rw [hy128]; exact H) | exact H
  have Ny128 := Aside0.mk hy128
  clear hy128
  replace H := Option.bind_eq_some_iff.mp H
  obtain ⟨⟨t131, t132⟩, A30, H⟩ := H
  replace H : ((colophonlaw27_four.f).bind fun t135 => ((pages_Best.f k t135 25).bind fun bt138 => (if t125 = 0 then ((colophonkeep_Same.f k t124 (([3, 7] : List Int))).bind fun t146 => (if t146 = true then (if t132 = 270 then (if bt138.2.2 = true then (some (bt138.2.1 == 400)) else (some false)) else (some false)) else (some false))) else (some false)))) = some r := H
  have A3 := Aside0.mk A30
  clear A30
  replace H := Option.bind_eq_some_iff.mp H
  obtain ⟨t135, A40, H⟩ := H
  replace H : ((pages_Best.f k t135 25).bind fun bt138 => (if t125 = 0 then ((colophonkeep_Same.f k t124 (([3, 7] : List Int))).bind fun t146 => (if t146 = true then (if t132 = 270 then (if bt138.2.2 = true then (some (bt138.2.1 == 400)) else (some false)) else (some false)) else (some false))) else (some false))) = some r := H
  have A4 := Aside0.mk A40
  clear A40
  replace H := Option.bind_eq_some_iff.mp H
  obtain ⟨⟨t138, t139, t140⟩, A50, H⟩ := H
  replace H : (if t125 = 0 then ((colophonkeep_Same.f k t124 (([3, 7] : List Int))).bind fun t146 => (if t146 = true then (if t132 = 270 then (if t140 = true then (some (t139 == 400)) else (some false)) else (some false)) else (some false))) else (some false)) = some r := H
  have A5 := Aside0.mk A50
  clear A50
  by_cases c6 : t125 = 0
  · rw [if_pos c6] at H
    have c6b0 : (t125 == 0) = true := beq_iff_eq.mpr c6
    have c6b1 : (t125 != 0) = false := bne_eq_false_iff_eq.mpr c6
    clear c6
    obtain ⟨y143, hy143⟩ : ∃ y_ : List Int, y_ = (([3, 7] : List Int)) := ⟨_, rfl⟩
    replace H : ((colophonkeep_Same.f k t124 y143).bind fun t146 => (if t146 = true then (if t132 = 270 then (if t140 = true then (some (t139 == 400)) else (some false)) else (some false)) else (some false))) = some r := by first | (rw [hy143]; with_reducible exact H) | (have H2_ := (Option.bind_some _ _).symm.trans H; rw [hy143]; with_reducible exact H2_) | (have H2_ := (Option.bind_some _ _).symm.trans H; with_reducible exact H2_) | with_reducible exact H | (rw [hy143]; exact H) | exact H
    have Ny143 := Aside0.mk hy143
    clear hy143
    replace H := Option.bind_eq_some_iff.mp H
    obtain ⟨t146, A70, H⟩ := H
    replace H : (if t146 = true then (if t132 = 270 then (if t140 = true then (some (t139 == 400)) else (some false)) else (some false)) else (some false)) = some r := H
    have A7 := Aside0.mk A70
    clear A70
    by_cases c8 : t146 = true
    · subst c8
      have H1 : (if t132 = 270 then (if t140 = true then (some (t139 == 400)) else (some false)) else (some false)) = some r := by rw [if_pos rfl] at H; exact H
      clear H
      have H := H1
      clear H1
      by_cases c9 : t132 = 270
      · rw [if_pos c9] at H
        have c9b0 : (t132 == 270) = true := beq_iff_eq.mpr c9
        have c9b1 : (t132 != 270) = false := bne_eq_false_iff_eq.mpr c9
        clear c9
        by_cases c10 : t140 = true
        · subst c10
          have H1 : (some (t139 == 400)) = some r := by rw [if_pos rfl] at H; exact H
          clear H
          have H := H1
          clear H1
          obtain rfl := Option.some.inj H
          go_enter Try.func11, Try.ntmps11
          go_wp2_with (first | ((with_reducible refine gate_callee (f := 34) rfl ?_); refine goesL_ (some 9) rfl rfl Try.func34 (by kernel_rfl) rfl #[] rfl (by (try simp only [List.map_toArray, List.map_cons, List.map_nil]); first | done | rfl | (simp only [List.length_drop, List.length_take]; rfl)) ?_; (with_reducible refine (colophonlaw27_four.calls  t121 _ A1.out).mono ?_); rintro e w11 ⟨v122, rfl, ho0, hb⟩; refine ⟨_, rfl, ?_⟩; have n0_ := Aside0.mk (Kd.R_lower ho0 (below_size (by repeat (first | (with_reducible first | exact HB.out | apply below_alloc | apply pw_below_drewN | apply below_drew1) | exact HB.out)))); have n1_ := Aside0.mk (below_step (by repeat (first | (with_reducible first | exact HB.out | apply below_alloc | apply pw_below_drewN | apply below_drew1) | exact HB.out)) hb); clear HB; have HO123 := n0_; have HB := n1_; clear n0_ n1_; (try clear hb); (try clear hb2); (try clear hk); (try clear hi); (try clear ho0); obtain ⟨Ao12, co12, eo12⟩ := Kd.R_slice HO123.out; subst eo12) | ((with_reducible refine gate_callee (f := 13) rfl ?_); refine goesL_ (some 10) rfl rfl Try.func13 (by kernel_rfl) rfl #[.slice Ao12 t121.length co12, .int .i64 25] rfl (by (try simp only [List.map_toArray, List.map_cons, List.map_nil]); first | done | rfl | (simp only [List.length_drop, List.length_take]; rfl)) ?_; (with_reducible refine (pages_Break.calls k _ _ t121 25 t124 t125 _ ?side1 ?side2 A2.out).mono ?_); (case side1 => repeat (first | exact (Kd.R_reads' HO123.out).2.2 | (with_reducible refine Kd.C_alloc ?_ _) | (with_reducible refine Kd.C_drewN ?_ _) | (with_reducible refine Kd.C_drew ?_))); (case side2 => exact (Kd.R_reads' HO123.out).2.1); rintro e w13 ⟨v126, rfl, ho0, hb⟩; refine ⟨_, rfl, ?_⟩; have n0_ := Aside0.mk (Kd.R_below (by (with_reducible repeat (first | apply Kd.R_alloc | apply Kd.R_drewN | apply Kd.R_drew)); exact HO123.out) hb); have n1_ := Aside0.mk (Kd.R_lower ho0 (below_size (by repeat (first | (with_reducible first | exact HB.out | apply below_alloc | apply pw_below_drewN | apply below_drew1) | exact HB.out)))); have n2_ := Aside0.mk (below_step (by repeat (first | (with_reducible first | exact HB.out | apply below_alloc | apply pw_below_drewN | apply below_drew1) | exact HB.out)) hb); clear HO123; clear HB; have HO123 := n0_; have HO127 := n1_; have HB := n2_; clear n0_ n1_ n2_; (try clear hb); (try clear hb2); (try clear hk); (try clear hi); (try clear ho0)) | ((with_reducible refine gate_dst (N := 16) rfl ?_); (try (refine gate_guard (by rfl) ?_; dsimp only)); refine Kd.R_lit k43 _ 43 ?hg (N := 16) ?hd (xs := ([(⟨1, 30, 0, 0⟩ : S43), (⟨3, 0, 0, (-10000)⟩ : S43)] : List (S43))) (inner := [.int .i64 1, .int .i64 30, .int .i64 0, .int .i64 0, .int .i64 3, .int .i64 0, .int .i64 0, .int .i64 (-10000)]) (ok := fun _ => True) (okp := fun _ => True) ?hr ?hp (fun _ hk => hk) trivial (Below.refl _ _) (Nat.le_refl _) (by simp) ?_; (case hd => rfl); (case hg => rfl); (case hr => first | (go_simp; done) | (go_simp; rfl)); (case hp => exact (Reps.c4 (show Kd.M k43 _ _ _ (⟨1, 30, 0, 0⟩ : S43) [.int .i64 1, .int .i64 30, .int .i64 0, .int .i64 0] from (k43_mkM _ _ _ (⟨1, 30, 0, 0⟩ : S43) )) (Reps.c4 (show Kd.M k43 _ _ _ (⟨3, 0, 0, (-10000)⟩ : S43) [.int .i64 3, .int .i64 0, .int .i64 0, .int .i64 (-10000)] from (k43_mkM _ _ _ (⟨3, 0, 0, (-10000)⟩ : S43) )) (Reps.none _ _)))); intro v129 w14 ho15 hb hg_ hnew_; clear hg_ hnew_; (first | rw [← Ny128.out] at ho15 | (simp only [Int.reduceToNat] at ho15; rw [← Ny128.out] at ho15)); have n0_ := Aside0.mk (Kd.R_elder' (by (with_reducible repeat (first | apply Kd.R_alloc | apply Kd.R_drewN | apply Kd.R_drew)); exact HO123.out) (Kd.R_base ho15) hb); have n1_ := Aside0.mk (Kd.R_below (by (with_reducible repeat (first | apply Kd.R_alloc | apply Kd.R_drewN | apply Kd.R_drew)); exact HO127.out) hb); have n2_ := Aside0.mk (Kd.R_lower (Kd.R_new' ho15 (Kd.R_lt (by (with_reducible repeat (first | apply Kd.R_alloc | apply Kd.R_drewN | apply Kd.R_drew)); exact HO123.out))) (below_size (by repeat (first | (with_reducible first | exact HB.out | apply below_alloc | apply pw_below_drewN | apply below_drew1) | exact HB.out)))); have n3_ := Aside0.mk (below_step (by repeat (first | (with_reducible first | exact HB.out | apply below_alloc | apply pw_below_drewN | apply below_drew1) | exact HB.out)) hb); clear HO123; clear HO127; clear HB; have HO123 := n0_; have HO127 := n1_; have HO130 := n2_; have HB := n3_; clear n0_ n1_ n2_ n3_; clear hb ho15; obtain ⟨Ao16, co16, eo16⟩ := Kd.R_slice HO130.out; subst eo16) | ((with_reducible refine gate_callee (f := 13) rfl ?_); refine goesL_ (some 17) rfl rfl Try.func13 (by kernel_rfl) rfl #[.slice Ao16 y128.length co16, .int .i64 25] rfl (by (try simp only [List.map_toArray, List.map_cons, List.map_nil]); first | done | rfl | (simp only [List.length_drop, List.length_take]; rfl)) ?_; (with_reducible refine (pages_Break.calls k _ _ y128 25 t131 t132 _ ?side1 ?side2 A3.out).mono ?_); (case side1 => repeat (first | exact (Kd.R_reads' HO130.out).2.2 | (with_reducible refine Kd.C_alloc ?_ _) | (with_reducible refine Kd.C_drewN ?_ _) | (with_reducible refine Kd.C_drew ?_))); (case side2 => exact (Kd.R_reads' HO130.out).2.1); rintro e w17 ⟨v133, rfl, ho0, hb⟩; refine ⟨_, rfl, ?_⟩; have n0_ := Aside0.mk (Kd.R_below (by (with_reducible repeat (first | apply Kd.R_alloc | apply Kd.R_drewN | apply Kd.R_drew)); exact HO123.out) hb); have n1_ := Aside0.mk (Kd.R_elder' (by (with_reducible repeat (first | apply Kd.R_alloc | apply Kd.R_drewN | apply Kd.R_drew)); exact HO127.out) (Kd.R_base ho0) hb); have n2_ := Aside0.mk (Kd.R_below (by (with_reducible repeat (first | apply Kd.R_alloc | apply Kd.R_drewN | apply Kd.R_drew)); exact HO130.out) hb); have n3_ := Aside0.mk (Kd.R_lower (Kd.R_new' ho0 (Kd.R_lt (by (with_reducible repeat (first | apply Kd.R_alloc | apply Kd.R_drewN | apply Kd.R_drew)); exact HO127.out))) (below_size (by repeat (first | (with_reducible first | exact HB.out | apply below_alloc | apply pw_below_drewN | apply below_drew1) | exact HB.out)))); have n4_ := Aside0.mk (below_step (by repeat (first | (with_reducible first | exact HB.out | apply below_alloc | apply pw_below_drewN | apply below_drew1) | exact HB.out)) hb); clear HO123; clear HO127; clear HO130; clear HB; have HO123 := n0_; have HO127 := n1_; have HO130 := n2_; have HO134 := n3_; have HB := n4_; clear n0_ n1_ n2_ n3_ n4_; (try clear hb); (try clear hb2); (try clear hk); (try clear hi); (try clear ho0)) | ((with_reducible refine gate_callee (f := 34) rfl ?_); refine goesL_ (some 21) rfl rfl Try.func34 (by kernel_rfl) rfl #[] rfl (by (try simp only [List.map_toArray, List.map_cons, List.map_nil]); first | done | rfl | (simp only [List.length_drop, List.length_take]; rfl)) ?_; (with_reducible refine (colophonlaw27_four.calls  t135 _ A4.out).mono ?_); rintro e w18 ⟨v136, rfl, ho0, hb⟩; refine ⟨_, rfl, ?_⟩; have n0_ := Aside0.mk (Kd.R_elder' (by (with_reducible repeat (first | apply Kd.R_alloc | apply Kd.R_drewN | apply Kd.R_drew)); exact HO123.out) (Kd.R_base ho0) hb); have n1_ := Aside0.mk (Kd.R_below (by (with_reducible repeat (first | apply Kd.R_alloc | apply Kd.R_drewN | apply Kd.R_drew)); exact HO127.out) hb); have n2_ := Aside0.mk (Kd.R_elder' (by (with_reducible repeat (first | apply Kd.R_alloc | apply Kd.R_drewN | apply Kd.R_drew)); exact HO130.out) (Kd.R_base ho0) hb); have n3_ := Aside0.mk (Kd.R_below (by (with_reducible repeat (first | apply Kd.R_alloc | apply Kd.R_drewN | apply Kd.R_drew)); exact HO134.out) hb); have n4_ := Aside0.mk (Kd.R_lower (Kd.R_new' (Kd.R_new' ho0 (Kd.R_lt (by (with_reducible repeat (first | apply Kd.R_alloc | apply Kd.R_drewN | apply Kd.R_drew)); exact HO123.out))) (Kd.R_lt (by (with_reducible repeat (first | apply Kd.R_alloc | apply Kd.R_drewN | apply Kd.R_drew)); exact HO130.out))) (below_size (by repeat (first | (with_reducible first | exact HB.out | apply below_alloc | apply pw_below_drewN | apply below_drew1) | exact HB.out)))); have n5_ := Aside0.mk (below_step (by repeat (first | (with_reducible first | exact HB.out | apply below_alloc | apply pw_below_drewN | apply below_drew1) | exact HB.out)) hb); clear HO123; clear HO127; clear HO130; clear HO134; clear HB; have HO123 := n0_; have HO127 := n1_; have HO130 := n2_; have HO134 := n3_; have HO137 := n4_; have HB := n5_; clear n0_ n1_ n2_ n3_ n4_ n5_; (try clear hb); (try clear hb2); (try clear hk); (try clear hi); (try clear ho0); obtain ⟨Ao19, co19, eo19⟩ := Kd.R_slice HO137.out; subst eo19) | ((with_reducible refine gate_callee (f := 15) rfl ?_); refine goesL_ (some 22) rfl rfl Try.func15 (by kernel_rfl) rfl #[.slice Ao19 t135.length co19, .int .i64 25] rfl (by (try simp only [List.map_toArray, List.map_cons, List.map_nil]); first | done | rfl | (simp only [List.length_drop, List.length_take]; rfl)) ?_; (with_reducible refine (pages_Best.calls k _ _ t135 25 t138 t139 true _ ?side1 ?side2 A5.out).mono ?_); (case side1 => repeat (first | exact (Kd.R_reads' HO137.out).2.2 | (with_reducible refine Kd.C_alloc ?_ _) | (with_reducible refine Kd.C_drewN ?_ _) | (with_reducible refine Kd.C_drew ?_))); (case side2 => exact (Kd.R_reads' HO137.out).2.1); rintro e w20 ⟨v141, rfl, ho0, hb⟩; refine ⟨_, rfl, ?_⟩; have n0_ := Aside0.mk (Kd.R_below (by (with_reducible repeat (first | apply Kd.R_alloc | apply Kd.R_drewN | apply Kd.R_drew)); exact HO123.out) hb); have n1_ := Aside0.mk (Kd.R_elder' (by (with_reducible repeat (first | apply Kd.R_alloc | apply Kd.R_drewN | apply Kd.R_drew)); exact HO127.out) (Kd.R_base ho0) hb); have n2_ := Aside0.mk (Kd.R_below (by (with_reducible repeat (first | apply Kd.R_alloc | apply Kd.R_drewN | apply Kd.R_drew)); exact HO130.out) hb); have n3_ := Aside0.mk (Kd.R_elder' (by (with_reducible repeat (first | apply Kd.R_alloc | apply Kd.R_drewN | apply Kd.R_drew)); exact HO134.out) (Kd.R_base ho0) hb); have n4_ := Aside0.mk (Kd.R_below (by (with_reducible repeat (first | apply Kd.R_alloc | apply Kd.R_drewN | apply Kd.R_drew)); exact HO137.out) hb); have n5_ := Aside0.mk (Kd.R_lower (Kd.R_new' (Kd.R_new' ho0 (Kd.R_lt (by (with_reducible repeat (first | apply Kd.R_alloc | apply Kd.R_drewN | apply Kd.R_drew)); exact HO127.out))) (Kd.R_lt (by (with_reducible repeat (first | apply Kd.R_alloc | apply Kd.R_drewN | apply Kd.R_drew)); exact HO134.out))) (below_size (by repeat (first | (with_reducible first | exact HB.out | apply below_alloc | apply pw_below_drewN | apply below_drew1) | exact HB.out)))); have n6_ := Aside0.mk (below_step (by repeat (first | (with_reducible first | exact HB.out | apply below_alloc | apply pw_below_drewN | apply below_drew1) | exact HB.out)) hb); clear HO123; clear HO127; clear HO130; clear HO134; clear HO137; clear HB; have HO123 := n0_; have HO127 := n1_; have HO130 := n2_; have HO134 := n3_; have HO137 := n4_; have HO142 := n5_; have HB := n6_; clear n0_ n1_ n2_ n3_ n4_ n5_ n6_; (try clear hb); (try clear hb2); (try clear hk); (try clear hi); (try clear ho0)) | ((with_reducible refine gate_dst (N := 30) rfl ?_); (try (refine gate_guard (by rfl) ?_; dsimp only)); refine Kd.R_lit (Kd.int .i64) _ 3 ?hg (N := 30) ?hd (xs := ([3, 7] : List Int)) (inner := [.int .i64 3, .int .i64 7]) (ok := fun _ => True) (okp := fun _ => True) ?hr ?hp (fun _ hk => hk) trivial (Below.refl _ _) (Nat.le_refl _) (by simp) ?_; (case hd => rfl); (case hg => rfl); (case hr => first | (go_simp; done) | (go_simp; rfl)); (case hp => exact (Reps.one (show Kd.M (Kd.int .i64) _ _ _ 3 [.int .i64 3] from rfl) (Reps.one (show Kd.M (Kd.int .i64) _ _ _ 7 [.int .i64 7] from rfl) (Reps.none _ _)))); intro v144 w21 ho22 hb hg_ hnew_; clear hg_ hnew_; (first | rw [← Ny143.out] at ho22 | (simp only [Int.reduceToNat] at ho22; rw [← Ny143.out] at ho22)); have n0_ := Aside0.mk (Kd.R_below (by (with_reducible repeat (first | apply Kd.R_alloc | apply Kd.R_drewN | apply Kd.R_drew)); exact HO123.out) hb); have n1_ := Aside0.mk (Kd.R_elder' (by (with_reducible repeat (first | apply Kd.R_alloc | apply Kd.R_drewN | apply Kd.R_drew)); exact HO127.out) (Kd.R_base ho22) hb); have n2_ := Aside0.mk (Kd.R_below (by (with_reducible repeat (first | apply Kd.R_alloc | apply Kd.R_drewN | apply Kd.R_drew)); exact HO130.out) hb); have n3_ := Aside0.mk (Kd.R_elder' (by (with_reducible repeat (first | apply Kd.R_alloc | apply Kd.R_drewN | apply Kd.R_drew)); exact HO134.out) (Kd.R_base ho22) hb); have n4_ := Aside0.mk (Kd.R_below (by (with_reducible repeat (first | apply Kd.R_alloc | apply Kd.R_drewN | apply Kd.R_drew)); exact HO137.out) hb); have n5_ := Aside0.mk (Kd.R_elder' (by (with_reducible repeat (first | apply Kd.R_alloc | apply Kd.R_drewN | apply Kd.R_drew)); exact HO142.out) (Kd.R_base ho22) hb); have n6_ := Aside0.mk (Kd.R_lower (Kd.R_new' (Kd.R_new' (Kd.R_new' ho22 (Kd.R_lt (by (with_reducible repeat (first | apply Kd.R_alloc | apply Kd.R_drewN | apply Kd.R_drew)); exact HO127.out))) (Kd.R_lt (by (with_reducible repeat (first | apply Kd.R_alloc | apply Kd.R_drewN | apply Kd.R_drew)); exact HO134.out))) (Kd.R_lt (by (with_reducible repeat (first | apply Kd.R_alloc | apply Kd.R_drewN | apply Kd.R_drew)); exact HO142.out))) (below_size (by repeat (first | (with_reducible first | exact HB.out | apply below_alloc | apply pw_below_drewN | apply below_drew1) | exact HB.out)))); have n7_ := Aside0.mk (below_step (by repeat (first | (with_reducible first | exact HB.out | apply below_alloc | apply pw_below_drewN | apply below_drew1) | exact HB.out)) hb); clear HO123; clear HO127; clear HO130; clear HO134; clear HO137; clear HO142; clear HB; have HO123 := n0_; have HO127 := n1_; have HO130 := n2_; have HO134 := n3_; have HO137 := n4_; have HO142 := n5_; have HO145 := n6_; have HB := n7_; clear n0_ n1_ n2_ n3_ n4_ n5_ n6_ n7_; clear hb ho22; obtain ⟨Ao23, co23, eo23⟩ := Kd.R_slice HO127.out; subst eo23; obtain ⟨Ao24, co24, eo24⟩ := Kd.R_slice HO145.out; subst eo24) | (go_at_call 17; (with_reducible refine (colophonkeep_Same.calls k _ _ t124 _ _ y143 true _ ?side1 ?side2 ?side3 ?side4 A7.out).mono ?_); (case side1 => repeat (first | exact (Kd.R_reads' HO127.out).2.2 | (with_reducible refine Kd.C_alloc ?_ _) | (with_reducible refine Kd.C_drewN ?_ _) | (with_reducible refine Kd.C_drew ?_))); (case side2 => exact (Kd.R_reads' HO127.out).2.1); (case side3 => repeat (first | exact (Kd.R_reads' HO145.out).2.2 | (with_reducible refine Kd.C_alloc ?_ _) | (with_reducible refine Kd.C_drewN ?_ _) | (with_reducible refine Kd.C_drew ?_))); (case side4 => exact (Kd.R_reads' HO145.out).2.1); rintro e w' ⟨rfl, ⟨nd, rfl⟩⟩))
          go_ret
          exact ⟨by first | rfl | (simp [errW_none, errW_some] <;> rfl) | (simp [*, errW_none, errW_some] <;> rfl), by repeat (first | (with_reducible first | exact HB.out | apply below_alloc | apply pw_below_drewN | apply below_drew1) | exact HB.out)⟩
        · replace c10 := Bool.eq_false_iff.mpr c10
          subst c10
          have H1 : (some false) = some r := by rw [if_neg (show ¬ (false = true) by decide)] at H; exact H
          clear H
          have H := H1
          clear H1
          obtain rfl := Option.some.inj H
          go_enter Try.func11, Try.ntmps11
          go_wp2_with (first | ((with_reducible refine gate_callee (f := 34) rfl ?_); refine goesL_ (some 9) rfl rfl Try.func34 (by kernel_rfl) rfl #[] rfl (by (try simp only [List.map_toArray, List.map_cons, List.map_nil]); first | done | rfl | (simp only [List.length_drop, List.length_take]; rfl)) ?_; (with_reducible refine (colophonlaw27_four.calls  t121 _ A1.out).mono ?_); rintro e w25 ⟨v122, rfl, ho0, hb⟩; refine ⟨_, rfl, ?_⟩; have n0_ := Aside0.mk (Kd.R_lower ho0 (below_size (by repeat (first | (with_reducible first | exact HB.out | apply below_alloc | apply pw_below_drewN | apply below_drew1) | exact HB.out)))); have n1_ := Aside0.mk (below_step (by repeat (first | (with_reducible first | exact HB.out | apply below_alloc | apply pw_below_drewN | apply below_drew1) | exact HB.out)) hb); clear HB; have HO123 := n0_; have HB := n1_; clear n0_ n1_; (try clear hb); (try clear hb2); (try clear hk); (try clear hi); (try clear ho0); obtain ⟨Ao26, co26, eo26⟩ := Kd.R_slice HO123.out; subst eo26) | ((with_reducible refine gate_callee (f := 13) rfl ?_); refine goesL_ (some 10) rfl rfl Try.func13 (by kernel_rfl) rfl #[.slice Ao26 t121.length co26, .int .i64 25] rfl (by (try simp only [List.map_toArray, List.map_cons, List.map_nil]); first | done | rfl | (simp only [List.length_drop, List.length_take]; rfl)) ?_; (with_reducible refine (pages_Break.calls k _ _ t121 25 t124 t125 _ ?side1 ?side2 A2.out).mono ?_); (case side1 => repeat (first | exact (Kd.R_reads' HO123.out).2.2 | (with_reducible refine Kd.C_alloc ?_ _) | (with_reducible refine Kd.C_drewN ?_ _) | (with_reducible refine Kd.C_drew ?_))); (case side2 => exact (Kd.R_reads' HO123.out).2.1); rintro e w27 ⟨v126, rfl, ho0, hb⟩; refine ⟨_, rfl, ?_⟩; have n0_ := Aside0.mk (Kd.R_below (by (with_reducible repeat (first | apply Kd.R_alloc | apply Kd.R_drewN | apply Kd.R_drew)); exact HO123.out) hb); have n1_ := Aside0.mk (Kd.R_lower ho0 (below_size (by repeat (first | (with_reducible first | exact HB.out | apply below_alloc | apply pw_below_drewN | apply below_drew1) | exact HB.out)))); have n2_ := Aside0.mk (below_step (by repeat (first | (with_reducible first | exact HB.out | apply below_alloc | apply pw_below_drewN | apply below_drew1) | exact HB.out)) hb); clear HO123; clear HB; have HO123 := n0_; have HO127 := n1_; have HB := n2_; clear n0_ n1_ n2_; (try clear hb); (try clear hb2); (try clear hk); (try clear hi); (try clear ho0)) | ((with_reducible refine gate_dst (N := 16) rfl ?_); (try (refine gate_guard (by rfl) ?_; dsimp only)); refine Kd.R_lit k43 _ 43 ?hg (N := 16) ?hd (xs := ([(⟨1, 30, 0, 0⟩ : S43), (⟨3, 0, 0, (-10000)⟩ : S43)] : List (S43))) (inner := [.int .i64 1, .int .i64 30, .int .i64 0, .int .i64 0, .int .i64 3, .int .i64 0, .int .i64 0, .int .i64 (-10000)]) (ok := fun _ => True) (okp := fun _ => True) ?hr ?hp (fun _ hk => hk) trivial (Below.refl _ _) (Nat.le_refl _) (by simp) ?_; (case hd => rfl); (case hg => rfl); (case hr => first | (go_simp; done) | (go_simp; rfl)); (case hp => exact (Reps.c4 (show Kd.M k43 _ _ _ (⟨1, 30, 0, 0⟩ : S43) [.int .i64 1, .int .i64 30, .int .i64 0, .int .i64 0] from (k43_mkM _ _ _ (⟨1, 30, 0, 0⟩ : S43) )) (Reps.c4 (show Kd.M k43 _ _ _ (⟨3, 0, 0, (-10000)⟩ : S43) [.int .i64 3, .int .i64 0, .int .i64 0, .int .i64 (-10000)] from (k43_mkM _ _ _ (⟨3, 0, 0, (-10000)⟩ : S43) )) (Reps.none _ _)))); intro v129 w28 ho29 hb hg_ hnew_; clear hg_ hnew_; (first | rw [← Ny128.out] at ho29 | (simp only [Int.reduceToNat] at ho29; rw [← Ny128.out] at ho29)); have n0_ := Aside0.mk (Kd.R_elder' (by (with_reducible repeat (first | apply Kd.R_alloc | apply Kd.R_drewN | apply Kd.R_drew)); exact HO123.out) (Kd.R_base ho29) hb); have n1_ := Aside0.mk (Kd.R_below (by (with_reducible repeat (first | apply Kd.R_alloc | apply Kd.R_drewN | apply Kd.R_drew)); exact HO127.out) hb); have n2_ := Aside0.mk (Kd.R_lower (Kd.R_new' ho29 (Kd.R_lt (by (with_reducible repeat (first | apply Kd.R_alloc | apply Kd.R_drewN | apply Kd.R_drew)); exact HO123.out))) (below_size (by repeat (first | (with_reducible first | exact HB.out | apply below_alloc | apply pw_below_drewN | apply below_drew1) | exact HB.out)))); have n3_ := Aside0.mk (below_step (by repeat (first | (with_reducible first | exact HB.out | apply below_alloc | apply pw_below_drewN | apply below_drew1) | exact HB.out)) hb); clear HO123; clear HO127; clear HB; have HO123 := n0_; have HO127 := n1_; have HO130 := n2_; have HB := n3_; clear n0_ n1_ n2_ n3_; clear hb ho29; obtain ⟨Ao30, co30, eo30⟩ := Kd.R_slice HO130.out; subst eo30) | ((with_reducible refine gate_callee (f := 13) rfl ?_); refine goesL_ (some 17) rfl rfl Try.func13 (by kernel_rfl) rfl #[.slice Ao30 y128.length co30, .int .i64 25] rfl (by (try simp only [List.map_toArray, List.map_cons, List.map_nil]); first | done | rfl | (simp only [List.length_drop, List.length_take]; rfl)) ?_; (with_reducible refine (pages_Break.calls k _ _ y128 25 t131 t132 _ ?side1 ?side2 A3.out).mono ?_); (case side1 => repeat (first | exact (Kd.R_reads' HO130.out).2.2 | (with_reducible refine Kd.C_alloc ?_ _) | (with_reducible refine Kd.C_drewN ?_ _) | (with_reducible refine Kd.C_drew ?_))); (case side2 => exact (Kd.R_reads' HO130.out).2.1); rintro e w31 ⟨v133, rfl, ho0, hb⟩; refine ⟨_, rfl, ?_⟩; have n0_ := Aside0.mk (Kd.R_below (by (with_reducible repeat (first | apply Kd.R_alloc | apply Kd.R_drewN | apply Kd.R_drew)); exact HO123.out) hb); have n1_ := Aside0.mk (Kd.R_elder' (by (with_reducible repeat (first | apply Kd.R_alloc | apply Kd.R_drewN | apply Kd.R_drew)); exact HO127.out) (Kd.R_base ho0) hb); have n2_ := Aside0.mk (Kd.R_below (by (with_reducible repeat (first | apply Kd.R_alloc | apply Kd.R_drewN | apply Kd.R_drew)); exact HO130.out) hb); have n3_ := Aside0.mk (Kd.R_lower (Kd.R_new' ho0 (Kd.R_lt (by (with_reducible repeat (first | apply Kd.R_alloc | apply Kd.R_drewN | apply Kd.R_drew)); exact HO127.out))) (below_size (by repeat (first | (with_reducible first | exact HB.out | apply below_alloc | apply pw_below_drewN | apply below_drew1) | exact HB.out)))); have n4_ := Aside0.mk (below_step (by repeat (first | (with_reducible first | exact HB.out | apply below_alloc | apply pw_below_drewN | apply below_drew1) | exact HB.out)) hb); clear HO123; clear HO127; clear HO130; clear HB; have HO123 := n0_; have HO127 := n1_; have HO130 := n2_; have HO134 := n3_; have HB := n4_; clear n0_ n1_ n2_ n3_ n4_; (try clear hb); (try clear hb2); (try clear hk); (try clear hi); (try clear ho0)) | ((with_reducible refine gate_callee (f := 34) rfl ?_); refine goesL_ (some 21) rfl rfl Try.func34 (by kernel_rfl) rfl #[] rfl (by (try simp only [List.map_toArray, List.map_cons, List.map_nil]); first | done | rfl | (simp only [List.length_drop, List.length_take]; rfl)) ?_; (with_reducible refine (colophonlaw27_four.calls  t135 _ A4.out).mono ?_); rintro e w32 ⟨v136, rfl, ho0, hb⟩; refine ⟨_, rfl, ?_⟩; have n0_ := Aside0.mk (Kd.R_elder' (by (with_reducible repeat (first | apply Kd.R_alloc | apply Kd.R_drewN | apply Kd.R_drew)); exact HO123.out) (Kd.R_base ho0) hb); have n1_ := Aside0.mk (Kd.R_below (by (with_reducible repeat (first | apply Kd.R_alloc | apply Kd.R_drewN | apply Kd.R_drew)); exact HO127.out) hb); have n2_ := Aside0.mk (Kd.R_elder' (by (with_reducible repeat (first | apply Kd.R_alloc | apply Kd.R_drewN | apply Kd.R_drew)); exact HO130.out) (Kd.R_base ho0) hb); have n3_ := Aside0.mk (Kd.R_below (by (with_reducible repeat (first | apply Kd.R_alloc | apply Kd.R_drewN | apply Kd.R_drew)); exact HO134.out) hb); have n4_ := Aside0.mk (Kd.R_lower (Kd.R_new' (Kd.R_new' ho0 (Kd.R_lt (by (with_reducible repeat (first | apply Kd.R_alloc | apply Kd.R_drewN | apply Kd.R_drew)); exact HO123.out))) (Kd.R_lt (by (with_reducible repeat (first | apply Kd.R_alloc | apply Kd.R_drewN | apply Kd.R_drew)); exact HO130.out))) (below_size (by repeat (first | (with_reducible first | exact HB.out | apply below_alloc | apply pw_below_drewN | apply below_drew1) | exact HB.out)))); have n5_ := Aside0.mk (below_step (by repeat (first | (with_reducible first | exact HB.out | apply below_alloc | apply pw_below_drewN | apply below_drew1) | exact HB.out)) hb); clear HO123; clear HO127; clear HO130; clear HO134; clear HB; have HO123 := n0_; have HO127 := n1_; have HO130 := n2_; have HO134 := n3_; have HO137 := n4_; have HB := n5_; clear n0_ n1_ n2_ n3_ n4_ n5_; (try clear hb); (try clear hb2); (try clear hk); (try clear hi); (try clear ho0); obtain ⟨Ao33, co33, eo33⟩ := Kd.R_slice HO137.out; subst eo33) | ((with_reducible refine gate_callee (f := 15) rfl ?_); refine goesL_ (some 22) rfl rfl Try.func15 (by kernel_rfl) rfl #[.slice Ao33 t135.length co33, .int .i64 25] rfl (by (try simp only [List.map_toArray, List.map_cons, List.map_nil]); first | done | rfl | (simp only [List.length_drop, List.length_take]; rfl)) ?_; (with_reducible refine (pages_Best.calls k _ _ t135 25 t138 t139 false _ ?side1 ?side2 A5.out).mono ?_); (case side1 => repeat (first | exact (Kd.R_reads' HO137.out).2.2 | (with_reducible refine Kd.C_alloc ?_ _) | (with_reducible refine Kd.C_drewN ?_ _) | (with_reducible refine Kd.C_drew ?_))); (case side2 => exact (Kd.R_reads' HO137.out).2.1); rintro e w34 ⟨v141, rfl, ho0, hb⟩; refine ⟨_, rfl, ?_⟩; have n0_ := Aside0.mk (Kd.R_below (by (with_reducible repeat (first | apply Kd.R_alloc | apply Kd.R_drewN | apply Kd.R_drew)); exact HO123.out) hb); have n1_ := Aside0.mk (Kd.R_elder' (by (with_reducible repeat (first | apply Kd.R_alloc | apply Kd.R_drewN | apply Kd.R_drew)); exact HO127.out) (Kd.R_base ho0) hb); have n2_ := Aside0.mk (Kd.R_below (by (with_reducible repeat (first | apply Kd.R_alloc | apply Kd.R_drewN | apply Kd.R_drew)); exact HO130.out) hb); have n3_ := Aside0.mk (Kd.R_elder' (by (with_reducible repeat (first | apply Kd.R_alloc | apply Kd.R_drewN | apply Kd.R_drew)); exact HO134.out) (Kd.R_base ho0) hb); have n4_ := Aside0.mk (Kd.R_below (by (with_reducible repeat (first | apply Kd.R_alloc | apply Kd.R_drewN | apply Kd.R_drew)); exact HO137.out) hb); have n5_ := Aside0.mk (Kd.R_lower (Kd.R_new' (Kd.R_new' ho0 (Kd.R_lt (by (with_reducible repeat (first | apply Kd.R_alloc | apply Kd.R_drewN | apply Kd.R_drew)); exact HO127.out))) (Kd.R_lt (by (with_reducible repeat (first | apply Kd.R_alloc | apply Kd.R_drewN | apply Kd.R_drew)); exact HO134.out))) (below_size (by repeat (first | (with_reducible first | exact HB.out | apply below_alloc | apply pw_below_drewN | apply below_drew1) | exact HB.out)))); have n6_ := Aside0.mk (below_step (by repeat (first | (with_reducible first | exact HB.out | apply below_alloc | apply pw_below_drewN | apply below_drew1) | exact HB.out)) hb); clear HO123; clear HO127; clear HO130; clear HO134; clear HO137; clear HB; have HO123 := n0_; have HO127 := n1_; have HO130 := n2_; have HO134 := n3_; have HO137 := n4_; have HO142 := n5_; have HB := n6_; clear n0_ n1_ n2_ n3_ n4_ n5_ n6_; (try clear hb); (try clear hb2); (try clear hk); (try clear hi); (try clear ho0)) | ((with_reducible refine gate_dst (N := 30) rfl ?_); (try (refine gate_guard (by rfl) ?_; dsimp only)); refine Kd.R_lit (Kd.int .i64) _ 3 ?hg (N := 30) ?hd (xs := ([3, 7] : List Int)) (inner := [.int .i64 3, .int .i64 7]) (ok := fun _ => True) (okp := fun _ => True) ?hr ?hp (fun _ hk => hk) trivial (Below.refl _ _) (Nat.le_refl _) (by simp) ?_; (case hd => rfl); (case hg => rfl); (case hr => first | (go_simp; done) | (go_simp; rfl)); (case hp => exact (Reps.one (show Kd.M (Kd.int .i64) _ _ _ 3 [.int .i64 3] from rfl) (Reps.one (show Kd.M (Kd.int .i64) _ _ _ 7 [.int .i64 7] from rfl) (Reps.none _ _)))); intro v144 w35 ho36 hb hg_ hnew_; clear hg_ hnew_; (first | rw [← Ny143.out] at ho36 | (simp only [Int.reduceToNat] at ho36; rw [← Ny143.out] at ho36)); have n0_ := Aside0.mk (Kd.R_below (by (with_reducible repeat (first | apply Kd.R_alloc | apply Kd.R_drewN | apply Kd.R_drew)); exact HO123.out) hb); have n1_ := Aside0.mk (Kd.R_elder' (by (with_reducible repeat (first | apply Kd.R_alloc | apply Kd.R_drewN | apply Kd.R_drew)); exact HO127.out) (Kd.R_base ho36) hb); have n2_ := Aside0.mk (Kd.R_below (by (with_reducible repeat (first | apply Kd.R_alloc | apply Kd.R_drewN | apply Kd.R_drew)); exact HO130.out) hb); have n3_ := Aside0.mk (Kd.R_elder' (by (with_reducible repeat (first | apply Kd.R_alloc | apply Kd.R_drewN | apply Kd.R_drew)); exact HO134.out) (Kd.R_base ho36) hb); have n4_ := Aside0.mk (Kd.R_below (by (with_reducible repeat (first | apply Kd.R_alloc | apply Kd.R_drewN | apply Kd.R_drew)); exact HO137.out) hb); have n5_ := Aside0.mk (Kd.R_elder' (by (with_reducible repeat (first | apply Kd.R_alloc | apply Kd.R_drewN | apply Kd.R_drew)); exact HO142.out) (Kd.R_base ho36) hb); have n6_ := Aside0.mk (Kd.R_lower (Kd.R_new' (Kd.R_new' (Kd.R_new' ho36 (Kd.R_lt (by (with_reducible repeat (first | apply Kd.R_alloc | apply Kd.R_drewN | apply Kd.R_drew)); exact HO127.out))) (Kd.R_lt (by (with_reducible repeat (first | apply Kd.R_alloc | apply Kd.R_drewN | apply Kd.R_drew)); exact HO134.out))) (Kd.R_lt (by (with_reducible repeat (first | apply Kd.R_alloc | apply Kd.R_drewN | apply Kd.R_drew)); exact HO142.out))) (below_size (by repeat (first | (with_reducible first | exact HB.out | apply below_alloc | apply pw_below_drewN | apply below_drew1) | exact HB.out)))); have n7_ := Aside0.mk (below_step (by repeat (first | (with_reducible first | exact HB.out | apply below_alloc | apply pw_below_drewN | apply below_drew1) | exact HB.out)) hb); clear HO123; clear HO127; clear HO130; clear HO134; clear HO137; clear HO142; clear HB; have HO123 := n0_; have HO127 := n1_; have HO130 := n2_; have HO134 := n3_; have HO137 := n4_; have HO142 := n5_; have HO145 := n6_; have HB := n7_; clear n0_ n1_ n2_ n3_ n4_ n5_ n6_ n7_; clear hb ho36; obtain ⟨Ao37, co37, eo37⟩ := Kd.R_slice HO127.out; subst eo37; obtain ⟨Ao38, co38, eo38⟩ := Kd.R_slice HO145.out; subst eo38) | (go_at_call 17; (with_reducible refine (colophonkeep_Same.calls k _ _ t124 _ _ y143 true _ ?side1 ?side2 ?side3 ?side4 A7.out).mono ?_); (case side1 => repeat (first | exact (Kd.R_reads' HO127.out).2.2 | (with_reducible refine Kd.C_alloc ?_ _) | (with_reducible refine Kd.C_drewN ?_ _) | (with_reducible refine Kd.C_drew ?_))); (case side2 => exact (Kd.R_reads' HO127.out).2.1); (case side3 => repeat (first | exact (Kd.R_reads' HO145.out).2.2 | (with_reducible refine Kd.C_alloc ?_ _) | (with_reducible refine Kd.C_drewN ?_ _) | (with_reducible refine Kd.C_drew ?_))); (case side4 => exact (Kd.R_reads' HO145.out).2.1); rintro e w' ⟨rfl, ⟨nd, rfl⟩⟩))
          go_ret
          exact ⟨by first | rfl | (simp [errW_none, errW_some] <;> rfl) | (simp [*, errW_none, errW_some] <;> rfl), by repeat (first | (with_reducible first | exact HB.out | apply below_alloc | apply pw_below_drewN | apply below_drew1) | exact HB.out)⟩
      · rw [if_neg c9] at H
        have c9b0 : (t132 == 270) = false := beq_eq_false_iff_ne.mpr c9
        have c9b1 : (t132 != 270) = true := bne_iff_ne.mpr c9
        obtain rfl := Option.some.inj H
        go_enter Try.func11, Try.ntmps11
        go_wp2_with (first | ((with_reducible refine gate_callee (f := 34) rfl ?_); refine goesL_ (some 9) rfl rfl Try.func34 (by kernel_rfl) rfl #[] rfl (by (try simp only [List.map_toArray, List.map_cons, List.map_nil]); first | done | rfl | (simp only [List.length_drop, List.length_take]; rfl)) ?_; (with_reducible refine (colophonlaw27_four.calls  t121 _ A1.out).mono ?_); rintro e w39 ⟨v122, rfl, ho0, hb⟩; refine ⟨_, rfl, ?_⟩; have n0_ := Aside0.mk (Kd.R_lower ho0 (below_size (by repeat (first | (with_reducible first | exact HB.out | apply below_alloc | apply pw_below_drewN | apply below_drew1) | exact HB.out)))); have n1_ := Aside0.mk (below_step (by repeat (first | (with_reducible first | exact HB.out | apply below_alloc | apply pw_below_drewN | apply below_drew1) | exact HB.out)) hb); clear HB; have HO123 := n0_; have HB := n1_; clear n0_ n1_; (try clear hb); (try clear hb2); (try clear hk); (try clear hi); (try clear ho0); obtain ⟨Ao40, co40, eo40⟩ := Kd.R_slice HO123.out; subst eo40) | ((with_reducible refine gate_callee (f := 13) rfl ?_); refine goesL_ (some 10) rfl rfl Try.func13 (by kernel_rfl) rfl #[.slice Ao40 t121.length co40, .int .i64 25] rfl (by (try simp only [List.map_toArray, List.map_cons, List.map_nil]); first | done | rfl | (simp only [List.length_drop, List.length_take]; rfl)) ?_; (with_reducible refine (pages_Break.calls k _ _ t121 25 t124 t125 _ ?side1 ?side2 A2.out).mono ?_); (case side1 => repeat (first | exact (Kd.R_reads' HO123.out).2.2 | (with_reducible refine Kd.C_alloc ?_ _) | (with_reducible refine Kd.C_drewN ?_ _) | (with_reducible refine Kd.C_drew ?_))); (case side2 => exact (Kd.R_reads' HO123.out).2.1); rintro e w41 ⟨v126, rfl, ho0, hb⟩; refine ⟨_, rfl, ?_⟩; have n0_ := Aside0.mk (Kd.R_below (by (with_reducible repeat (first | apply Kd.R_alloc | apply Kd.R_drewN | apply Kd.R_drew)); exact HO123.out) hb); have n1_ := Aside0.mk (Kd.R_lower ho0 (below_size (by repeat (first | (with_reducible first | exact HB.out | apply below_alloc | apply pw_below_drewN | apply below_drew1) | exact HB.out)))); have n2_ := Aside0.mk (below_step (by repeat (first | (with_reducible first | exact HB.out | apply below_alloc | apply pw_below_drewN | apply below_drew1) | exact HB.out)) hb); clear HO123; clear HB; have HO123 := n0_; have HO127 := n1_; have HB := n2_; clear n0_ n1_ n2_; (try clear hb); (try clear hb2); (try clear hk); (try clear hi); (try clear ho0)) | ((with_reducible refine gate_dst (N := 16) rfl ?_); (try (refine gate_guard (by rfl) ?_; dsimp only)); refine Kd.R_lit k43 _ 43 ?hg (N := 16) ?hd (xs := ([(⟨1, 30, 0, 0⟩ : S43), (⟨3, 0, 0, (-10000)⟩ : S43)] : List (S43))) (inner := [.int .i64 1, .int .i64 30, .int .i64 0, .int .i64 0, .int .i64 3, .int .i64 0, .int .i64 0, .int .i64 (-10000)]) (ok := fun _ => True) (okp := fun _ => True) ?hr ?hp (fun _ hk => hk) trivial (Below.refl _ _) (Nat.le_refl _) (by simp) ?_; (case hd => rfl); (case hg => rfl); (case hr => first | (go_simp; done) | (go_simp; rfl)); (case hp => exact (Reps.c4 (show Kd.M k43 _ _ _ (⟨1, 30, 0, 0⟩ : S43) [.int .i64 1, .int .i64 30, .int .i64 0, .int .i64 0] from (k43_mkM _ _ _ (⟨1, 30, 0, 0⟩ : S43) )) (Reps.c4 (show Kd.M k43 _ _ _ (⟨3, 0, 0, (-10000)⟩ : S43) [.int .i64 3, .int .i64 0, .int .i64 0, .int .i64 (-10000)] from (k43_mkM _ _ _ (⟨3, 0, 0, (-10000)⟩ : S43) )) (Reps.none _ _)))); intro v129 w42 ho43 hb hg_ hnew_; clear hg_ hnew_; (first | rw [← Ny128.out] at ho43 | (simp only [Int.reduceToNat] at ho43; rw [← Ny128.out] at ho43)); have n0_ := Aside0.mk (Kd.R_elder' (by (with_reducible repeat (first | apply Kd.R_alloc | apply Kd.R_drewN | apply Kd.R_drew)); exact HO123.out) (Kd.R_base ho43) hb); have n1_ := Aside0.mk (Kd.R_below (by (with_reducible repeat (first | apply Kd.R_alloc | apply Kd.R_drewN | apply Kd.R_drew)); exact HO127.out) hb); have n2_ := Aside0.mk (Kd.R_lower (Kd.R_new' ho43 (Kd.R_lt (by (with_reducible repeat (first | apply Kd.R_alloc | apply Kd.R_drewN | apply Kd.R_drew)); exact HO123.out))) (below_size (by repeat (first | (with_reducible first | exact HB.out | apply below_alloc | apply pw_below_drewN | apply below_drew1) | exact HB.out)))); have n3_ := Aside0.mk (below_step (by repeat (first | (with_reducible first | exact HB.out | apply below_alloc | apply pw_below_drewN | apply below_drew1) | exact HB.out)) hb); clear HO123; clear HO127; clear HB; have HO123 := n0_; have HO127 := n1_; have HO130 := n2_; have HB := n3_; clear n0_ n1_ n2_ n3_; clear hb ho43; obtain ⟨Ao44, co44, eo44⟩ := Kd.R_slice HO130.out; subst eo44) | ((with_reducible refine gate_callee (f := 13) rfl ?_); refine goesL_ (some 17) rfl rfl Try.func13 (by kernel_rfl) rfl #[.slice Ao44 y128.length co44, .int .i64 25] rfl (by (try simp only [List.map_toArray, List.map_cons, List.map_nil]); first | done | rfl | (simp only [List.length_drop, List.length_take]; rfl)) ?_; (with_reducible refine (pages_Break.calls k _ _ y128 25 t131 t132 _ ?side1 ?side2 A3.out).mono ?_); (case side1 => repeat (first | exact (Kd.R_reads' HO130.out).2.2 | (with_reducible refine Kd.C_alloc ?_ _) | (with_reducible refine Kd.C_drewN ?_ _) | (with_reducible refine Kd.C_drew ?_))); (case side2 => exact (Kd.R_reads' HO130.out).2.1); rintro e w45 ⟨v133, rfl, ho0, hb⟩; refine ⟨_, rfl, ?_⟩; have n0_ := Aside0.mk (Kd.R_below (by (with_reducible repeat (first | apply Kd.R_alloc | apply Kd.R_drewN | apply Kd.R_drew)); exact HO123.out) hb); have n1_ := Aside0.mk (Kd.R_elder' (by (with_reducible repeat (first | apply Kd.R_alloc | apply Kd.R_drewN | apply Kd.R_drew)); exact HO127.out) (Kd.R_base ho0) hb); have n2_ := Aside0.mk (Kd.R_below (by (with_reducible repeat (first | apply Kd.R_alloc | apply Kd.R_drewN | apply Kd.R_drew)); exact HO130.out) hb); have n3_ := Aside0.mk (Kd.R_lower (Kd.R_new' ho0 (Kd.R_lt (by (with_reducible repeat (first | apply Kd.R_alloc | apply Kd.R_drewN | apply Kd.R_drew)); exact HO127.out))) (below_size (by repeat (first | (with_reducible first | exact HB.out | apply below_alloc | apply pw_below_drewN | apply below_drew1) | exact HB.out)))); have n4_ := Aside0.mk (below_step (by repeat (first | (with_reducible first | exact HB.out | apply below_alloc | apply pw_below_drewN | apply below_drew1) | exact HB.out)) hb); clear HO123; clear HO127; clear HO130; clear HB; have HO123 := n0_; have HO127 := n1_; have HO130 := n2_; have HO134 := n3_; have HB := n4_; clear n0_ n1_ n2_ n3_ n4_; (try clear hb); (try clear hb2); (try clear hk); (try clear hi); (try clear ho0)) | ((with_reducible refine gate_callee (f := 34) rfl ?_); refine goesL_ (some 21) rfl rfl Try.func34 (by kernel_rfl) rfl #[] rfl (by (try simp only [List.map_toArray, List.map_cons, List.map_nil]); first | done | rfl | (simp only [List.length_drop, List.length_take]; rfl)) ?_; (with_reducible refine (colophonlaw27_four.calls  t135 _ A4.out).mono ?_); rintro e w46 ⟨v136, rfl, ho0, hb⟩; refine ⟨_, rfl, ?_⟩; have n0_ := Aside0.mk (Kd.R_elder' (by (with_reducible repeat (first | apply Kd.R_alloc | apply Kd.R_drewN | apply Kd.R_drew)); exact HO123.out) (Kd.R_base ho0) hb); have n1_ := Aside0.mk (Kd.R_below (by (with_reducible repeat (first | apply Kd.R_alloc | apply Kd.R_drewN | apply Kd.R_drew)); exact HO127.out) hb); have n2_ := Aside0.mk (Kd.R_elder' (by (with_reducible repeat (first | apply Kd.R_alloc | apply Kd.R_drewN | apply Kd.R_drew)); exact HO130.out) (Kd.R_base ho0) hb); have n3_ := Aside0.mk (Kd.R_below (by (with_reducible repeat (first | apply Kd.R_alloc | apply Kd.R_drewN | apply Kd.R_drew)); exact HO134.out) hb); have n4_ := Aside0.mk (Kd.R_lower (Kd.R_new' (Kd.R_new' ho0 (Kd.R_lt (by (with_reducible repeat (first | apply Kd.R_alloc | apply Kd.R_drewN | apply Kd.R_drew)); exact HO123.out))) (Kd.R_lt (by (with_reducible repeat (first | apply Kd.R_alloc | apply Kd.R_drewN | apply Kd.R_drew)); exact HO130.out))) (below_size (by repeat (first | (with_reducible first | exact HB.out | apply below_alloc | apply pw_below_drewN | apply below_drew1) | exact HB.out)))); have n5_ := Aside0.mk (below_step (by repeat (first | (with_reducible first | exact HB.out | apply below_alloc | apply pw_below_drewN | apply below_drew1) | exact HB.out)) hb); clear HO123; clear HO127; clear HO130; clear HO134; clear HB; have HO123 := n0_; have HO127 := n1_; have HO130 := n2_; have HO134 := n3_; have HO137 := n4_; have HB := n5_; clear n0_ n1_ n2_ n3_ n4_ n5_; (try clear hb); (try clear hb2); (try clear hk); (try clear hi); (try clear ho0); obtain ⟨Ao47, co47, eo47⟩ := Kd.R_slice HO137.out; subst eo47) | ((with_reducible refine gate_callee (f := 15) rfl ?_); refine goesL_ (some 22) rfl rfl Try.func15 (by kernel_rfl) rfl #[.slice Ao47 t135.length co47, .int .i64 25] rfl (by (try simp only [List.map_toArray, List.map_cons, List.map_nil]); first | done | rfl | (simp only [List.length_drop, List.length_take]; rfl)) ?_; (with_reducible refine (pages_Best.calls k _ _ t135 25 t138 t139 t140 _ ?side1 ?side2 A5.out).mono ?_); (case side1 => repeat (first | exact (Kd.R_reads' HO137.out).2.2 | (with_reducible refine Kd.C_alloc ?_ _) | (with_reducible refine Kd.C_drewN ?_ _) | (with_reducible refine Kd.C_drew ?_))); (case side2 => exact (Kd.R_reads' HO137.out).2.1); rintro e w48 ⟨v141, rfl, ho0, hb⟩; refine ⟨_, rfl, ?_⟩; have n0_ := Aside0.mk (Kd.R_below (by (with_reducible repeat (first | apply Kd.R_alloc | apply Kd.R_drewN | apply Kd.R_drew)); exact HO123.out) hb); have n1_ := Aside0.mk (Kd.R_elder' (by (with_reducible repeat (first | apply Kd.R_alloc | apply Kd.R_drewN | apply Kd.R_drew)); exact HO127.out) (Kd.R_base ho0) hb); have n2_ := Aside0.mk (Kd.R_below (by (with_reducible repeat (first | apply Kd.R_alloc | apply Kd.R_drewN | apply Kd.R_drew)); exact HO130.out) hb); have n3_ := Aside0.mk (Kd.R_elder' (by (with_reducible repeat (first | apply Kd.R_alloc | apply Kd.R_drewN | apply Kd.R_drew)); exact HO134.out) (Kd.R_base ho0) hb); have n4_ := Aside0.mk (Kd.R_below (by (with_reducible repeat (first | apply Kd.R_alloc | apply Kd.R_drewN | apply Kd.R_drew)); exact HO137.out) hb); have n5_ := Aside0.mk (Kd.R_lower (Kd.R_new' (Kd.R_new' ho0 (Kd.R_lt (by (with_reducible repeat (first | apply Kd.R_alloc | apply Kd.R_drewN | apply Kd.R_drew)); exact HO127.out))) (Kd.R_lt (by (with_reducible repeat (first | apply Kd.R_alloc | apply Kd.R_drewN | apply Kd.R_drew)); exact HO134.out))) (below_size (by repeat (first | (with_reducible first | exact HB.out | apply below_alloc | apply pw_below_drewN | apply below_drew1) | exact HB.out)))); have n6_ := Aside0.mk (below_step (by repeat (first | (with_reducible first | exact HB.out | apply below_alloc | apply pw_below_drewN | apply below_drew1) | exact HB.out)) hb); clear HO123; clear HO127; clear HO130; clear HO134; clear HO137; clear HB; have HO123 := n0_; have HO127 := n1_; have HO130 := n2_; have HO134 := n3_; have HO137 := n4_; have HO142 := n5_; have HB := n6_; clear n0_ n1_ n2_ n3_ n4_ n5_ n6_; (try clear hb); (try clear hb2); (try clear hk); (try clear hi); (try clear ho0)) | ((with_reducible refine gate_dst (N := 30) rfl ?_); (try (refine gate_guard (by rfl) ?_; dsimp only)); refine Kd.R_lit (Kd.int .i64) _ 3 ?hg (N := 30) ?hd (xs := ([3, 7] : List Int)) (inner := [.int .i64 3, .int .i64 7]) (ok := fun _ => True) (okp := fun _ => True) ?hr ?hp (fun _ hk => hk) trivial (Below.refl _ _) (Nat.le_refl _) (by simp) ?_; (case hd => rfl); (case hg => rfl); (case hr => first | (go_simp; done) | (go_simp; rfl)); (case hp => exact (Reps.one (show Kd.M (Kd.int .i64) _ _ _ 3 [.int .i64 3] from rfl) (Reps.one (show Kd.M (Kd.int .i64) _ _ _ 7 [.int .i64 7] from rfl) (Reps.none _ _)))); intro v144 w49 ho50 hb hg_ hnew_; clear hg_ hnew_; (first | rw [← Ny143.out] at ho50 | (simp only [Int.reduceToNat] at ho50; rw [← Ny143.out] at ho50)); have n0_ := Aside0.mk (Kd.R_below (by (with_reducible repeat (first | apply Kd.R_alloc | apply Kd.R_drewN | apply Kd.R_drew)); exact HO123.out) hb); have n1_ := Aside0.mk (Kd.R_elder' (by (with_reducible repeat (first | apply Kd.R_alloc | apply Kd.R_drewN | apply Kd.R_drew)); exact HO127.out) (Kd.R_base ho50) hb); have n2_ := Aside0.mk (Kd.R_below (by (with_reducible repeat (first | apply Kd.R_alloc | apply Kd.R_drewN | apply Kd.R_drew)); exact HO130.out) hb); have n3_ := Aside0.mk (Kd.R_elder' (by (with_reducible repeat (first | apply Kd.R_alloc | apply Kd.R_drewN | apply Kd.R_drew)); exact HO134.out) (Kd.R_base ho50) hb); have n4_ := Aside0.mk (Kd.R_below (by (with_reducible repeat (first | apply Kd.R_alloc | apply Kd.R_drewN | apply Kd.R_drew)); exact HO137.out) hb); have n5_ := Aside0.mk (Kd.R_elder' (by (with_reducible repeat (first | apply Kd.R_alloc | apply Kd.R_drewN | apply Kd.R_drew)); exact HO142.out) (Kd.R_base ho50) hb); have n6_ := Aside0.mk (Kd.R_lower (Kd.R_new' (Kd.R_new' (Kd.R_new' ho50 (Kd.R_lt (by (with_reducible repeat (first | apply Kd.R_alloc | apply Kd.R_drewN | apply Kd.R_drew)); exact HO127.out))) (Kd.R_lt (by (with_reducible repeat (first | apply Kd.R_alloc | apply Kd.R_drewN | apply Kd.R_drew)); exact HO134.out))) (Kd.R_lt (by (with_reducible repeat (first | apply Kd.R_alloc | apply Kd.R_drewN | apply Kd.R_drew)); exact HO142.out))) (below_size (by repeat (first | (with_reducible first | exact HB.out | apply below_alloc | apply pw_below_drewN | apply below_drew1) | exact HB.out)))); have n7_ := Aside0.mk (below_step (by repeat (first | (with_reducible first | exact HB.out | apply below_alloc | apply pw_below_drewN | apply below_drew1) | exact HB.out)) hb); clear HO123; clear HO127; clear HO130; clear HO134; clear HO137; clear HO142; clear HB; have HO123 := n0_; have HO127 := n1_; have HO130 := n2_; have HO134 := n3_; have HO137 := n4_; have HO142 := n5_; have HO145 := n6_; have HB := n7_; clear n0_ n1_ n2_ n3_ n4_ n5_ n6_ n7_; clear hb ho50; obtain ⟨Ao51, co51, eo51⟩ := Kd.R_slice HO127.out; subst eo51; obtain ⟨Ao52, co52, eo52⟩ := Kd.R_slice HO145.out; subst eo52) | (go_at_call 17; (with_reducible refine (colophonkeep_Same.calls k _ _ t124 _ _ y143 true _ ?side1 ?side2 ?side3 ?side4 A7.out).mono ?_); (case side1 => repeat (first | exact (Kd.R_reads' HO127.out).2.2 | (with_reducible refine Kd.C_alloc ?_ _) | (with_reducible refine Kd.C_drewN ?_ _) | (with_reducible refine Kd.C_drew ?_))); (case side2 => exact (Kd.R_reads' HO127.out).2.1); (case side3 => repeat (first | exact (Kd.R_reads' HO145.out).2.2 | (with_reducible refine Kd.C_alloc ?_ _) | (with_reducible refine Kd.C_drewN ?_ _) | (with_reducible refine Kd.C_drew ?_))); (case side4 => exact (Kd.R_reads' HO145.out).2.1); rintro e w' ⟨rfl, ⟨nd, rfl⟩⟩))
        go_ret
        exact ⟨by first | rfl | (simp [errW_none, errW_some] <;> rfl) | (simp [*, errW_none, errW_some] <;> rfl), by repeat (first | (with_reducible first | exact HB.out | apply below_alloc | apply pw_below_drewN | apply below_drew1) | exact HB.out)⟩
    · replace c8 := Bool.eq_false_iff.mpr c8
      subst c8
      have H1 : (some false) = some r := by rw [if_neg (show ¬ (false = true) by decide)] at H; exact H
      clear H
      have H := H1
      clear H1
      obtain rfl := Option.some.inj H
      go_enter Try.func11, Try.ntmps11
      go_wp2_with (first | ((with_reducible refine gate_callee (f := 34) rfl ?_); refine goesL_ (some 9) rfl rfl Try.func34 (by kernel_rfl) rfl #[] rfl (by (try simp only [List.map_toArray, List.map_cons, List.map_nil]); first | done | rfl | (simp only [List.length_drop, List.length_take]; rfl)) ?_; (with_reducible refine (colophonlaw27_four.calls  t121 _ A1.out).mono ?_); rintro e w53 ⟨v122, rfl, ho0, hb⟩; refine ⟨_, rfl, ?_⟩; have n0_ := Aside0.mk (Kd.R_lower ho0 (below_size (by repeat (first | (with_reducible first | exact HB.out | apply below_alloc | apply pw_below_drewN | apply below_drew1) | exact HB.out)))); have n1_ := Aside0.mk (below_step (by repeat (first | (with_reducible first | exact HB.out | apply below_alloc | apply pw_below_drewN | apply below_drew1) | exact HB.out)) hb); clear HB; have HO123 := n0_; have HB := n1_; clear n0_ n1_; (try clear hb); (try clear hb2); (try clear hk); (try clear hi); (try clear ho0); obtain ⟨Ao54, co54, eo54⟩ := Kd.R_slice HO123.out; subst eo54) | ((with_reducible refine gate_callee (f := 13) rfl ?_); refine goesL_ (some 10) rfl rfl Try.func13 (by kernel_rfl) rfl #[.slice Ao54 t121.length co54, .int .i64 25] rfl (by (try simp only [List.map_toArray, List.map_cons, List.map_nil]); first | done | rfl | (simp only [List.length_drop, List.length_take]; rfl)) ?_; (with_reducible refine (pages_Break.calls k _ _ t121 25 t124 t125 _ ?side1 ?side2 A2.out).mono ?_); (case side1 => repeat (first | exact (Kd.R_reads' HO123.out).2.2 | (with_reducible refine Kd.C_alloc ?_ _) | (with_reducible refine Kd.C_drewN ?_ _) | (with_reducible refine Kd.C_drew ?_))); (case side2 => exact (Kd.R_reads' HO123.out).2.1); rintro e w55 ⟨v126, rfl, ho0, hb⟩; refine ⟨_, rfl, ?_⟩; have n0_ := Aside0.mk (Kd.R_below (by (with_reducible repeat (first | apply Kd.R_alloc | apply Kd.R_drewN | apply Kd.R_drew)); exact HO123.out) hb); have n1_ := Aside0.mk (Kd.R_lower ho0 (below_size (by repeat (first | (with_reducible first | exact HB.out | apply below_alloc | apply pw_below_drewN | apply below_drew1) | exact HB.out)))); have n2_ := Aside0.mk (below_step (by repeat (first | (with_reducible first | exact HB.out | apply below_alloc | apply pw_below_drewN | apply below_drew1) | exact HB.out)) hb); clear HO123; clear HB; have HO123 := n0_; have HO127 := n1_; have HB := n2_; clear n0_ n1_ n2_; (try clear hb); (try clear hb2); (try clear hk); (try clear hi); (try clear ho0)) | ((with_reducible refine gate_dst (N := 16) rfl ?_); (try (refine gate_guard (by rfl) ?_; dsimp only)); refine Kd.R_lit k43 _ 43 ?hg (N := 16) ?hd (xs := ([(⟨1, 30, 0, 0⟩ : S43), (⟨3, 0, 0, (-10000)⟩ : S43)] : List (S43))) (inner := [.int .i64 1, .int .i64 30, .int .i64 0, .int .i64 0, .int .i64 3, .int .i64 0, .int .i64 0, .int .i64 (-10000)]) (ok := fun _ => True) (okp := fun _ => True) ?hr ?hp (fun _ hk => hk) trivial (Below.refl _ _) (Nat.le_refl _) (by simp) ?_; (case hd => rfl); (case hg => rfl); (case hr => first | (go_simp; done) | (go_simp; rfl)); (case hp => exact (Reps.c4 (show Kd.M k43 _ _ _ (⟨1, 30, 0, 0⟩ : S43) [.int .i64 1, .int .i64 30, .int .i64 0, .int .i64 0] from (k43_mkM _ _ _ (⟨1, 30, 0, 0⟩ : S43) )) (Reps.c4 (show Kd.M k43 _ _ _ (⟨3, 0, 0, (-10000)⟩ : S43) [.int .i64 3, .int .i64 0, .int .i64 0, .int .i64 (-10000)] from (k43_mkM _ _ _ (⟨3, 0, 0, (-10000)⟩ : S43) )) (Reps.none _ _)))); intro v129 w56 ho57 hb hg_ hnew_; clear hg_ hnew_; (first | rw [← Ny128.out] at ho57 | (simp only [Int.reduceToNat] at ho57; rw [← Ny128.out] at ho57)); have n0_ := Aside0.mk (Kd.R_elder' (by (with_reducible repeat (first | apply Kd.R_alloc | apply Kd.R_drewN | apply Kd.R_drew)); exact HO123.out) (Kd.R_base ho57) hb); have n1_ := Aside0.mk (Kd.R_below (by (with_reducible repeat (first | apply Kd.R_alloc | apply Kd.R_drewN | apply Kd.R_drew)); exact HO127.out) hb); have n2_ := Aside0.mk (Kd.R_lower (Kd.R_new' ho57 (Kd.R_lt (by (with_reducible repeat (first | apply Kd.R_alloc | apply Kd.R_drewN | apply Kd.R_drew)); exact HO123.out))) (below_size (by repeat (first | (with_reducible first | exact HB.out | apply below_alloc | apply pw_below_drewN | apply below_drew1) | exact HB.out)))); have n3_ := Aside0.mk (below_step (by repeat (first | (with_reducible first | exact HB.out | apply below_alloc | apply pw_below_drewN | apply below_drew1) | exact HB.out)) hb); clear HO123; clear HO127; clear HB; have HO123 := n0_; have HO127 := n1_; have HO130 := n2_; have HB := n3_; clear n0_ n1_ n2_ n3_; clear hb ho57; obtain ⟨Ao58, co58, eo58⟩ := Kd.R_slice HO130.out; subst eo58) | ((with_reducible refine gate_callee (f := 13) rfl ?_); refine goesL_ (some 17) rfl rfl Try.func13 (by kernel_rfl) rfl #[.slice Ao58 y128.length co58, .int .i64 25] rfl (by (try simp only [List.map_toArray, List.map_cons, List.map_nil]); first | done | rfl | (simp only [List.length_drop, List.length_take]; rfl)) ?_; (with_reducible refine (pages_Break.calls k _ _ y128 25 t131 t132 _ ?side1 ?side2 A3.out).mono ?_); (case side1 => repeat (first | exact (Kd.R_reads' HO130.out).2.2 | (with_reducible refine Kd.C_alloc ?_ _) | (with_reducible refine Kd.C_drewN ?_ _) | (with_reducible refine Kd.C_drew ?_))); (case side2 => exact (Kd.R_reads' HO130.out).2.1); rintro e w59 ⟨v133, rfl, ho0, hb⟩; refine ⟨_, rfl, ?_⟩; have n0_ := Aside0.mk (Kd.R_below (by (with_reducible repeat (first | apply Kd.R_alloc | apply Kd.R_drewN | apply Kd.R_drew)); exact HO123.out) hb); have n1_ := Aside0.mk (Kd.R_elder' (by (with_reducible repeat (first | apply Kd.R_alloc | apply Kd.R_drewN | apply Kd.R_drew)); exact HO127.out) (Kd.R_base ho0) hb); have n2_ := Aside0.mk (Kd.R_below (by (with_reducible repeat (first | apply Kd.R_alloc | apply Kd.R_drewN | apply Kd.R_drew)); exact HO130.out) hb); have n3_ := Aside0.mk (Kd.R_lower (Kd.R_new' ho0 (Kd.R_lt (by (with_reducible repeat (first | apply Kd.R_alloc | apply Kd.R_drewN | apply Kd.R_drew)); exact HO127.out))) (below_size (by repeat (first | (with_reducible first | exact HB.out | apply below_alloc | apply pw_below_drewN | apply below_drew1) | exact HB.out)))); have n4_ := Aside0.mk (below_step (by repeat (first | (with_reducible first | exact HB.out | apply below_alloc | apply pw_below_drewN | apply below_drew1) | exact HB.out)) hb); clear HO123; clear HO127; clear HO130; clear HB; have HO123 := n0_; have HO127 := n1_; have HO130 := n2_; have HO134 := n3_; have HB := n4_; clear n0_ n1_ n2_ n3_ n4_; (try clear hb); (try clear hb2); (try clear hk); (try clear hi); (try clear ho0)) | ((with_reducible refine gate_callee (f := 34) rfl ?_); refine goesL_ (some 21) rfl rfl Try.func34 (by kernel_rfl) rfl #[] rfl (by (try simp only [List.map_toArray, List.map_cons, List.map_nil]); first | done | rfl | (simp only [List.length_drop, List.length_take]; rfl)) ?_; (with_reducible refine (colophonlaw27_four.calls  t135 _ A4.out).mono ?_); rintro e w60 ⟨v136, rfl, ho0, hb⟩; refine ⟨_, rfl, ?_⟩; have n0_ := Aside0.mk (Kd.R_elder' (by (with_reducible repeat (first | apply Kd.R_alloc | apply Kd.R_drewN | apply Kd.R_drew)); exact HO123.out) (Kd.R_base ho0) hb); have n1_ := Aside0.mk (Kd.R_below (by (with_reducible repeat (first | apply Kd.R_alloc | apply Kd.R_drewN | apply Kd.R_drew)); exact HO127.out) hb); have n2_ := Aside0.mk (Kd.R_elder' (by (with_reducible repeat (first | apply Kd.R_alloc | apply Kd.R_drewN | apply Kd.R_drew)); exact HO130.out) (Kd.R_base ho0) hb); have n3_ := Aside0.mk (Kd.R_below (by (with_reducible repeat (first | apply Kd.R_alloc | apply Kd.R_drewN | apply Kd.R_drew)); exact HO134.out) hb); have n4_ := Aside0.mk (Kd.R_lower (Kd.R_new' (Kd.R_new' ho0 (Kd.R_lt (by (with_reducible repeat (first | apply Kd.R_alloc | apply Kd.R_drewN | apply Kd.R_drew)); exact HO123.out))) (Kd.R_lt (by (with_reducible repeat (first | apply Kd.R_alloc | apply Kd.R_drewN | apply Kd.R_drew)); exact HO130.out))) (below_size (by repeat (first | (with_reducible first | exact HB.out | apply below_alloc | apply pw_below_drewN | apply below_drew1) | exact HB.out)))); have n5_ := Aside0.mk (below_step (by repeat (first | (with_reducible first | exact HB.out | apply below_alloc | apply pw_below_drewN | apply below_drew1) | exact HB.out)) hb); clear HO123; clear HO127; clear HO130; clear HO134; clear HB; have HO123 := n0_; have HO127 := n1_; have HO130 := n2_; have HO134 := n3_; have HO137 := n4_; have HB := n5_; clear n0_ n1_ n2_ n3_ n4_ n5_; (try clear hb); (try clear hb2); (try clear hk); (try clear hi); (try clear ho0); obtain ⟨Ao61, co61, eo61⟩ := Kd.R_slice HO137.out; subst eo61) | ((with_reducible refine gate_callee (f := 15) rfl ?_); refine goesL_ (some 22) rfl rfl Try.func15 (by kernel_rfl) rfl #[.slice Ao61 t135.length co61, .int .i64 25] rfl (by (try simp only [List.map_toArray, List.map_cons, List.map_nil]); first | done | rfl | (simp only [List.length_drop, List.length_take]; rfl)) ?_; (with_reducible refine (pages_Best.calls k _ _ t135 25 t138 t139 t140 _ ?side1 ?side2 A5.out).mono ?_); (case side1 => repeat (first | exact (Kd.R_reads' HO137.out).2.2 | (with_reducible refine Kd.C_alloc ?_ _) | (with_reducible refine Kd.C_drewN ?_ _) | (with_reducible refine Kd.C_drew ?_))); (case side2 => exact (Kd.R_reads' HO137.out).2.1); rintro e w62 ⟨v141, rfl, ho0, hb⟩; refine ⟨_, rfl, ?_⟩; have n0_ := Aside0.mk (Kd.R_below (by (with_reducible repeat (first | apply Kd.R_alloc | apply Kd.R_drewN | apply Kd.R_drew)); exact HO123.out) hb); have n1_ := Aside0.mk (Kd.R_elder' (by (with_reducible repeat (first | apply Kd.R_alloc | apply Kd.R_drewN | apply Kd.R_drew)); exact HO127.out) (Kd.R_base ho0) hb); have n2_ := Aside0.mk (Kd.R_below (by (with_reducible repeat (first | apply Kd.R_alloc | apply Kd.R_drewN | apply Kd.R_drew)); exact HO130.out) hb); have n3_ := Aside0.mk (Kd.R_elder' (by (with_reducible repeat (first | apply Kd.R_alloc | apply Kd.R_drewN | apply Kd.R_drew)); exact HO134.out) (Kd.R_base ho0) hb); have n4_ := Aside0.mk (Kd.R_below (by (with_reducible repeat (first | apply Kd.R_alloc | apply Kd.R_drewN | apply Kd.R_drew)); exact HO137.out) hb); have n5_ := Aside0.mk (Kd.R_lower (Kd.R_new' (Kd.R_new' ho0 (Kd.R_lt (by (with_reducible repeat (first | apply Kd.R_alloc | apply Kd.R_drewN | apply Kd.R_drew)); exact HO127.out))) (Kd.R_lt (by (with_reducible repeat (first | apply Kd.R_alloc | apply Kd.R_drewN | apply Kd.R_drew)); exact HO134.out))) (below_size (by repeat (first | (with_reducible first | exact HB.out | apply below_alloc | apply pw_below_drewN | apply below_drew1) | exact HB.out)))); have n6_ := Aside0.mk (below_step (by repeat (first | (with_reducible first | exact HB.out | apply below_alloc | apply pw_below_drewN | apply below_drew1) | exact HB.out)) hb); clear HO123; clear HO127; clear HO130; clear HO134; clear HO137; clear HB; have HO123 := n0_; have HO127 := n1_; have HO130 := n2_; have HO134 := n3_; have HO137 := n4_; have HO142 := n5_; have HB := n6_; clear n0_ n1_ n2_ n3_ n4_ n5_ n6_; (try clear hb); (try clear hb2); (try clear hk); (try clear hi); (try clear ho0)) | ((with_reducible refine gate_dst (N := 30) rfl ?_); (try (refine gate_guard (by rfl) ?_; dsimp only)); refine Kd.R_lit (Kd.int .i64) _ 3 ?hg (N := 30) ?hd (xs := ([3, 7] : List Int)) (inner := [.int .i64 3, .int .i64 7]) (ok := fun _ => True) (okp := fun _ => True) ?hr ?hp (fun _ hk => hk) trivial (Below.refl _ _) (Nat.le_refl _) (by simp) ?_; (case hd => rfl); (case hg => rfl); (case hr => first | (go_simp; done) | (go_simp; rfl)); (case hp => exact (Reps.one (show Kd.M (Kd.int .i64) _ _ _ 3 [.int .i64 3] from rfl) (Reps.one (show Kd.M (Kd.int .i64) _ _ _ 7 [.int .i64 7] from rfl) (Reps.none _ _)))); intro v144 w63 ho64 hb hg_ hnew_; clear hg_ hnew_; (first | rw [← Ny143.out] at ho64 | (simp only [Int.reduceToNat] at ho64; rw [← Ny143.out] at ho64)); have n0_ := Aside0.mk (Kd.R_below (by (with_reducible repeat (first | apply Kd.R_alloc | apply Kd.R_drewN | apply Kd.R_drew)); exact HO123.out) hb); have n1_ := Aside0.mk (Kd.R_elder' (by (with_reducible repeat (first | apply Kd.R_alloc | apply Kd.R_drewN | apply Kd.R_drew)); exact HO127.out) (Kd.R_base ho64) hb); have n2_ := Aside0.mk (Kd.R_below (by (with_reducible repeat (first | apply Kd.R_alloc | apply Kd.R_drewN | apply Kd.R_drew)); exact HO130.out) hb); have n3_ := Aside0.mk (Kd.R_elder' (by (with_reducible repeat (first | apply Kd.R_alloc | apply Kd.R_drewN | apply Kd.R_drew)); exact HO134.out) (Kd.R_base ho64) hb); have n4_ := Aside0.mk (Kd.R_below (by (with_reducible repeat (first | apply Kd.R_alloc | apply Kd.R_drewN | apply Kd.R_drew)); exact HO137.out) hb); have n5_ := Aside0.mk (Kd.R_elder' (by (with_reducible repeat (first | apply Kd.R_alloc | apply Kd.R_drewN | apply Kd.R_drew)); exact HO142.out) (Kd.R_base ho64) hb); have n6_ := Aside0.mk (Kd.R_lower (Kd.R_new' (Kd.R_new' (Kd.R_new' ho64 (Kd.R_lt (by (with_reducible repeat (first | apply Kd.R_alloc | apply Kd.R_drewN | apply Kd.R_drew)); exact HO127.out))) (Kd.R_lt (by (with_reducible repeat (first | apply Kd.R_alloc | apply Kd.R_drewN | apply Kd.R_drew)); exact HO134.out))) (Kd.R_lt (by (with_reducible repeat (first | apply Kd.R_alloc | apply Kd.R_drewN | apply Kd.R_drew)); exact HO142.out))) (below_size (by repeat (first | (with_reducible first | exact HB.out | apply below_alloc | apply pw_below_drewN | apply below_drew1) | exact HB.out)))); have n7_ := Aside0.mk (below_step (by repeat (first | (with_reducible first | exact HB.out | apply below_alloc | apply pw_below_drewN | apply below_drew1) | exact HB.out)) hb); clear HO123; clear HO127; clear HO130; clear HO134; clear HO137; clear HO142; clear HB; have HO123 := n0_; have HO127 := n1_; have HO130 := n2_; have HO134 := n3_; have HO137 := n4_; have HO142 := n5_; have HO145 := n6_; have HB := n7_; clear n0_ n1_ n2_ n3_ n4_ n5_ n6_ n7_; clear hb ho64; obtain ⟨Ao65, co65, eo65⟩ := Kd.R_slice HO127.out; subst eo65; obtain ⟨Ao66, co66, eo66⟩ := Kd.R_slice HO145.out; subst eo66) | (go_at_call 17; (with_reducible refine (colophonkeep_Same.calls k _ _ t124 _ _ y143 false _ ?side1 ?side2 ?side3 ?side4 A7.out).mono ?_); (case side1 => repeat (first | exact (Kd.R_reads' HO127.out).2.2 | (with_reducible refine Kd.C_alloc ?_ _) | (with_reducible refine Kd.C_drewN ?_ _) | (with_reducible refine Kd.C_drew ?_))); (case side2 => exact (Kd.R_reads' HO127.out).2.1); (case side3 => repeat (first | exact (Kd.R_reads' HO145.out).2.2 | (with_reducible refine Kd.C_alloc ?_ _) | (with_reducible refine Kd.C_drewN ?_ _) | (with_reducible refine Kd.C_drew ?_))); (case side4 => exact (Kd.R_reads' HO145.out).2.1); rintro e w' ⟨rfl, ⟨nd, rfl⟩⟩))
      go_ret
      exact ⟨by first | rfl | (simp [errW_none, errW_some] <;> rfl) | (simp [*, errW_none, errW_some] <;> rfl), by repeat (first | (with_reducible first | exact HB.out | apply below_alloc | apply pw_below_drewN | apply below_drew1) | exact HB.out)⟩
  · rw [if_neg c6] at H
    have c6b0 : (t125 == 0) = false := beq_eq_false_iff_ne.mpr c6
    have c6b1 : (t125 != 0) = true := bne_iff_ne.mpr c6
    obtain rfl := Option.some.inj H
    go_enter Try.func11, Try.ntmps11
    go_wp2_with (first | ((with_reducible refine gate_callee (f := 34) rfl ?_); refine goesL_ (some 9) rfl rfl Try.func34 (by kernel_rfl) rfl #[] rfl (by (try simp only [List.map_toArray, List.map_cons, List.map_nil]); first | done | rfl | (simp only [List.length_drop, List.length_take]; rfl)) ?_; (with_reducible refine (colophonlaw27_four.calls  t121 _ A1.out).mono ?_); rintro e w67 ⟨v122, rfl, ho0, hb⟩; refine ⟨_, rfl, ?_⟩; have n0_ := Aside0.mk (Kd.R_lower ho0 (below_size (by repeat (first | (with_reducible first | exact HB.out | apply below_alloc | apply pw_below_drewN | apply below_drew1) | exact HB.out)))); have n1_ := Aside0.mk (below_step (by repeat (first | (with_reducible first | exact HB.out | apply below_alloc | apply pw_below_drewN | apply below_drew1) | exact HB.out)) hb); clear HB; have HO123 := n0_; have HB := n1_; clear n0_ n1_; (try clear hb); (try clear hb2); (try clear hk); (try clear hi); (try clear ho0); obtain ⟨Ao68, co68, eo68⟩ := Kd.R_slice HO123.out; subst eo68) | ((with_reducible refine gate_callee (f := 13) rfl ?_); refine goesL_ (some 10) rfl rfl Try.func13 (by kernel_rfl) rfl #[.slice Ao68 t121.length co68, .int .i64 25] rfl (by (try simp only [List.map_toArray, List.map_cons, List.map_nil]); first | done | rfl | (simp only [List.length_drop, List.length_take]; rfl)) ?_; (with_reducible refine (pages_Break.calls k _ _ t121 25 t124 t125 _ ?side1 ?side2 A2.out).mono ?_); (case side1 => repeat (first | exact (Kd.R_reads' HO123.out).2.2 | (with_reducible refine Kd.C_alloc ?_ _) | (with_reducible refine Kd.C_drewN ?_ _) | (with_reducible refine Kd.C_drew ?_))); (case side2 => exact (Kd.R_reads' HO123.out).2.1); rintro e w69 ⟨v126, rfl, ho0, hb⟩; refine ⟨_, rfl, ?_⟩; have n0_ := Aside0.mk (Kd.R_below (by (with_reducible repeat (first | apply Kd.R_alloc | apply Kd.R_drewN | apply Kd.R_drew)); exact HO123.out) hb); have n1_ := Aside0.mk (Kd.R_lower ho0 (below_size (by repeat (first | (with_reducible first | exact HB.out | apply below_alloc | apply pw_below_drewN | apply below_drew1) | exact HB.out)))); have n2_ := Aside0.mk (below_step (by repeat (first | (with_reducible first | exact HB.out | apply below_alloc | apply pw_below_drewN | apply below_drew1) | exact HB.out)) hb); clear HO123; clear HB; have HO123 := n0_; have HO127 := n1_; have HB := n2_; clear n0_ n1_ n2_; (try clear hb); (try clear hb2); (try clear hk); (try clear hi); (try clear ho0)) | ((with_reducible refine gate_dst (N := 16) rfl ?_); (try (refine gate_guard (by rfl) ?_; dsimp only)); refine Kd.R_lit k43 _ 43 ?hg (N := 16) ?hd (xs := ([(⟨1, 30, 0, 0⟩ : S43), (⟨3, 0, 0, (-10000)⟩ : S43)] : List (S43))) (inner := [.int .i64 1, .int .i64 30, .int .i64 0, .int .i64 0, .int .i64 3, .int .i64 0, .int .i64 0, .int .i64 (-10000)]) (ok := fun _ => True) (okp := fun _ => True) ?hr ?hp (fun _ hk => hk) trivial (Below.refl _ _) (Nat.le_refl _) (by simp) ?_; (case hd => rfl); (case hg => rfl); (case hr => first | (go_simp; done) | (go_simp; rfl)); (case hp => exact (Reps.c4 (show Kd.M k43 _ _ _ (⟨1, 30, 0, 0⟩ : S43) [.int .i64 1, .int .i64 30, .int .i64 0, .int .i64 0] from (k43_mkM _ _ _ (⟨1, 30, 0, 0⟩ : S43) )) (Reps.c4 (show Kd.M k43 _ _ _ (⟨3, 0, 0, (-10000)⟩ : S43) [.int .i64 3, .int .i64 0, .int .i64 0, .int .i64 (-10000)] from (k43_mkM _ _ _ (⟨3, 0, 0, (-10000)⟩ : S43) )) (Reps.none _ _)))); intro v129 w70 ho71 hb hg_ hnew_; clear hg_ hnew_; (first | rw [← Ny128.out] at ho71 | (simp only [Int.reduceToNat] at ho71; rw [← Ny128.out] at ho71)); have n0_ := Aside0.mk (Kd.R_elder' (by (with_reducible repeat (first | apply Kd.R_alloc | apply Kd.R_drewN | apply Kd.R_drew)); exact HO123.out) (Kd.R_base ho71) hb); have n1_ := Aside0.mk (Kd.R_below (by (with_reducible repeat (first | apply Kd.R_alloc | apply Kd.R_drewN | apply Kd.R_drew)); exact HO127.out) hb); have n2_ := Aside0.mk (Kd.R_lower (Kd.R_new' ho71 (Kd.R_lt (by (with_reducible repeat (first | apply Kd.R_alloc | apply Kd.R_drewN | apply Kd.R_drew)); exact HO123.out))) (below_size (by repeat (first | (with_reducible first | exact HB.out | apply below_alloc | apply pw_below_drewN | apply below_drew1) | exact HB.out)))); have n3_ := Aside0.mk (below_step (by repeat (first | (with_reducible first | exact HB.out | apply below_alloc | apply pw_below_drewN | apply below_drew1) | exact HB.out)) hb); clear HO123; clear HO127; clear HB; have HO123 := n0_; have HO127 := n1_; have HO130 := n2_; have HB := n3_; clear n0_ n1_ n2_ n3_; clear hb ho71; obtain ⟨Ao72, co72, eo72⟩ := Kd.R_slice HO130.out; subst eo72) | ((with_reducible refine gate_callee (f := 13) rfl ?_); refine goesL_ (some 17) rfl rfl Try.func13 (by kernel_rfl) rfl #[.slice Ao72 y128.length co72, .int .i64 25] rfl (by (try simp only [List.map_toArray, List.map_cons, List.map_nil]); first | done | rfl | (simp only [List.length_drop, List.length_take]; rfl)) ?_; (with_reducible refine (pages_Break.calls k _ _ y128 25 t131 t132 _ ?side1 ?side2 A3.out).mono ?_); (case side1 => repeat (first | exact (Kd.R_reads' HO130.out).2.2 | (with_reducible refine Kd.C_alloc ?_ _) | (with_reducible refine Kd.C_drewN ?_ _) | (with_reducible refine Kd.C_drew ?_))); (case side2 => exact (Kd.R_reads' HO130.out).2.1); rintro e w73 ⟨v133, rfl, ho0, hb⟩; refine ⟨_, rfl, ?_⟩; have n0_ := Aside0.mk (Kd.R_below (by (with_reducible repeat (first | apply Kd.R_alloc | apply Kd.R_drewN | apply Kd.R_drew)); exact HO123.out) hb); have n1_ := Aside0.mk (Kd.R_elder' (by (with_reducible repeat (first | apply Kd.R_alloc | apply Kd.R_drewN | apply Kd.R_drew)); exact HO127.out) (Kd.R_base ho0) hb); have n2_ := Aside0.mk (Kd.R_below (by (with_reducible repeat (first | apply Kd.R_alloc | apply Kd.R_drewN | apply Kd.R_drew)); exact HO130.out) hb); have n3_ := Aside0.mk (Kd.R_lower (Kd.R_new' ho0 (Kd.R_lt (by (with_reducible repeat (first | apply Kd.R_alloc | apply Kd.R_drewN | apply Kd.R_drew)); exact HO127.out))) (below_size (by repeat (first | (with_reducible first | exact HB.out | apply below_alloc | apply pw_below_drewN | apply below_drew1) | exact HB.out)))); have n4_ := Aside0.mk (below_step (by repeat (first | (with_reducible first | exact HB.out | apply below_alloc | apply pw_below_drewN | apply below_drew1) | exact HB.out)) hb); clear HO123; clear HO127; clear HO130; clear HB; have HO123 := n0_; have HO127 := n1_; have HO130 := n2_; have HO134 := n3_; have HB := n4_; clear n0_ n1_ n2_ n3_ n4_; (try clear hb); (try clear hb2); (try clear hk); (try clear hi); (try clear ho0)) | ((with_reducible refine gate_callee (f := 34) rfl ?_); refine goesL_ (some 21) rfl rfl Try.func34 (by kernel_rfl) rfl #[] rfl (by (try simp only [List.map_toArray, List.map_cons, List.map_nil]); first | done | rfl | (simp only [List.length_drop, List.length_take]; rfl)) ?_; (with_reducible refine (colophonlaw27_four.calls  t135 _ A4.out).mono ?_); rintro e w74 ⟨v136, rfl, ho0, hb⟩; refine ⟨_, rfl, ?_⟩; have n0_ := Aside0.mk (Kd.R_elder' (by (with_reducible repeat (first | apply Kd.R_alloc | apply Kd.R_drewN | apply Kd.R_drew)); exact HO123.out) (Kd.R_base ho0) hb); have n1_ := Aside0.mk (Kd.R_below (by (with_reducible repeat (first | apply Kd.R_alloc | apply Kd.R_drewN | apply Kd.R_drew)); exact HO127.out) hb); have n2_ := Aside0.mk (Kd.R_elder' (by (with_reducible repeat (first | apply Kd.R_alloc | apply Kd.R_drewN | apply Kd.R_drew)); exact HO130.out) (Kd.R_base ho0) hb); have n3_ := Aside0.mk (Kd.R_below (by (with_reducible repeat (first | apply Kd.R_alloc | apply Kd.R_drewN | apply Kd.R_drew)); exact HO134.out) hb); have n4_ := Aside0.mk (Kd.R_lower (Kd.R_new' (Kd.R_new' ho0 (Kd.R_lt (by (with_reducible repeat (first | apply Kd.R_alloc | apply Kd.R_drewN | apply Kd.R_drew)); exact HO123.out))) (Kd.R_lt (by (with_reducible repeat (first | apply Kd.R_alloc | apply Kd.R_drewN | apply Kd.R_drew)); exact HO130.out))) (below_size (by repeat (first | (with_reducible first | exact HB.out | apply below_alloc | apply pw_below_drewN | apply below_drew1) | exact HB.out)))); have n5_ := Aside0.mk (below_step (by repeat (first | (with_reducible first | exact HB.out | apply below_alloc | apply pw_below_drewN | apply below_drew1) | exact HB.out)) hb); clear HO123; clear HO127; clear HO130; clear HO134; clear HB; have HO123 := n0_; have HO127 := n1_; have HO130 := n2_; have HO134 := n3_; have HO137 := n4_; have HB := n5_; clear n0_ n1_ n2_ n3_ n4_ n5_; (try clear hb); (try clear hb2); (try clear hk); (try clear hi); (try clear ho0); obtain ⟨Ao75, co75, eo75⟩ := Kd.R_slice HO137.out; subst eo75) | ((with_reducible refine gate_callee (f := 15) rfl ?_); refine goesL_ (some 22) rfl rfl Try.func15 (by kernel_rfl) rfl #[.slice Ao75 t135.length co75, .int .i64 25] rfl (by (try simp only [List.map_toArray, List.map_cons, List.map_nil]); first | done | rfl | (simp only [List.length_drop, List.length_take]; rfl)) ?_; (with_reducible refine (pages_Best.calls k _ _ t135 25 t138 t139 t140 _ ?side1 ?side2 A5.out).mono ?_); (case side1 => repeat (first | exact (Kd.R_reads' HO137.out).2.2 | (with_reducible refine Kd.C_alloc ?_ _) | (with_reducible refine Kd.C_drewN ?_ _) | (with_reducible refine Kd.C_drew ?_))); (case side2 => exact (Kd.R_reads' HO137.out).2.1); rintro e w76 ⟨v141, rfl, ho0, hb⟩; refine ⟨_, rfl, ?_⟩; have n0_ := Aside0.mk (Kd.R_below (by (with_reducible repeat (first | apply Kd.R_alloc | apply Kd.R_drewN | apply Kd.R_drew)); exact HO123.out) hb); have n1_ := Aside0.mk (Kd.R_elder' (by (with_reducible repeat (first | apply Kd.R_alloc | apply Kd.R_drewN | apply Kd.R_drew)); exact HO127.out) (Kd.R_base ho0) hb); have n2_ := Aside0.mk (Kd.R_below (by (with_reducible repeat (first | apply Kd.R_alloc | apply Kd.R_drewN | apply Kd.R_drew)); exact HO130.out) hb); have n3_ := Aside0.mk (Kd.R_elder' (by (with_reducible repeat (first | apply Kd.R_alloc | apply Kd.R_drewN | apply Kd.R_drew)); exact HO134.out) (Kd.R_base ho0) hb); have n4_ := Aside0.mk (Kd.R_below (by (with_reducible repeat (first | apply Kd.R_alloc | apply Kd.R_drewN | apply Kd.R_drew)); exact HO137.out) hb); have n5_ := Aside0.mk (Kd.R_lower (Kd.R_new' (Kd.R_new' ho0 (Kd.R_lt (by (with_reducible repeat (first | apply Kd.R_alloc | apply Kd.R_drewN | apply Kd.R_drew)); exact HO127.out))) (Kd.R_lt (by (with_reducible repeat (first | apply Kd.R_alloc | apply Kd.R_drewN | apply Kd.R_drew)); exact HO134.out))) (below_size (by repeat (first | (with_reducible first | exact HB.out | apply below_alloc | apply pw_below_drewN | apply below_drew1) | exact HB.out)))); have n6_ := Aside0.mk (below_step (by repeat (first | (with_reducible first | exact HB.out | apply below_alloc | apply pw_below_drewN | apply below_drew1) | exact HB.out)) hb); clear HO123; clear HO127; clear HO130; clear HO134; clear HO137; clear HB; have HO123 := n0_; have HO127 := n1_; have HO130 := n2_; have HO134 := n3_; have HO137 := n4_; have HO142 := n5_; have HB := n6_; clear n0_ n1_ n2_ n3_ n4_ n5_ n6_; (try clear hb); (try clear hb2); (try clear hk); (try clear hi); (try clear ho0)))
    go_ret
    exact ⟨by first | rfl | (simp [errW_none, errW_some] <;> rfl) | (simp [*, errW_none, errW_some] <;> rfl), by repeat (first | (with_reducible first | exact HB.out | apply below_alloc | apply pw_below_drewN | apply below_drew1) | exact HB.out)⟩

end Go.Proofs.Ytogjeababinnlaa.PPagesFlow
