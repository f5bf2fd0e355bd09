-- Written by a copy of the print that this session has turned (wip/tools/patchprint.py): arrays as records.
import Derived.Test.YtpembifnjlekdaaPStyleAllx0
import Derived.Test.YtpembifnjlekdaaPStyleAllx3
import Derived.Test.YtpembifnjlekdaaPStyleAllx9
namespace Go.Proofs.Ytpembifnjlekdaa.PStyleAll
open Go.RowKit Go.Proofs.YtpembifnjlekdaaW.PrintWords Go.Proofs.YtpembifnjlekdaaW.PrintLast Go.Proofs.YtpembifnjlekdaaW.PrintMore
attribute [local go_sem] max2_int min2_int max_two min_two max_three min_three max_four min_four   -- for this text's walks alone
set_option linter.unusedVariables false
set_option linter.unusedSimpArgs false

/-! ### colophonref19_Match: function 21 -/
def rcnd (i : Nat) (pk so aj : Bool) : Bool := if (decide (0 < i) && pk) = true then aj else so
def colophonref19_Match.inner (k : Nat) (p : S78) (path : List S56) (i : Nat) (A : List Bool) : Nat → Nat → List Bool → Bool → Option (List Bool)
  | 0, _, E, _ => some E
  | c + 1, j, E, so => (if rcnd i p.f3 (so || (decide (0 < j) && A.getD (j - 1) false)) (decide (0 < j) && A.getD (j - 1) false) = true then colophonref19_Fits.f k p.f0 p.f1 p.f2 p.f3 (rd_T56 path (j : Int)).f0 (rd_T56 path (j : Int)).f1 (rd_T56 path (j : Int)).f2 else some false).bind fun t =>
      colophonref19_Match.inner k p path i A c (j + 1) (E.set j t) (so || (decide (0 < j) && A.getD (j - 1) false))
def colophonref19_Match.go (k : Nat) (path : List S56) : List S78 → Nat → List Bool → Option Bool
  | [], _, A => some (A.getD (path.length - 1) false)
  | p :: r, i, A => (colophonref19_Match.inner k p path i A path.length 0 (List.replicate path.length false) (i == 0)).bind fun E => colophonref19_Match.go k path r (i + 1) E
def colophonref19_Match.f (k : Nat) (ps : List S78) (path : List S56) : Option Bool := if ps.length ≤ 100000 ∧ path.length ≤ 100000 then (if ps.length = 0 ∨ path.length = 0 then some false else colophonref19_Match.go k path ps 0 (List.replicate path.length false)) else none
theorem colophonref19_Match.inner_mono (k : Nat) (p : S78) (path : List S56) (i : Nat) (A : List Bool) : ∀ (c j : Nat) (E : List Bool) (so : Bool), LeO (colophonref19_Match.inner k p path i A c j E so) (colophonref19_Match.inner (k + 1) p path i A c j E so)
  | 0, _, _, _ => LeO.refl _
  | c + 1, j, E, so => by
    rw [colophonref19_Match.inner, colophonref19_Match.inner]
    exact LeO.bind (LeO.ite (colophonref19_Fits.mono _ _ _ _ _ _ _ _) (LeO.refl _)) (fun t => colophonref19_Match.inner_mono k p path i A c _ _ _)
theorem colophonref19_Match.go_mono (k : Nat) (path : List S56) : ∀ (l : List S78) (i : Nat) (E : List Bool), LeO (colophonref19_Match.go k path l i E) (colophonref19_Match.go (k + 1) path l i E)
  | [], _, _ => LeO.refl _
  | p :: r, i, E => by
    rw [colophonref19_Match.go, colophonref19_Match.go]
    exact LeO.bind (colophonref19_Match.inner_mono k p path i E _ _ _ _) (fun E => colophonref19_Match.go_mono k path r _ _)
theorem colophonref19_Match.mono : ∀ a0 a1 k, LeO (colophonref19_Match.f k a0 a1) (colophonref19_Match.f (k + 1) a0 a1) := by
  intro a0 a1 k
  unfold colophonref19_Match.f
  exact LeO.ite (LeO.ite (LeO.refl _) (colophonref19_Match.go_mono k a1 a0 _ _)) (LeO.refl _)
theorem drewB {w : World} {b : Nat} {X : List Bool} (h : St.BRow w b X) : St.BRow w.drew b X := h
set_option maxHeartbeats 8000000 in
set_option maxRecDepth 100000 in
theorem colophonref19_Match.calls (k : Nat) (A0_0 : Option Addr) (c0_0 : Nat) (l0_0 : List (S78)) (A1 : Option Addr) (c1 : Nat) (l1 : List (S56)) (r : Bool) (w : World) (hr0_0 : Kd.C k78 w A0_0 l0_0.length l0_0) (hc0_0 : l0_0.length ≤ c0_0) (hr1 : Kd.C k56 w A1 l1.length l1) (hc1 : l1.length ≤ c1) (h : colophonref19_Match.f k l0_0 l1 = some r) :
    Calls Try.prog 21 #[.agg #[.slice A0_0 l0_0.length c0_0], .slice A1 l1.length c1] w fun e w' => e = .returned (.bool r) ∧ Below w.heap.size w w' := by
  have HR0 := Aside0.mk hr0_0
  have HC0 := Aside0.mk hc0_0
  have HR1 := Aside0.mk hr1
  have HC1 := Aside0.mk hc1
  clear hr0_0 hc0_0 hr1 hc1
  unfold colophonref19_Match.f at h
  by_cases hn : l0_0.length ≤ 100000 ∧ l1.length ≤ 100000
  rotate_left
  · rw [if_neg hn] at h
    exact absurd h (by simp)
  rw [if_pos hn] at h
  have HN := Aside0.mk hn
  by_cases h0 : l0_0.length = 0
  · rw [if_pos (.inl h0)] at h
    obtain rfl := Option.some.inj h
    have g1 : ((l0_0.length : Int) == 0) = true := beq_iff_eq.mpr (by omega)
    have g2 : (l0_0.length == 0) = true := beq_iff_eq.mpr h0
    clear h h0 hn
    go_enter Try.func21, Try.ntmps21
    go_wp2
    go_ret
    exact ⟨rfl, below_alloc (Below.refl _ _) _⟩
  have g1 : ((l0_0.length : Int) == 0) = false := beq_eq_false_iff_ne.mpr (by omega)
  have g2 : (l0_0.length == 0) = false := beq_eq_false_iff_ne.mpr h0
  by_cases h1 : l1.length = 0
  · rw [if_pos (.inr h1)] at h
    obtain rfl := Option.some.inj h
    have g3 : ((l1.length : Int) == 0) = true := beq_iff_eq.mpr (by omega)
    have g4 : (l1.length == 0) = true := beq_iff_eq.mpr h1
    clear h h0 h1 hn
    go_enter Try.func21, Try.ntmps21
    go_wp2
    go_ret
    exact ⟨rfl, below_alloc (Below.refl _ _) _⟩
  rw [if_neg (fun x => x.elim h0 h1)] at h
  have HG := Aside0.mk (show colophonref19_Match.go k l1 (l0_0.drop 0) 0 (List.replicate l1.length false) = some r from h)
  have hmk : ∀ w : World, (Instr.makeSlice 76 (.int .i64 (l1.length : Int)) (.int .i64 (l1.length : Int))).run Try.prog w = .ok (.slice (some ⟨w.heap.size, 0, none⟩) l1.length l1.length) (w.alloc (.cells (St.falseCells l1.length) 4)) := by
    intro w
    obtain ⟨i, hi, he⟩ := Option.map_eq_some_iff.1 St.info4
    simp only [Prod.mk.injEq] at he
    obtain ⟨e1, e2, e3⟩ := he
    have := run_make (P := Try.prog) w 76 4 i (.bool false) Try.underlying76 hi e1 .i64 .i64 (l1.length : Int) (l1.length : Int) (by omega) (by omega) (by rw [e3]; omega) (by omega)
    rw [this, e2, St.made_false, Int.toNat_natCast]
  have g3 : ((l1.length : Int) == 0) = false := beq_eq_false_iff_ne.mpr (by omega)
  have g4 : (l1.length == 0) = false := beq_eq_false_iff_ne.mpr h1
  have HMK := Aside0.mk hmk
  have H1 := Aside0.mk h1
  clear h h0 h1 hn
  go_enter Try.func21, Try.ntmps21
  go_upto_region 5 with (fail)
  clear hmk g1 g2 g3 g4
  have z2 : ((w.alloc (.cells #[.slice A0_0 l0_0.length c0_0] 45)).alloc (.cells (St.falseCells l1.length) 4)).heap[w.heap.size]? = some (.cells #[.slice A0_0 l0_0.length c0_0] 45 (0, 0)) := ((below_alloc (Below.refl _ _) _).block w.heap.size (by simp)).trans (heap_alloc_new w _)
  have z6 : St.BRow ((w.alloc (.cells #[.slice A0_0 l0_0.length c0_0] 45)).alloc (.cells (St.falseCells l1.length) 4)) (w.heap.size + 1) (List.replicate l1.length false) := by
    have h_ := heap_alloc_new (w.alloc (.cells #[.slice A0_0 l0_0.length c0_0] 45)) (.cells (St.falseCells l1.length) 4)
    rw [show (w.alloc (.cells #[.slice A0_0 l0_0.length c0_0] 45)).heap.size = w.heap.size + 1 by simp] at h_
    exact h_
  have hb := below_alloc (below_alloc (Below.refl w.heap.size w) (.cells #[.slice A0_0 l0_0.length c0_0] 45)) (.cells (St.falseCells l1.length) 4)
  obtain ⟨b2, hb2⟩ : ∃ z, z = w.heap.size := ⟨_, rfl⟩
  obtain ⟨bm, hbm⟩ : ∃ z, z = w.heap.size + 1 := ⟨_, rfl⟩
  have HGM : Aside0 (w.heap.size ≤ bm) := ⟨by omega⟩
  have HN2 : Aside0 (b2 ≠ bm) := ⟨by omega⟩
  rw [← hb2] at z2
  rw [← hbm] at z6
  rw [← hbm, ← hb2]
  have Z2 := Aside0.mk z2
  have Z6 := Aside0.mk z6
  have HB := Aside0.mk hb
  clear hb2 hbm z2 z6 hb
  generalize ((w.alloc (.cells #[.slice A0_0 l0_0.length c0_0] 45)).alloc (.cells (St.falseCells l1.length) 4)) = wA at Z2 Z6 HB ⊢
  go_wp2
  go_loopg [7, 8] l0_0.length (fun kq v7 v8 w' => ∃ (i ba : Nat) (E : List Bool), v7 = .slice (some ⟨ba, 0, none⟩) l1.length l1.length ∧ v8 = .int .i64 (i : Int) ∧ Aside0 (i + kq = l0_0.length) ∧ Aside0 (E.length = l1.length) ∧ Aside0 (colophonref19_Match.go k l1 (l0_0.drop i) i E = some r) ∧ Aside0 (St.BRow w' ba E) ∧ Aside0 (b2 ≠ ba) ∧ Aside0 (w'.heap[b2]? = some (.cells #[.slice A0_0 l0_0.length c0_0] 45 (0, 0))) ∧ Aside0 (Below w.heap.size w w'))
  case atStart => exact ⟨0, bm, _, rfl, by first | rfl | simp, ⟨by omega⟩, ⟨by simp⟩, HG, Z6, HN2, Z2, HB⟩
  case round =>
    clear HG Z2 Z6 HB HN2 HGM
    obtain ⟨i, ba, A, rfl, rfl, HK, HE, HG, Z6, HN2, Z2, HB⟩ := hrel
    cases gk with
    | zero =>
      have e : A.getD (l1.length - 1) false = r := by
        have := HG.out
        rw [List.drop_eq_nil_of_le (by have := HK.out; omega), colophonref19_Match.go] at this
        exact Option.some.inj this
      have hx := Z6.out.cell (l1.length - 1) (by rw [HE.out]; have := H1.out; omega)
      rw [e] at hx
      have q0 : IntKind.i64.wrap ((l1.length : Int) - 1) = (l1.length : Int) - 1 := by have := HN.out; rw [IntKind.wrap_i64]; omega
      have q1 : (0 ≤ (l1.length : Int) - 1) = True := eq_true (by have := H1.out; omega)
      have q2 : ((l1.length : Int) - 1 < (l1.length : Int)) = True := eq_true (by omega)
      have q3 : (1 ≤ (l1.length : Int)) = True := eq_true (by have := H1.out; omega)
      have q4 : (0 < l1.length) = True := eq_true (by have := H1.out; omega)
      have q5 : ((l1.length : Int) - 1).toNat = l1.length - 1 := by omega
      have m1 : decide ((i : Int) < (l0_0.length : Int)) = false := decide_eq_false (by have := HK.out; omega)
      have m2 : (i < l0_0.length) = False := eq_false (by have := HK.out; omega)
      have m3 : decide (i < l0_0.length) = false := decide_eq_false (by have := HK.out; omega)
      clear HG e
      go_wp2
      go_ret
      exact ⟨rfl, HB.out⟩
    | succ q =>
      have hi : i < l0_0.length := by have := HK.out; omega
      have H := HG.out
      rw [drop_T78 hi, colophonref19_Match.go] at H
      obtain ⟨E2, AI0, H⟩ := Option.bind_eq_some_iff.mp H
      obtain ⟨ad, A2, c2, ead, hx0, hx1, hx2, hx3, hl2, hi2⟩ := at_T78 HR0.out (i : Int) (by omega) (by omega)
      cases ead
      rw [Int.toNat_natCast] at hx0 hx1 hx2 hx3
      obtain ⟨p, hp⟩ : ∃ x, rd_T78 l0_0 (i : Int) = x := ⟨_, rfl⟩
      rw [hp] at hx0 hx1 hx2 hx3 hl2 hi2 AI0
      obtain ⟨pn, pd, pc, pk⟩ := p
      dsimp only at hx0 hx1 hx2 hx3 hl2 hi2
      obtain ⟨zi, hz⟩ : ∃ z, (i == 0) = z := ⟨_, rfl⟩
      have hz1 : ((i : Int) == 0) = zi := by rw [← hz]; rw [Bool.eq_iff_iff]; simp
      rw [hz] at AI0
      have HZ := Aside0.mk hz
      have AI := Aside0.mk AI0
      have HH := Aside0.mk H
      have HL2 := Aside0.mk hl2
      have HI2 := Aside0.mk hi2
      have HX0 := Aside0.mk (And.intro (World.block_lt_of_cell? w _ hx0) hx0)
      have HX1 := Aside0.mk (And.intro (World.block_lt_of_cell? w _ hx1) hx1)
      have HX2 := Aside0.mk (And.intro (World.block_lt_of_cell? w _ hx2) hx2)
      have HX3 := Aside0.mk (And.intro (World.block_lt_of_cell? w _ hx3) hx3)
      have m1 : decide ((i : Int) < (l0_0.length : Int)) = true := decide_eq_true (by omega)
      have m2 : ((i : Int) < (l0_0.length : Int)) = True := eq_true (by omega)
      have m3 : (0 ≤ (i : Int)) = True := eq_true (by omega)
      have m4 : (i < l0_0.length) = True := eq_true hi
      have m5 : decide (i < l0_0.length) = true := decide_eq_true hi
      have HI := Aside0.mk hi
      have hmk := HMK.out
      clear H AI0 hp HG hl2 hi2 hi hz hx0 hx1 hx2 hx3
      go_upto_region 10 with (fail)
      clear m1 m2 m3 m4 m5 hz1 hmk
      have zn : St.BRow (wr.alloc (.cells (St.falseCells l1.length) 4)) wr.heap.size (List.replicate l1.length false) := heap_alloc_new wr _
      have z6 := Z6.out.below (below_alloc (Below.refl _ _) (.cells (St.falseCells l1.length) 4))
      have z2 := ((below_alloc (Below.refl _ _) (.cells (St.falseCells l1.length) 4)).block b2 (blk_lt Z2.out)).trans Z2.out
      have hb := below_alloc HB.out (.cells (St.falseCells l1.length) 4)
      have hne : ba ≠ wr.heap.size := Nat.ne_of_lt Z6.out.lt
      have hne2 : b2 ≠ wr.heap.size := Nat.ne_of_lt (blk_lt Z2.out)
      have hgn : w.heap.size ≤ wr.heap.size := HB.out.size
      obtain ⟨bn, hbn⟩ : ∃ z, z = wr.heap.size := ⟨_, rfl⟩
      rw [← hbn] at zn hne hne2 hgn ⊢
      clear Z6 Z2 HB hbn
      have ZN := Aside0.mk zn
      have Z6 := Aside0.mk z6
      have Z2 := Aside0.mk z2
      have HB := Aside0.mk hb
      have HNE := Aside0.mk hne
      have HNE2 := Aside0.mk hne2
      have HGN := Aside0.mk hgn
      clear zn z6 z2 hb hne hne2 hgn
      generalize (wr.alloc (.cells (St.falseCells l1.length) 4)) = wB at ZN Z6 Z2 HB ⊢
      go_wp2
      go_loopg [10, 11] l1.length (fun kq v10 v11 w' => ∃ (j : Nat) (E : List Bool) (so : Bool), v10 = .bool so ∧ v11 = .int .i64 (j : Int) ∧ Aside0 (j + kq = l1.length) ∧ Aside0 (E.length = l1.length) ∧ Aside0 (colophonref19_Match.inner k ⟨pn, pd, pc, pk⟩ l1 i A kq j E so = some E2) ∧ Aside0 (St.BRow w' bn E) ∧ Aside0 (St.BRow w' ba A) ∧ Aside0 (w'.heap[b2]? = some (.cells #[.slice (some ad) l0_0.length c0_0] 45 (0, 0))) ∧ Aside0 (Below w.heap.size w w'))
      case atStart => exact ⟨0, _, zi, rfl, by first | rfl | simp, ⟨by omega⟩, ⟨by simp⟩, AI, ZN, Z6, Z2, HB⟩
      case round =>
        clear AI ZN Z6 Z2 HB
        obtain ⟨j, E, so, rfl, rfl, HJ, HLE, AI, ZN, Z6, Z2, HB⟩ := hrel
        cases gk with
        | zero =>
          have e : E = E2 := Option.some.inj AI.out
          subst e
          have m1 : decide ((j : Int) < (l1.length : Int)) = false := decide_eq_false (by have := HJ.out; omega)
          have m2 : (j < l1.length) = False := eq_false (by have := HJ.out; omega)
          have m3 : decide (j < l1.length) = false := decide_eq_false (by have := HJ.out; omega)
          have p6 : IntKind.i64.wrap ((i : Int) + 1) = (i : Int) + 1 := by have := HI.out; have := HN.out; rw [IntKind.wrap_i64]; omega
          clear AI
          go_wp2
          go_roundg q
          case measure => exact Nat.lt_succ_self q
          case rel => exact ⟨i + 1, bn, E, rfl, by go_num, ⟨by have := HK.out; omega⟩, HLE, HH, ZN, HNE2, Z2, HB⟩
        | succ u =>
          have hj : j < l1.length := by have := HJ.out; omega
          have H := AI.out
          rw [colophonref19_Match.inner] at H
          obtain ⟨t, AT0, H⟩ := Option.bind_eq_some_iff.mp H
          obtain ⟨ad3, A3, c3, ead3, hd0, hd1, hd2, hl3, hi3⟩ := at_T56 HR1.out (j : Int) (by omega) (by omega)
          cases ead3
          rw [Int.toNat_natCast] at hd0 hd1 hd2
          obtain ⟨e, he⟩ : ∃ x, rd_T56 l1 (j : Int) = x := ⟨_, rfl⟩
          rw [he] at hd0 hd1 hd2 hl3 hi3 AT0
          obtain ⟨en, ei, ec⟩ := e
          dsimp only at hd0 hd1 hd2 hl3 hi3 AT0
          have HX4 := Aside0.mk (And.intro (World.block_lt_of_cell? w _ hd0) hd0)
          have HX5 := Aside0.mk (And.intro (World.block_lt_of_cell? w _ hd1) hd1)
          have HX6 := Aside0.mk (And.intro (World.block_lt_of_cell? w _ hd2) hd2)
          obtain ⟨zj, hzj⟩ : ∃ z, decide (0 < j) = z := ⟨_, rfl⟩
          obtain ⟨a1, ha1⟩ : ∃ z, A.getD (j - 1) false = z := ⟨_, rfl⟩
          have hzj1 : decide (0 < (j : Int)) = zj := by rw [← hzj]; rw [Bool.eq_iff_iff]; simp
          rw [hzj, ha1] at AT0 H
          have HZJ := Aside0.mk hzj
          have HA1 := Aside0.mk ha1
          have HH2 := Aside0.mk H
          have HL3 := Aside0.mk hl3
          have HI3 := Aside0.mk hi3
          have AT1 := Aside0.mk AT0
          have HJL := Aside0.mk hj
          have m1 : decide ((j : Int) < (l1.length : Int)) = true := decide_eq_true (by omega)
          have m2 : ((j : Int) < (l1.length : Int)) = True := eq_true (by omega)
          have m3 : (0 ≤ (j : Int)) = True := eq_true (by omega)
          have m4 : (j < l1.length) = True := eq_true hj
          have m5 : decide (j < l1.length) = true := decide_eq_true hj
          have AJ : Aside0 (zj = true → wr.cell? ⟨ba, j - 1, none⟩ = some (.bool a1) ∧ IntKind.i64.wrap ((j : Int) - 1) = (j : Int) - 1 ∧ (0 ≤ (j : Int) - 1) = True ∧ ((j : Int) - 1 < (l1.length : Int)) = True ∧ (1 ≤ (j : Int)) = True ∧ ((j : Int) - 1).toNat = j - 1 ∧ (0 < j) = True) := ⟨fun hzt => by
            rw [hzt] at hzj
            have hj0 : 0 < j := of_decide_eq_true hzj
            have h_ := Z6.out.cell (j - 1) (by rw [HE.out]; omega)
            rw [ha1] at h_
            exact ⟨h_, by have := HN.out; rw [IntKind.wrap_i64]; omega, eq_true (by omega), eq_true (by omega), eq_true (by omega), by omega, eq_true hj0⟩⟩
          clear H AT0 he hl3 hi3 AI hd0 hd1 hd2 hzj ha1 hj
          go_upto_region 13 with (fail)
          go_cut [48] (fun v48 wc => v48 = .bool (zj && a1) ∧ wr = wc)
          case first =>
            cases zj with
            | false =>
              have hz2 : decide (0 < j) = false := HZJ.out
              go_wp2
              go_meet
              exact ⟨rfl, rfl⟩
            | true =>
              have hz2 : decide (0 < j) = true := HZJ.out
              obtain ⟨y0, y1, y2, y3, y4, y5, y6⟩ := AJ.out rfl
              go_wp2
              go_meet
              exact ⟨rfl, rfl⟩
          case rest =>
            obtain ⟨rfl, rfl⟩ := hcut
            obtain ⟨aj, haj⟩ : ∃ z, (zj && a1) = z := ⟨_, rfl⟩
            rw [haj] at AT1 HH2 ⊢
            have HAJ := Aside0.mk haj
            clear haj
            go_upto_if 48 with (fail)
            go_cut [10] (fun v10 wc => v10 = .bool (so || aj) ∧ wr = wc)
            case first =>
              cases aj <;> cases so <;> go_wp2 <;> go_meet <;> exact ⟨rfl, rfl⟩
            case rest =>
              obtain ⟨rfl, rfl⟩ := hcut
              obtain ⟨so2, hso2⟩ : ∃ z, (so || aj) = z := ⟨_, rfl⟩
              rw [hso2] at AT1 HH2 ⊢
              clear hso2
              go_upto_region 16 with (fail)
              go_cut [59] (fun v59 wc => v59 = .bool (!zi && pk) ∧ wr = wc)
              case first =>
                have y0 : wr.cell? ⟨b2, 0, none⟩ = some (.slice (some ad) l0_0.length c0_0) := (blk_cell Z2.out 0).trans rfl
                have hz2 : decide (0 < (i : Int)) = !zi := by rw [← HZ.out]; rw [Bool.eq_iff_iff]; simp <;> omega
                have hz4 : decide (0 < i) = !zi := by rw [← HZ.out]; rw [Bool.eq_iff_iff]; simp <;> omega
                have y3 := pw_cell_below HB.out HX3.out.2
                have n1 : ((i : Int) < (l0_0.length : Int)) = True := eq_true (by have := HI.out; omega)
                have n2 : (0 ≤ (i : Int)) = True := eq_true (by omega)
                have n3 : (i < l0_0.length) = True := eq_true HI.out
                cases zi <;> go_wp2 <;> go_meet <;> exact ⟨by first | rfl | simp, rfl⟩
              case rest =>
                obtain ⟨rfl, rfl⟩ := hcut
                obtain ⟨cc, hcc⟩ : ∃ z, rcnd i pk so2 aj = z := ⟨_, rfl⟩
                have hz4 : decide (0 < i) = !zi := by rw [← HZ.out]; rw [Bool.eq_iff_iff]; simp <;> omega
                have HCC : Aside0 ((if (!zi && pk) = true then aj else so2) = cc) := ⟨by rw [← hcc, rcnd, hz4]⟩
                have AT : Aside0 ((if cc = true then colophonref19_Fits.f k pn pd pc pk en ei ec else some false) = some t) := ⟨by rw [← hcc]; exact AT1.out⟩
                clear hz4 hcc AT1
                obtain ⟨zp, hzp⟩ : ∃ z, (!zi && pk) = z := ⟨_, rfl⟩
                rw [hzp] at HCC ⊢
                clear hzp
                go_upto_if 59 with (fail)
                go_cut [12] (fun v12 wc => v12 = .bool cc ∧ wr = wc)
                case first =>
                  cases zp with
                  | false =>
                    have e : so2 = cc := by have := HCC.out; rw [if_neg (by decide)] at this; exact this
                    subst e
                    go_wp2
                    go_meet
                    exact ⟨rfl, rfl⟩
                  | true =>
                    have e : aj = cc := by have := HCC.out; rw [if_pos rfl] at this; exact this
                    have hzc : (zj && a1) = cc := by rw [HAJ.out]; exact e
                    clear e
                    cases zj with
                    | false =>
                      have hz2 : decide (0 < j) = false := HZJ.out
                      obtain rfl : false = cc := hzc
                      go_wp2
                      go_meet
                      exact ⟨rfl, rfl⟩
                    | true =>
                      have hz2 : decide (0 < j) = true := HZJ.out
                      obtain ⟨y0, y1, y2, y3, y4, y5, y6⟩ := AJ.out rfl
                      obtain rfl : a1 = cc := hzc
                      go_wp2
                      go_meet
                      exact ⟨rfl, rfl⟩
                case rest =>
                  obtain ⟨rfl, rfl⟩ := hcut
                  have hx := ZN.out.cell j (by rw [HLE.out]; exact HJL.out)
                  have hf := ZN.out.frozen j
                  have n1 : ((i : Int) < (l0_0.length : Int)) = True := eq_true (by have := HI.out; omega)
                  have n2 : (0 ≤ (i : Int)) = True := eq_true (by omega)
                  have n3 : (i < l0_0.length) = True := eq_true HI.out
                  have p6 : IntKind.i64.wrap ((j : Int) + 1) = (j : Int) + 1 := by have := HJL.out; have := HN.out; rw [IntKind.wrap_i64]; omega
                  clear HCC m1 hzj1
                  cases cc with
                  | false =>
                    have e : t = false := (Option.some.inj AT.out).symm
                    subst e
                    clear AT
                    go_wp2
                    go_region
                    all_goals go_wp2
                    all_goals go_roundg u
                    all_goals first | exact Nat.lt_succ_self u | exact ⟨j + 1, E.set j false, so2, rfl, by go_num, ⟨by have := HJ.out; omega⟩, ⟨by rw [List.length_set]; exact HLE.out⟩, HH2, ⟨drewB (ZN.out.set j false)⟩, ⟨drewB (Z6.out.other HNE.out j _)⟩, ⟨St.drew_heap (blk_far Z2.out HNE2.out _)⟩, ⟨below_drew1 (below_set HB.out HGN.out)⟩⟩
                  | true =>
                    have AT2 : Aside0 (colophonref19_Fits.f k pn pd pc pk en ei ec = some t) := ⟨AT.out⟩
                    clear AT
                    have f0 : ∀ (W : World) (jj : Nat) (u : Value), (W.setCell ⟨bn, jj, none⟩ u).cell? (ad.add (i * 4)) = W.cell? (ad.add (i * 4)) := fun W jj u => World.cell?_setCell_far W ⟨bn, jj, none⟩ _ u (Nat.ne_of_gt (Nat.lt_of_lt_of_le HX0.out.1 HGN.out))
                    have f1 : ∀ (W : World) (jj : Nat) (u : Value), (W.setCell ⟨bn, jj, none⟩ u).cell? ⟨(ad.add (i * 4)).block, (ad.add (i * 4)).off + 1, none⟩ = W.cell? ⟨(ad.add (i * 4)).block, (ad.add (i * 4)).off + 1, none⟩ := fun W jj u => World.cell?_setCell_far W ⟨bn, jj, none⟩ _ u (Nat.ne_of_gt (Nat.lt_of_lt_of_le HX1.out.1 HGN.out))
                    have f2 : ∀ (W : World) (jj : Nat) (u : Value), (W.setCell ⟨bn, jj, none⟩ u).cell? ⟨(ad.add (i * 4)).block, (ad.add (i * 4)).off + 2, none⟩ = W.cell? ⟨(ad.add (i * 4)).block, (ad.add (i * 4)).off + 2, none⟩ := fun W jj u => World.cell?_setCell_far W ⟨bn, jj, none⟩ _ u (Nat.ne_of_gt (Nat.lt_of_lt_of_le HX2.out.1 HGN.out))
                    have f3 : ∀ (W : World) (jj : Nat) (u : Value), (W.setCell ⟨bn, jj, none⟩ u).cell? ⟨(ad.add (i * 4)).block, (ad.add (i * 4)).off + 3, none⟩ = W.cell? ⟨(ad.add (i * 4)).block, (ad.add (i * 4)).off + 3, none⟩ := fun W jj u => World.cell?_setCell_far W ⟨bn, jj, none⟩ _ u (Nat.ne_of_gt (Nat.lt_of_lt_of_le HX3.out.1 HGN.out))
                    have f4 : ∀ (W : World) (jj : Nat) (u : Value), (W.setCell ⟨bn, jj, none⟩ u).cell? (ad3.add (j * 3)) = W.cell? (ad3.add (j * 3)) := fun W jj u => World.cell?_setCell_far W ⟨bn, jj, none⟩ _ u (Nat.ne_of_gt (Nat.lt_of_lt_of_le HX4.out.1 HGN.out))
                    have f5 : ∀ (W : World) (jj : Nat) (u : Value), (W.setCell ⟨bn, jj, none⟩ u).cell? ⟨(ad3.add (j * 3)).block, (ad3.add (j * 3)).off + 1, none⟩ = W.cell? ⟨(ad3.add (j * 3)).block, (ad3.add (j * 3)).off + 1, none⟩ := fun W jj u => World.cell?_setCell_far W ⟨bn, jj, none⟩ _ u (Nat.ne_of_gt (Nat.lt_of_lt_of_le HX5.out.1 HGN.out))
                    have f6 : ∀ (W : World) (jj : Nat) (u : Value), (W.setCell ⟨bn, jj, none⟩ u).cell? ⟨(ad3.add (j * 3)).block, (ad3.add (j * 3)).off + 2, none⟩ = W.cell? ⟨(ad3.add (j * 3)).block, (ad3.add (j * 3)).off + 2, none⟩ := fun W jj u => World.cell?_setCell_far W ⟨bn, jj, none⟩ _ u (Nat.ne_of_gt (Nat.lt_of_lt_of_le HX6.out.1 HGN.out))
                    have y0 := pw_cell_below HB.out HX0.out.2
                    have y1 := pw_cell_below HB.out HX1.out.2
                    have y2 := pw_cell_below HB.out HX2.out.2
                    have y3 := pw_cell_below HB.out HX3.out.2
                    have y4 := pw_cell_below HB.out HX4.out.2
                    have y5 := pw_cell_below HB.out HX5.out.2
                    have y6 := pw_cell_below HB.out HX6.out.2
                    have y7 : wr.cell? ⟨b2, 0, none⟩ = some (.slice (some ad) l0_0.length c0_0) := (blk_cell Z2.out 0).trans rfl
                    have f7 : ∀ (W : World) (j : Nat) (u : Value), (W.setCell ⟨bn, j, none⟩ u).cell? ⟨b2, 0, none⟩ = W.cell? ⟨b2, 0, none⟩ := fun W j u => World.cell?_setCell_far W ⟨bn, j, none⟩ _ u (Ne.symm HNE2.out)
                    go_wp2
                    go_region_held3 (fun w' => w'.cell? ⟨b2, 0, none⟩ = some (.slice (some ad) l0_0.length c0_0) ∧ w'.cell? (ad.add (i * 4)) = some (.string pn) ∧ w'.cell? ⟨(ad.add (i * 4)).block, (ad.add (i * 4)).off + 1, none⟩ = some (.string pd) ∧ w'.cell? ⟨(ad.add (i * 4)).block, (ad.add (i * 4)).off + 2, none⟩ = some (.slice A2 pc.length c2) ∧ w'.cell? ⟨(ad.add (i * 4)).block, (ad.add (i * 4)).off + 3, none⟩ = some (.bool pk) ∧ w'.cell? (ad3.add (j * 3)) = some (.string en) ∧ w'.cell? ⟨(ad3.add (j * 3)).block, (ad3.add (j * 3)).off + 1, none⟩ = some (.string ei) ∧ w'.cell? ⟨(ad3.add (j * 3)).block, (ad3.add (j * 3)).off + 2, none⟩ = some (.slice A3 ec.length c3)) (simp [*, World.cell?_alloc_some]) ((go_at_call 41; (with_reducible refine (colophonref19_Fits.calls k pn pd A2 c2 pc pk en ei A3 c3 ec t _ ?_ HL2.out ?_ HL3.out AT2.out).mono ?_); (exact Kd.C_drew (Kd.C_below HI2.out HB.out)); (exact Kd.C_drew (Kd.C_below HI3.out HB.out)); rintro e w5 ⟨rfl, hb0⟩; have hb := below_step (below_drew1 (Below.refl _ _)) hb0; have nN_ := Aside0.mk (ZN.out.below hb); have n6_ := Aside0.mk (Z6.out.below hb); have n2_ := Aside0.mk ((hb.block b2 (blk_lt Z2.out)).trans Z2.out); have nB_ := Aside0.mk (below_step HB.out hb); clear ZN Z6 Z2 HB hx hf y0 y1 y2 y3 y4 y5 y6 y7; have ZN := nN_; have Z6 := n6_; have Z2 := n2_; have HB := nB_; clear nN_ n6_ n2_ nB_ hb hb0; have hx := ZN.out.cell j (by rw [HLE.out]; exact HJL.out); have hf := ZN.out.frozen j; have y0 := pw_cell_below HB.out HX0.out.2; have y1 := pw_cell_below HB.out HX1.out.2; have y2 := pw_cell_below HB.out HX2.out.2; have y3 := pw_cell_below HB.out HX3.out.2; have y4 := pw_cell_below HB.out HX4.out.2; have y5 := pw_cell_below HB.out HX5.out.2; have y6 := pw_cell_below HB.out HX6.out.2; have y7 : w5.cell? ⟨b2, 0, none⟩ = some (.slice (some ad) l0_0.length c0_0) := (blk_cell Z2.out 0).trans rfl))
                    go_wp2
                    go_roundg u
                    all_goals first | exact Nat.lt_succ_self u | exact ⟨j + 1, E.set j t, so2, rfl, by go_num, ⟨by have := HJ.out; omega⟩, ⟨by rw [List.length_set]; exact HLE.out⟩, HH2, ⟨ZN.out.set j t⟩, ⟨Z6.out.other HNE.out j _⟩, ⟨blk_far Z2.out HNE2.out _⟩, ⟨below_set HB.out HGN.out⟩⟩

/-! ### colophonref19_Weight: function 36 -/
def colophonref19_Weight.f (ps : List S78) : Option (Int × Int × Int) := some (wgt ps (0, 0, 0))
set_option maxHeartbeats 8000000 in
set_option maxRecDepth 100000 in
theorem colophonref19_Weight.calls (A0_0 : Option Addr) (c0_0 : Nat) (l0_0 : List (S78)) (r1 : Int) (r2 : Int) (r3 : Int) (w : World) (hr0_0 : Kd.C k78 w A0_0 l0_0.length l0_0) (hc0_0 : l0_0.length ≤ c0_0) (h : colophonref19_Weight.f l0_0 = some (r1, r2, r3)) :
    Calls Try.prog 36 #[.agg #[.slice A0_0 l0_0.length c0_0]] w fun e w' => e = .returned (.agg #[.int .i64 r1, .int .i64 r2, .int .i64 r3]) ∧ Below w.heap.size w w' := by
  have HR0 := Aside0.mk hr0_0
  have HC0 := Aside0.mk hc0_0
  have HF : Aside0 (wgt (l0_0.drop 0) (0, 0, 0) = (r1, r2, r3)) := ⟨Option.some.inj h⟩
  have hlen : l0_0.length ≤ 9223372036854775807 := hr0_0.2.1
  have HLEN := Aside0.mk hlen
  clear hr0_0 hc0_0 h hlen
  obtain ⟨w1, hw1⟩ : ∃ z, z = ((w.alloc (.cells #[.slice A0_0 l0_0.length c0_0] 45)).alloc (.cells #[.int .i64 0, .int .i64 0, .int .i64 0] 71)).alloc (.cells #[.int .i64 0, .int .i64 0, .int .i64 0] 71) := ⟨_, rfl⟩
  have s1 : (w.alloc (.cells #[.slice A0_0 l0_0.length c0_0] 45)).heap.size = w.heap.size + 1 := by simp
  have s2 : ((w.alloc (.cells #[.slice A0_0 l0_0.length c0_0] 45)).alloc (.cells #[.int .i64 0, .int .i64 0, .int .i64 0] 71)).heap.size = w.heap.size + 2 := by simp
  have z1 : w1.heap[w.heap.size]? = some (.cells #[.slice A0_0 l0_0.length c0_0] 45 (0, 0)) := by
    rw [hw1]
    exact ((below_alloc (below_alloc (Below.refl _ _) _) _).block w.heap.size (by simp)).trans (heap_alloc_new w _)
  have z2 : w1.heap[w.heap.size + 1]? = some (.cells #[.int .i64 0, .int .i64 0, .int .i64 0] 71 (0, 0)) := by
    have h_ := heap_alloc_new (w.alloc (.cells #[.slice A0_0 l0_0.length c0_0] 45)) (.cells #[.int .i64 0, .int .i64 0, .int .i64 0] 71)
    rw [s1] at h_
    rw [hw1]
    exact ((below_alloc (Below.refl _ _) _).block (w.heap.size + 1) (by simp)).trans h_
  have z3 : w1.heap[w.heap.size + 2]? = some (.cells #[.int .i64 0, .int .i64 0, .int .i64 0] 71 (0, 0)) := by
    have h_ := heap_alloc_new ((w.alloc (.cells #[.slice A0_0 l0_0.length c0_0] 45)).alloc (.cells #[.int .i64 0, .int .i64 0, .int .i64 0] 71)) (.cells #[.int .i64 0, .int .i64 0, .int .i64 0] 71)
    rw [s2] at h_
    rw [hw1]
    exact h_
  have hb1 : Below w.heap.size w w1 := by
    rw [hw1]
    exact below_alloc (below_alloc (below_alloc (Below.refl _ _) _) _) _
  have HW1 := Aside0.mk hw1
  have Z1 := Aside0.mk z1
  have Z2 := Aside0.mk z2
  have Z3 := Aside0.mk z3
  have HB := Aside0.mk hb1
  clear hw1 s1 s2 z1 z2 z3 hb1
  go_enter Try.func36, Try.ntmps36
  go_upto_region 2 with (fail)
  obtain ⟨b1, hb1⟩ : ∃ z, z = w.heap.size := ⟨_, rfl⟩
  obtain ⟨b2, hb2⟩ : ∃ z, z = w.heap.size + 1 := ⟨_, rfl⟩
  obtain ⟨b3, hb3⟩ : ∃ z, z = w.heap.size + 2 := ⟨_, rfl⟩
  have HG2 : Aside0 (w.heap.size ≤ b2) := ⟨by omega⟩
  have HG3 : Aside0 (w.heap.size ≤ b3) := ⟨by omega⟩
  have HN13 : Aside0 (b1 ≠ b3) := ⟨by omega⟩
  have HN23 : Aside0 (b2 ≠ b3) := ⟨by omega⟩
  rw [← HW1.out]
  rw [← hb3, ← hb2, ← hb1]
  rw [← hb1] at Z1
  rw [← hb2] at Z2
  rw [← hb3] at Z3
  clear hb1 hb2 hb3 HW1
  go_wp2
  go_loopg [4] l0_0.length (fun kq v4 w' => ∃ (i : Nat) (x0 x1 x2 : Int), v4 = .int .i64 (i : Int) ∧ Aside0 (i + kq = l0_0.length) ∧ Aside0 (wgt (l0_0.drop i) (x0, x1, x2) = (r1, r2, r3)) ∧ Aside0 (w'.heap[b1]? = some (.cells #[.slice A0_0 l0_0.length c0_0] 45 (0, 0))) ∧ Aside0 (w'.heap[b2]? = some (.cells #[.int .i64 0, .int .i64 0, .int .i64 0] 71 (0, 0))) ∧ Aside0 (w'.heap[b3]? = some (.cells #[.int .i64 x0, .int .i64 x1, .int .i64 x2] 71 (0, 0))) ∧ Aside0 (Below w.heap.size w w'))
  case atStart => exact ⟨0, 0, 0, 0, by first | rfl | simp, ⟨by omega⟩, HF, Z1, Z2, Z3, HB⟩
  case round =>
    clear HF Z1 Z2 Z3 HB
    obtain ⟨i, x0, x1, x2, rfl, HK, HF, Z1, Z2, Z3, HB⟩ := hrel
    have y1 : wr.cell? ⟨b1, 0, none⟩ = some (.slice A0_0 l0_0.length c0_0) := (blk_cell Z1.out 0).trans rfl
    cases gk with
    | zero =>
      have e : (x0, x1, x2) = (r1, r2, r3) := by
        have := HF.out
        rw [List.drop_eq_nil_of_le (by have := HK.out; omega), wgt] at this
        exact this
      simp only [Prod.mk.injEq] at e
      obtain ⟨rfl, rfl, rfl⟩ := e
      have m1 : decide ((i : Int) < (l0_0.length : Int)) = false := decide_eq_false (by have := HK.out; omega)
      have m2 : (i < l0_0.length) = False := eq_false (by have := HK.out; omega)
      have m3 : decide (i < l0_0.length) = false := decide_eq_false (by have := HK.out; omega)
      have c0_ : wr.cell? ⟨b3, 0, none⟩ = some (.int .i64 x0) := (blk_cell Z3.out 0).trans rfl
      have c1_ : wr.cell? ⟨b3, 1, none⟩ = some (.int .i64 x1) := (blk_cell Z3.out 1).trans rfl
      have c2_ : wr.cell? ⟨b3, 2, none⟩ = some (.int .i64 x2) := (blk_cell Z3.out 2).trans rfl
      have d0_ : wr.cell? ⟨b2, 0, none⟩ = some (.int .i64 0) := (blk_cell Z2.out 0).trans rfl
      have d1_ : wr.cell? ⟨b2, 1, none⟩ = some (.int .i64 0) := (blk_cell Z2.out 1).trans rfl
      have d2_ : wr.cell? ⟨b2, 2, none⟩ = some (.int .i64 0) := (blk_cell Z2.out 2).trans rfl
      have f0_ := blk_frozen Z2.out 0
      have f1_ := blk_frozen Z2.out 1
      have f2_ := blk_frozen Z2.out 2
      clear HF
      go_wp2
      refine bodyPost_ret (results_cell_row rfl _ _ b2 71 #[.int .i64 x0, .int .i64 x1, .int .i64 x2] (0, 0) _ rfl (St.three0 Z2.out) Try.underlying71 rfl (by kernel_rfl)) rfl ?_
      exact ⟨rfl, below_set (below_set (below_set HB.out HG2.out) HG2.out) HG2.out⟩
    | succ q =>
      have hi : i < l0_0.length := by have := HK.out; omega
      have H := HF.out
      rw [wgt_drop hi, wgt] at H
      obtain ⟨ad, A2, c2, ead, hx0, hx1, hx2, hx3, hl2, hi2⟩ := at_T78 HR0.out (i : Int) (by omega) (by omega)
      cases ead
      rw [Int.toNat_natCast] at hx0 hx1 hx2 hx3
      have hlt := World.block_lt_of_cell? w _ hx0
      have hab : (ad.add (i * 4)).block ≠ b3 := by have := HG3.out; omega
      have hf0 : ∀ (W : World) (j : Nat) (u : Value), (W.setCell ⟨b3, j, none⟩ u).cell? (ad.add (i * 4)) = W.cell? (ad.add (i * 4)) := fun W j u => World.cell?_setCell_far W ⟨b3, j, none⟩ _ u (Ne.symm hab)
      have hf1 : ∀ (W : World) (j : Nat) (u : Value), (W.setCell ⟨b3, j, none⟩ u).cell? ⟨(ad.add (i * 4)).block, (ad.add (i * 4)).off + 2, none⟩ = W.cell? ⟨(ad.add (i * 4)).block, (ad.add (i * 4)).off + 2, none⟩ := fun W j u => World.cell?_setCell_far W ⟨b3, j, none⟩ _ u (Ne.symm hab)
      clear hab
      clear hlt
      replace hx0 := pw_cell_below HB.out hx0
      replace hx1 := pw_cell_below HB.out hx1
      replace hx2 := pw_cell_below HB.out hx2
      replace hx3 := pw_cell_below HB.out hx3
      obtain ⟨⟨pn, pd, pc, pk⟩, hp⟩ : ∃ x, rd_T78 l0_0 (i : Int) = x := ⟨_, rfl⟩
      rw [hp] at hx0 hx1 hx2 hx3 H
      dsimp only at hx0 hx1 hx2 hx3 H
      have HH := Aside0.mk H
      have c0_ : wr.cell? ⟨b3, 0, none⟩ = some (.int .i64 x0) := (blk_cell Z3.out 0).trans rfl
      have c1_ : wr.cell? ⟨b3, 1, none⟩ = some (.int .i64 x1) := (blk_cell Z3.out 1).trans rfl
      have c2_ : wr.cell? ⟨b3, 2, none⟩ = some (.int .i64 x2) := (blk_cell Z3.out 2).trans rfl
      have f0_ := blk_frozen Z3.out 0
      have f1_ := blk_frozen Z3.out 1
      have f2_ := blk_frozen Z3.out 2
      have hn := HN13.out
      have hn' := Ne.symm HN13.out
      have m1 : decide ((i : Int) < (l0_0.length : Int)) = true := decide_eq_true (by omega)
      have m2 : ((i : Int) < (l0_0.length : Int)) = True := eq_true (by omega)
      have m3 : (0 ≤ (i : Int)) = True := eq_true (by omega)
      have m4 : (i < l0_0.length) = True := eq_true hi
      have m5 : decide (i < l0_0.length) = true := decide_eq_true hi
      have p6 : IntKind.i64.wrap ((i : Int) + 1) = (i : Int) + 1 := by have := HLEN.out; rw [IntKind.wrap_i64]; omega
      clear H hp HF hi hl2 hi2
      by_cases e1 : pd.toList = ([] : List UInt8)
      · have g1 : (pd.toList == ([] : List UInt8)) = true := beq_iff_eq.mpr e1
        have g1' : pd.toList.isEmpty = true := by rw [e1]; rfl
        by_cases e2 : pn.toList = ([] : List UInt8)
        · have g2 : (pn.toList == ([] : List UInt8)) = true := beq_iff_eq.mpr e2
          have g2' : pn.toList.isEmpty = true := by rw [e2]; rfl
          have HH2 : Aside0 (wgt (l0_0.drop (i + 1)) (x0, wrap64 (x1 + (pc.length : Int)), x2) = (r1, r2, r3)) := ⟨by have := HH.out; rw [if_pos e1, if_pos e2] at this; exact this⟩
          clear HH e1 e2
          go_wp2
          go_region
          all_goals
            go_wp2
            go_roundg q
            case measure => exact Nat.lt_succ_self q
            case rel => exact ⟨i + 1, _, _, _, by go_num, ⟨by have := HK.out; omega⟩, HH2, ⟨St.drew_heap ((blk_far Z1.out HN13.out _))⟩, ⟨St.drew_heap ((blk_far Z2.out HN23.out _))⟩, ⟨St.drew_heap (((heap_setCell_same _ b3 1 _ 71 _ Z3.out).trans rfl))⟩, ⟨below_drew1 ((below_set HB.out HG3.out))⟩⟩
        · have g2 : (pn.toList == ([] : List UInt8)) = false := beq_eq_false_iff_ne.mpr e2
          have g2' : pn.toList.isEmpty = false := by simpa using e2
          have HH2 : Aside0 (wgt (l0_0.drop (i + 1)) (x0, wrap64 (x1 + (pc.length : Int)), wrap64 (x2 + 1)) = (r1, r2, r3)) := ⟨by have := HH.out; rw [if_pos e1, if_neg e2] at this; exact this⟩
          clear HH e1 e2
          go_wp2
          go_region
          all_goals
            go_wp2
            go_roundg q
            case measure => exact Nat.lt_succ_self q
            case rel => exact ⟨i + 1, _, _, _, by go_num, ⟨by have := HK.out; omega⟩, HH2, ⟨St.drew_heap ((blk_far (blk_far Z1.out HN13.out _) HN13.out _))⟩, ⟨St.drew_heap ((blk_far (blk_far Z2.out HN23.out _) HN23.out _))⟩, ⟨St.drew_heap (((heap_setCell_same _ b3 2 _ 71 _ ((heap_setCell_same _ b3 1 _ 71 _ Z3.out).trans rfl)).trans rfl))⟩, ⟨below_drew1 ((below_set (below_set HB.out HG3.out) HG3.out))⟩⟩
      · have g1 : (pd.toList == ([] : List UInt8)) = false := beq_eq_false_iff_ne.mpr e1
        have g1' : pd.toList.isEmpty = false := by simpa using e1
        by_cases e2 : pn.toList = ([] : List UInt8)
        · have g2 : (pn.toList == ([] : List UInt8)) = true := beq_iff_eq.mpr e2
          have g2' : pn.toList.isEmpty = true := by rw [e2]; rfl
          have HH2 : Aside0 (wgt (l0_0.drop (i + 1)) (wrap64 (x0 + 1), wrap64 (x1 + (pc.length : Int)), x2) = (r1, r2, r3)) := ⟨by have := HH.out; rw [if_neg e1, if_pos e2] at this; exact this⟩
          clear HH e1 e2
          go_wp2
          go_region
          all_goals
            go_wp2
            go_roundg q
            case measure => exact Nat.lt_succ_self q
            case rel => exact ⟨i + 1, _, _, _, by go_num, ⟨by have := HK.out; omega⟩, HH2, ⟨St.drew_heap ((blk_far (blk_far Z1.out HN13.out _) HN13.out _))⟩, ⟨St.drew_heap ((blk_far (blk_far Z2.out HN23.out _) HN23.out _))⟩, ⟨St.drew_heap (((heap_setCell_same _ b3 1 _ 71 _ ((heap_setCell_same _ b3 0 _ 71 _ Z3.out).trans rfl)).trans rfl))⟩, ⟨below_drew1 ((below_set (below_set HB.out HG3.out) HG3.out))⟩⟩
        · have g2 : (pn.toList == ([] : List UInt8)) = false := beq_eq_false_iff_ne.mpr e2
          have g2' : pn.toList.isEmpty = false := by simpa using e2
          have HH2 : Aside0 (wgt (l0_0.drop (i + 1)) (wrap64 (x0 + 1), wrap64 (x1 + (pc.length : Int)), wrap64 (x2 + 1)) = (r1, r2, r3)) := ⟨by have := HH.out; rw [if_neg e1, if_neg e2] at this; exact this⟩
          clear HH e1 e2
          go_wp2
          go_region
          all_goals
            go_wp2
            go_roundg q
            case measure => exact Nat.lt_succ_self q
            case rel => exact ⟨i + 1, _, _, _, by go_num, ⟨by have := HK.out; omega⟩, HH2, ⟨St.drew_heap ((blk_far (blk_far (blk_far Z1.out HN13.out _) HN13.out _) HN13.out _))⟩, ⟨St.drew_heap ((blk_far (blk_far (blk_far Z2.out HN23.out _) HN23.out _) HN23.out _))⟩, ⟨St.drew_heap (((heap_setCell_same _ b3 2 _ 71 _ ((heap_setCell_same _ b3 1 _ 71 _ ((heap_setCell_same _ b3 0 _ 71 _ Z3.out).trans rfl)).trans rfl)).trans rfl))⟩, ⟨below_drew1 ((below_set (below_set (below_set HB.out HG3.out) HG3.out) HG3.out))⟩⟩

/-! ### colophonref20_less: function 37 -/
def colophonref20_less.f (a0 a1 a2 b0 b1 b2 : Int) : Option Bool := some (St.ls (a0, a1, a2) (b0, b1, b2))
set_option maxHeartbeats 8000000 in
set_option maxRecDepth 100000 in
theorem colophonref20_less.calls (a0_0 a0_1 a0_2 a1_0 a1_1 a1_2 : Int) (r : Bool) (w : World) (h : colophonref20_less.f a0_0 a0_1 a0_2 a1_0 a1_1 a1_2 = some r) :
    Calls Try.prog 37 #[.agg #[.int .i64 a0_0, .int .i64 a0_1, .int .i64 a0_2], .agg #[.int .i64 a1_0, .int .i64 a1_1, .int .i64 a1_2]] w fun e w' => e = .returned (.bool r) ∧ Below w.heap.size w w' := by
  obtain rfl := Option.some.inj h
  clear h
  obtain ⟨r, hr⟩ : ∃ r, St.ls (a0_0, a0_1, a0_2) (a1_0, a1_1, a1_2) = r := ⟨_, rfl⟩
  rw [hr]
  have HR := Aside0.mk hr
  clear hr
  go_enter Try.func37, Try.ntmps37
  go_wp2
  have HB : Aside0 (Below w.heap.size w ((w.alloc (.cells #[.int .i64 a0_0, .int .i64 a0_1, .int .i64 a0_2] 71)).alloc (.cells #[.int .i64 a1_0, .int .i64 a1_1, .int .i64 a1_2] 71))) := ⟨(by repeat (first | exact Below.refl _ _ | apply below_alloc | apply pw_below_drewN | apply below_drew1))⟩
  have z1 : St.Arr ((w.alloc (.cells #[.int .i64 a0_0, .int .i64 a0_1, .int .i64 a0_2] 71)).alloc (.cells #[.int .i64 a1_0, .int .i64 a1_1, .int .i64 a1_2] 71)) w.heap.size 71 [a0_0, a0_1, a0_2] := (below_alloc (Below.refl (w.alloc (.cells #[.int .i64 a0_0, .int .i64 a0_1, .int .i64 a0_2] 71)).heap.size _) _).block _ (by simp) |>.trans (heap_alloc_new w _)
  have z2 : St.Arr ((w.alloc (.cells #[.int .i64 a0_0, .int .i64 a0_1, .int .i64 a0_2] 71)).alloc (.cells #[.int .i64 a1_0, .int .i64 a1_1, .int .i64 a1_2] 71)) (w.heap.size + 1) 71 [a1_0, a1_1, a1_2] := by
    have := heap_alloc_new (w.alloc (.cells #[.int .i64 a0_0, .int .i64 a0_1, .int .i64 a0_2] 71)) (.cells #[.int .i64 a1_0, .int .i64 a1_1, .int .i64 a1_2] 71)
    rw [show (w.alloc (.cells #[.int .i64 a0_0, .int .i64 a0_1, .int .i64 a0_2] 71)).heap.size = w.heap.size + 1 by simp] at this
    exact this
  have HL : Aside0 (St.lsL ([a0_0, a0_1, a0_2].drop 0) ([a1_0, a1_1, a1_2].drop 0) = r) := ⟨HR.out⟩
  have HA : Aside0 ([a0_0, a0_1, a0_2].length = 3) := ⟨rfl⟩
  have HA2 : Aside0 ([a1_0, a1_1, a1_2].length = 3) := ⟨rfl⟩
  have Z1 := Aside0.mk z1
  have Z2 := Aside0.mk z2
  clear z1 z2 HR
  generalize [a0_0, a0_1, a0_2] = X at HL HA Z1
  generalize [a1_0, a1_1, a1_2] = Y at HL HA2 Z2
  generalize (w.alloc (.cells #[.int .i64 a0_0, .int .i64 a0_1, .int .i64 a0_2] 71)).alloc (.cells #[.int .i64 a1_0, .int .i64 a1_1, .int .i64 a1_2] 71) = w1 at HB Z1 Z2 ⊢
  go_loopg [5] 3 (fun kq v9 w' => ∃ i : Nat, v9 = .int .i64 (i : Int) ∧ Aside0 (i + kq = 3) ∧ Aside0 (St.lsL (X.drop i) (Y.drop i) = r) ∧ Aside0 (St.Arr w' w.heap.size 71 X) ∧ Aside0 (St.Arr w' (w.heap.size + 1) 71 Y) ∧ Aside0 (Below w.heap.size w w'))
  case atStart => exact ⟨0, by first | rfl | simp, ⟨rfl⟩, HL, Z1, Z2, HB⟩
  case round =>
    clear HL Z1 Z2 HB
    obtain ⟨i, rfl, HK, HL, Z1, Z2, HB⟩ := hrel
    cases gk with
    | zero =>
      have hi : i = 3 := HK.out
      subst hi
      have er : r = false := by
        have := HL.out
        rw [List.drop_eq_nil_of_le (by rw [HA.out]; exact Nat.le_refl _), List.drop_eq_nil_of_le (by rw [HA2.out]; exact Nat.le_refl _)] at this
        exact this.symm
      subst er
      go_wp2
      go_ret
      exact ⟨rfl, (by repeat (first | exact HB.out | apply below_alloc | apply pw_below_drewN | apply below_drew1))⟩
    | succ q =>
      have hi : i < 3 := by have := HK.out; omega
      have x1 := Z1.out.cell i (by rw [HA.out]; exact hi)
      have x2 := Z2.out.cell i (by rw [HA2.out]; exact hi)
      have HL1 := HL.out
      rw [St.getD_cons X i (by rw [HA.out]; exact hi), St.getD_cons Y i (by rw [HA2.out]; exact hi)] at HL1
      generalize X.getD i 0 = x at x1 HL1
      generalize Y.getD i 0 = y at x2 HL1
      have p1 : ((i : Int) < 3) = True := eq_true (by omega)
      have p2 : (0 ≤ (i : Int)) = True := eq_true (by omega)
      have p3 : decide ((i : Int) < 3) = true := decide_eq_true (by omega)
      have p4 : (i < 3) = True := eq_true hi
      have p5 : decide (i < 3) = true := decide_eq_true hi
      have p6 : IntKind.i64.wrap ((i : Int) + 1) = (i : Int) + 1 := by rw [IntKind.wrap_i64]; omega
      clear HL hi
      by_cases e : x = y
      · have HL2 : Aside0 (St.lsL (X.drop (i + 1)) (Y.drop (i + 1)) = r) := ⟨by rw [St.lsL, if_neg (fun h => h e)] at HL1; exact HL1⟩
        have eb : (x == y) = true := beq_iff_eq.mpr e
        have eb' : (x != y) = false := bne_eq_false_iff_eq.mpr e
        clear HL1 e
        go_wp2
        repeat (go_quiet (fail); try go_wp2)
        go_roundg q
        case measure => exact Nat.lt_succ_self q
        case rel => exact ⟨i + 1, by go_num, ⟨by have := HK.out; omega⟩, HL2, ⟨Z1.out.below (by repeat (first | exact Below.refl _ _ | apply below_alloc | apply pw_below_drewN | apply below_drew1))⟩, ⟨Z2.out.below (by repeat (first | exact Below.refl _ _ | apply below_alloc | apply pw_below_drewN | apply below_drew1))⟩, ⟨(by repeat (first | exact HB.out | apply below_alloc | apply pw_below_drewN | apply below_drew1))⟩⟩
      · have er : decide (x < y) = r := by rw [St.lsL, if_pos e] at HL1; exact HL1
        subst er
        have eb : (x == y) = false := beq_eq_false_iff_ne.mpr e
        have eb' : (x != y) = true := bne_iff_ne.mpr e
        clear HL1 e
        go_wp2
        repeat (go_quiet (fail); try go_wp2)
        go_ret
        exact ⟨by first | rfl | simp, (by repeat (first | exact HB.out | apply below_alloc | apply pw_below_drewN | apply below_drew1))⟩

end Go.Proofs.Ytpembifnjlekdaa.PStyleAll
