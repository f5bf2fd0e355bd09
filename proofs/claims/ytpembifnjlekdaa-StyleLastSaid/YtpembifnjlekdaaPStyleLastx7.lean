-- Written by a copy of the print that this session has turned (wip/tools/patchprint.py): arrays as records.
import Derived.Test.YtpembifnjlekdaaPStyleLastx0
import Derived.Test.YtpembifnjlekdaaPStyleLastx3
import Derived.Test.YtpembifnjlekdaaPStyleLastx6
namespace Go.Proofs.Ytpembifnjlekdaa.PStyleLast
open Go.RowKit Go.Proofs.YtpembifnjlekdaaW.PrintWords Go.Proofs.YtpembifnjlekdaaW.PrintLast Go.Proofs.YtpembifnjlekdaaW.PrintMore
attribute [local go_sem] max2_int min2_int max_two min_two max_three min_three max_four min_four   -- for this text's walks alone
set_option linter.unusedVariables false
set_option linter.unusedSimpArgs false

/-! ### colophonref19_Match: function 21 -/
def rcnd (i : Nat) (pk so aj : Bool) : Bool := if (decide (0 < i) && pk) = true then aj else so
def colophonref19_Match.inner (k : Nat) (p : S78) (path : List S56) (i : Nat) (A : List Bool) : Nat → Nat → List Bool → Bool → Option (List Bool)
  | 0, _, E, _ => some E
  | c + 1, j, E, so => (if rcnd i p.f3 (so || (decide (0 < j) && A.getD (j - 1) false)) (decide (0 < j) && A.getD (j - 1) false) = true then colophonref19_Fits.f k p.f0 p.f1 p.f2 p.f3 (rd_T56 path (j : Int)).f0 (rd_T56 path (j : Int)).f1 (rd_T56 path (j : Int)).f2 else some false).bind fun t =>
      colophonref19_Match.inner k p path i A c (j + 1) (E.set j t) (so || (decide (0 < j) && A.getD (j - 1) false))
def colophonref19_Match.go (k : Nat) (path : List S56) : List S78 → Nat → List Bool → Option Bool
  | [], _, A => some (A.getD (path.length - 1) false)
  | p :: r, i, A => (colophonref19_Match.inner k p path i A path.length 0 (List.replicate path.length false) (i == 0)).bind fun E => colophonref19_Match.go k path r (i + 1) E
def colophonref19_Match.f (k : Nat) (ps : List S78) (path : List S56) : Option Bool := if ps.length ≤ 100000 ∧ path.length ≤ 100000 then (if ps.length = 0 ∨ path.length = 0 then some false else colophonref19_Match.go k path ps 0 (List.replicate path.length false)) else none
theorem colophonref19_Match.inner_mono (k : Nat) (p : S78) (path : List S56) (i : Nat) (A : List Bool) : ∀ (c j : Nat) (E : List Bool) (so : Bool), LeO (colophonref19_Match.inner k p path i A c j E so) (colophonref19_Match.inner (k + 1) p path i A c j E so)
  | 0, _, _, _ => LeO.refl _
  | c + 1, j, E, so => by
    rw [colophonref19_Match.inner, colophonref19_Match.inner]
    exact LeO.bind (LeO.ite (colophonref19_Fits.mono _ _ _ _ _ _ _ _) (LeO.refl _)) (fun t => colophonref19_Match.inner_mono k p path i A c _ _ _)
theorem colophonref19_Match.go_mono (k : Nat) (path : List S56) : ∀ (l : List S78) (i : Nat) (E : List Bool), LeO (colophonref19_Match.go k path l i E) (colophonref19_Match.go (k + 1) path l i E)
  | [], _, _ => LeO.refl _
  | p :: r, i, E => by
    rw [colophonref19_Match.go, colophonref19_Match.go]
    exact LeO.bind (colophonref19_Match.inner_mono k p path i E _ _ _ _) (fun E => colophonref19_Match.go_mono k path r _ _)
theorem colophonref19_Match.mono : ∀ a0 a1 k, LeO (colophonref19_Match.f k a0 a1) (colophonref19_Match.f (k + 1) a0 a1) := by
  intro a0 a1 k
  unfold colophonref19_Match.f
  exact LeO.ite (LeO.ite (LeO.refl _) (colophonref19_Match.go_mono k a1 a0 _ _)) (LeO.refl _)
theorem drewB {w : World} {b : Nat} {X : List Bool} (h : St.BRow w b X) : St.BRow w.drew b X := h
set_option maxHeartbeats 8000000 in
set_option maxRecDepth 100000 in
theorem colophonref19_Match.calls (k : Nat) (A0_0 : Option Addr) (c0_0 : Nat) (l0_0 : List (S78)) (A1 : Option Addr) (c1 : Nat) (l1 : List (S56)) (r : Bool) (w : World) (hr0_0 : Kd.C k78 w A0_0 l0_0.length l0_0) (hc0_0 : l0_0.length ≤ c0_0) (hr1 : Kd.C k56 w A1 l1.length l1) (hc1 : l1.length ≤ c1) (h : colophonref19_Match.f k l0_0 l1 = some r) :
    Calls Try.prog 21 #[.agg #[.slice A0_0 l0_0.length c0_0], .slice A1 l1.length c1] w fun e w' => e = .returned (.bool r) ∧ Below w.heap.size w w' := by
  have HR0 := Aside0.mk hr0_0
  have HC0 := Aside0.mk hc0_0
  have HR1 := Aside0.mk hr1
  have HC1 := Aside0.mk hc1
  clear hr0_0 hc0_0 hr1 hc1
  unfold colophonref19_Match.f at h
  by_cases hn : l0_0.length ≤ 100000 ∧ l1.length ≤ 100000
  rotate_left
  · rw [if_neg hn] at h
    exact absurd h (by simp)
  rw [if_pos hn] at h
  have HN := Aside0.mk hn
  by_cases h0 : l0_0.length = 0
  · rw [if_pos (.inl h0)] at h
    obtain rfl := Option.some.inj h
    have g1 : ((l0_0.length : Int) == 0) = true := beq_iff_eq.mpr (by omega)
    have g2 : (l0_0.length == 0) = true := beq_iff_eq.mpr h0
    clear h h0 hn
    go_enter Try.func21, Try.ntmps21
    go_wp2
    go_ret
    exact ⟨rfl, below_alloc (Below.refl _ _) _⟩
  have g1 : ((l0_0.length : Int) == 0) = false := beq_eq_false_iff_ne.mpr (by omega)
  have g2 : (l0_0.length == 0) = false := beq_eq_false_iff_ne.mpr h0
  by_cases h1 : l1.length = 0
  · rw [if_pos (.inr h1)] at h
    obtain rfl := Option.some.inj h
    have g3 : ((l1.length : Int) == 0) = true := beq_iff_eq.mpr (by omega)
    have g4 : (l1.length == 0) = true := beq_iff_eq.mpr h1
    clear h h0 h1 hn
    go_enter Try.func21, Try.ntmps21
    go_wp2
    go_ret
    exact ⟨rfl, below_alloc (Below.refl _ _) _⟩
  rw [if_neg (fun x => x.elim h0 h1)] at h
  have HG := Aside0.mk (show colophonref19_Match.go k l1 (l0_0.drop 0) 0 (List.replicate l1.length false) = some r from h)
  have hmk : ∀ w : World, (Instr.makeSlice 76 (.int .i64 (l1.length : Int)) (.int .i64 (l1.length : Int))).run Try.prog w = .ok (.slice (some ⟨w.heap.size, 0, none⟩) l1.length l1.length) (w.alloc (.cells (St.falseCells l1.length) 4)) := by
    intro w
    obtain ⟨i, hi, he⟩ := Option.map_eq_some_iff.1 St.info4
    simp only [Prod.mk.injEq] at he
    obtain ⟨e1, e2, e3⟩ := he
    have := run_make (P := Try.prog) w 76 4 i (.bool false) Try.underlying76 hi e1 .i64 .i64 (l1.length : Int) (l1.length : Int) (by omega) (by omega) (by rw [e3]; omega) (by omega)
    rw [this, e2, St.made_false, Int.toNat_natCast]
  have g3 : ((l1.length : Int) == 0) = false := beq_eq_false_iff_ne.mpr (by omega)
  have g4 : (l1.length == 0) = false := beq_eq_false_iff_ne.mpr h1
  have HMK := Aside0.mk hmk
  have H1 := Aside0.mk h1
  clear h h0 h1 hn
  go_enter Try.func21, Try.ntmps21
  go_upto_region 5 with (fail)
  clear hmk g1 g2 g3 g4
  have z2 : ((w.alloc (.cells #[.slice A0_0 l0_0.length c0_0] 45)).alloc (.cells (St.falseCells l1.length) 4)).heap[w.heap.size]? = some (.cells #[.slice A0_0 l0_0.length c0_0] 45 (0, 0)) := ((below_alloc (Below.refl _ _) _).block w.heap.size (by simp)).trans (heap_alloc_new w _)
  have z6 : St.BRow ((w.alloc (.cells #[.slice A0_0 l0_0.length c0_0] 45)).alloc (.cells (St.falseCells l1.length) 4)) (w.heap.size + 1) (List.replicate l1.length false) := by
    have h_ := heap_alloc_new (w.alloc (.cells #[.slice A0_0 l0_0.length c0_0] 45)) (.cells (St.falseCells l1.length) 4)
    rw [show (w.alloc (.cells #[.slice A0_0 l0_0.length c0_0] 45)).heap.size = w.heap.size + 1 by simp] at h_
    exact h_
  have hb := below_alloc (below_alloc (Below.refl w.heap.size w) (.cells #[.slice A0_0 l0_0.length c0_0] 45)) (.cells (St.falseCells l1.length) 4)
  obtain ⟨b2, hb2⟩ : ∃ z, z = w.heap.size := ⟨_, rfl⟩
  obtain ⟨bm, hbm⟩ : ∃ z, z = w.heap.size + 1 := ⟨_, rfl⟩
  have HGM : Aside0 (w.heap.size ≤ bm) := ⟨by omega⟩
  have HN2 : Aside0 (b2 ≠ bm) := ⟨by omega⟩
  rw [← hb2] at z2
  rw [← hbm] at z6
  rw [← hbm, ← hb2]
  have Z2 := Aside0.mk z2
  have Z6 := Aside0.mk z6
  have HB := Aside0.mk hb
  clear hb2 hbm z2 z6 hb
  generalize ((w.alloc (.cells #[.slice A0_0 l0_0.length c0_0] 45)).alloc (.cells (St.falseCells l1.length) 4)) = wA at Z2 Z6 HB ⊢
  go_wp2
  go_loopg [7, 8] l0_0.length (fun kq v7 v8 w' => ∃ (i ba : Nat) (E : List Bool), v7 = .slice (some ⟨ba, 0, none⟩) l1.length l1.length ∧ v8 = .int .i64 (i : Int) ∧ Aside0 (i + kq = l0_0.length) ∧ Aside0 (E.length = l1.length) ∧ Aside0 (colophonref19_Match.go k l1 (l0_0.drop i) i E = some r) ∧ Aside0 (St.BRow w' ba E) ∧ Aside0 (b2 ≠ ba) ∧ Aside0 (w'.heap[b2]? = some (.cells #[.slice A0_0 l0_0.length c0_0] 45 (0, 0))) ∧ Aside0 (Below w.heap.size w w'))
  case atStart => exact ⟨0, bm, _, rfl, by first | rfl | simp, ⟨by omega⟩, ⟨by simp⟩, HG, Z6, HN2, Z2, HB⟩
  case round =>
    clear HG Z2 Z6 HB HN2 HGM
    obtain ⟨i, ba, A, rfl, rfl, HK, HE, HG, Z6, HN2, Z2, HB⟩ := hrel
    cases gk with
    | zero =>
      have e : A.getD (l1.length - 1) false = r := by
        have := HG.out
        rw [List.drop_eq_nil_of_le (by have := HK.out; omega), colophonref19_Match.go] at this
        exact Option.some.inj this
      have hx := Z6.out.cell (l1.length - 1) (by rw [HE.out]; have := H1.out; omega)
      rw [e] at hx
      have q0 : IntKind.i64.wrap ((l1.length : Int) - 1) = (l1.length : Int) - 1 := by have := HN.out; rw [IntKind.wrap_i64]; omega
      have q1 : (0 ≤ (l1.length : Int) - 1) = True := eq_true (by have := H1.out; omega)
      have q2 : ((l1.length : Int) - 1 < (l1.length : Int)) = True := eq_true (by omega)
      have q3 : (1 ≤ (l1.length : Int)) = True := eq_true (by have := H1.out; omega)
      have q4 : (0 < l1.length) = True := eq_true (by have := H1.out; omega)
      have q5 : ((l1.length : Int) - 1).toNat = l1.length - 1 := by omega
      have m1 : decide ((i : Int) < (l0_0.length : Int)) = false := decide_eq_false (by have := HK.out; omega)
      have m2 : (i < l0_0.length) = False := eq_false (by have := HK.out; omega)
      have m3 : decide (i < l0_0.length) = false := decide_eq_false (by have := HK.out; omega)
      clear HG e
      go_wp2
      go_ret
      exact ⟨rfl, HB.out⟩
    | succ q =>
      have hi : i < l0_0.length := by have := HK.out; omega
      have H := HG.out
      rw [drop_T78 hi, colophonref19_Match.go] at H
      obtain ⟨E2, AI0, H⟩ := Option.bind_eq_some_iff.mp H
      obtain ⟨ad, A2, c2, ead, hx0, hx1, hx2, hx3, hl2, hi2⟩ := at_T78 HR0.out (i : Int) (by omega) (by omega)
      cases ead
      rw [Int.toNat_natCast] at hx0 hx1 hx2 hx3
      obtain ⟨p, hp⟩ : ∃ x, rd_T78 l0_0 (i : Int) = x := ⟨_, rfl⟩
      rw [hp] at hx0 hx1 hx2 hx3 hl2 hi2 AI0
      obtain ⟨pn, pd, pc, pk⟩ := p
      dsimp only at hx0 hx1 hx2 hx3 hl2 hi2
      obtain ⟨zi, hz⟩ : ∃ z, (i == 0) = z := ⟨_, rfl⟩
      have hz1 : ((i : Int) == 0) = zi := by rw [← hz]; rw [Bool.eq_iff_iff]; simp
      rw [hz] at AI0
      have HZ := Aside0.mk hz
      have AI := Aside0.mk AI0
      have HH := Aside0.mk H
      have HL2 := Aside0.mk hl2
      have HI2 := Aside0.mk hi2
      have HX0 := Aside0.mk (And.intro (World.block_lt_of_cell? w _ hx0) hx0)
      have HX1 := Aside0.mk (And.intro (World.block_lt_of_cell? w _ hx1) hx1)
      have HX2 := Aside0.mk (And.intro (World.block_lt_of_cell? w _ hx2) hx2)
      have HX3 := Aside0.mk (And.intro (World.block_lt_of_cell? w _ hx3) hx3)
      have m1 : decide ((i : Int) < (l0_0.length : Int)) = true := decide_eq_true (by omega)
      have m2 : ((i : Int) < (l0_0.length : Int)) = True := eq_true (by omega)
      have m3 : (0 ≤ (i : Int)) = True := eq_true (by omega)
      have m4 : (i < l0_0.length) = True := eq_true hi
      have m5 : decide (i < l0_0.length) = true := decide_eq_true hi
      have HI := Aside0.mk hi
      have hmk := HMK.out
      clear H AI0 hp HG hl2 hi2 hi hz hx0 hx1 hx2 hx3
      go_upto_region 10 with (fail)
      clear m1 m2 m3 m4 m5 hz1 hmk
      have zn : St.BRow (wr.alloc (.cells (St.falseCells l1.length) 4)) wr.heap.size (List.replicate l1.length false) := heap_alloc_new wr _
      have z6 := Z6.out.below (below_alloc (Below.refl _ _) (.cells (St.falseCells l1.length) 4))
      have z2 := ((below_alloc (Below.refl _ _) (.cells (St.falseCells l1.length) 4)).block b2 (blk_lt Z2.out)).trans Z2.out
      have hb := below_alloc HB.out (.cells (St.falseCells l1.length) 4)
      have hne : ba ≠ wr.heap.size := Nat.ne_of_lt Z6.out.lt
      have hne2 : b2 ≠ wr.heap.size := Nat.ne_of_lt (blk_lt Z2.out)
      have hgn : w.heap.size ≤ wr.heap.size := HB.out.size
      obtain ⟨bn, hbn⟩ : ∃ z, z = wr.heap.size := ⟨_, rfl⟩
      rw [← hbn] at zn hne hne2 hgn ⊢
      clear Z6 Z2 HB hbn
      have ZN := Aside0.mk zn
      have Z6 := Aside0.mk z6
      have Z2 := Aside0.mk z2
      have HB := Aside0.mk hb
      have HNE := Aside0.mk hne
      have HNE2 := Aside0.mk hne2
      have HGN := Aside0.mk hgn
      clear zn z6 z2 hb hne hne2 hgn
      generalize (wr.alloc (.cells (St.falseCells l1.length) 4)) = wB at ZN Z6 Z2 HB ⊢
      go_wp2
      go_loopg [10, 11] l1.length (fun kq v10 v11 w' => ∃ (j : Nat) (E : List Bool) (so : Bool), v10 = .bool so ∧ v11 = .int .i64 (j : Int) ∧ Aside0 (j + kq = l1.length) ∧ Aside0 (E.length = l1.length) ∧ Aside0 (colophonref19_Match.inner k ⟨pn, pd, pc, pk⟩ l1 i A kq j E so = some E2) ∧ Aside0 (St.BRow w' bn E) ∧ Aside0 (St.BRow w' ba A) ∧ Aside0 (w'.heap[b2]? = some (.cells #[.slice (some ad) l0_0.length c0_0] 45 (0, 0))) ∧ Aside0 (Below w.heap.size w w'))
      case atStart => exact ⟨0, _, zi, rfl, by first | rfl | simp, ⟨by omega⟩, ⟨by simp⟩, AI, ZN, Z6, Z2, HB⟩
      case round =>
        clear AI ZN Z6 Z2 HB
        obtain ⟨j, E, so, rfl, rfl, HJ, HLE, AI, ZN, Z6, Z2, HB⟩ := hrel
        cases gk with
        | zero =>
          have e : E = E2 := Option.some.inj AI.out
          subst e
          have m1 : decide ((j : Int) < (l1.length : Int)) = false := decide_eq_false (by have := HJ.out; omega)
          have m2 : (j < l1.length) = False := eq_false (by have := HJ.out; omega)
          have m3 : decide (j < l1.length) = false := decide_eq_false (by have := HJ.out; omega)
          have p6 : IntKind.i64.wrap ((i : Int) + 1) = (i : Int) + 1 := by have := HI.out; have := HN.out; rw [IntKind.wrap_i64]; omega
          clear AI
          go_wp2
          go_roundg q
          case measure => exact Nat.lt_succ_self q
          case rel => exact ⟨i + 1, bn, E, rfl, by go_num, ⟨by have := HK.out; omega⟩, HLE, HH, ZN, HNE2, Z2, HB⟩
        | succ u =>
          have hj : j < l1.length := by have := HJ.out; omega
          have H := AI.out
          rw [colophonref19_Match.inner] at H
          obtain ⟨t, AT0, H⟩ := Option.bind_eq_some_iff.mp H
          obtain ⟨ad3, A3, c3, ead3, hd0, hd1, hd2, hl3, hi3⟩ := at_T56 HR1.out (j : Int) (by omega) (by omega)
          cases ead3
          rw [Int.toNat_natCast] at hd0 hd1 hd2
          obtain ⟨e, he⟩ : ∃ x, rd_T56 l1 (j : Int) = x := ⟨_, rfl⟩
          rw [he] at hd0 hd1 hd2 hl3 hi3 AT0
          obtain ⟨en, ei, ec⟩ := e
          dsimp only at hd0 hd1 hd2 hl3 hi3 AT0
          have HX4 := Aside0.mk (And.intro (World.block_lt_of_cell? w _ hd0) hd0)
          have HX5 := Aside0.mk (And.intro (World.block_lt_of_cell? w _ hd1) hd1)
          have HX6 := Aside0.mk (And.intro (World.block_lt_of_cell? w _ hd2) hd2)
          obtain ⟨zj, hzj⟩ : ∃ z, decide (0 < j) = z := ⟨_, rfl⟩
          obtain ⟨a1, ha1⟩ : ∃ z, A.getD (j - 1) false = z := ⟨_, rfl⟩
          have hzj1 : decide (0 < (j : Int)) = zj := by rw [← hzj]; rw [Bool.eq_iff_iff]; simp
          rw [hzj, ha1] at AT0 H
          have HZJ := Aside0.mk hzj
          have HA1 := Aside0.mk ha1
          have HH2 := Aside0.mk H
          have HL3 := Aside0.mk hl3
          have HI3 := Aside0.mk hi3
          have AT1 := Aside0.mk AT0
          have HJL := Aside0.mk hj
          have m1 : decide ((j : Int) < (l1.length : Int)) = true := decide_eq_true (by omega)
          have m2 : ((j : Int) < (l1.length : Int)) = True := eq_true (by omega)
          have m3 : (0 ≤ (j : Int)) = True := eq_true (by omega)
          have m4 : (j < l1.length) = True := eq_true hj
          have m5 : decide (j < l1.length) = true := decide_eq_true hj
          have AJ : Aside0 (zj = true → wr.cell? ⟨ba, j - 1, none⟩ = some (.bool a1) ∧ IntKind.i64.wrap ((j : Int) - 1) = (j : Int) - 1 ∧ (0 ≤ (j : Int) - 1) = True ∧ ((j : Int) - 1 < (l1.length : Int)) = True ∧ (1 ≤ (j : Int)) = True ∧ ((j : Int) - 1).toNat = j - 1 ∧ (0 < j) = True) := ⟨fun hzt => by
            rw [hzt] at hzj
            have hj0 : 0 < j := of_decide_eq_true hzj
            have h_ := Z6.out.cell (j - 1) (by rw [HE.out]; omega)
            rw [ha1] at h_
            exact ⟨h_, by have := HN.out; rw [IntKind.wrap_i64]; omega, eq_true (by omega), eq_true (by omega), eq_true (by omega), by omega, eq_true hj0⟩⟩
          clear H AT0 he hl3 hi3 AI hd0 hd1 hd2 hzj ha1 hj
          go_upto_region 13 with (fail)
          go_cut [48] (fun v48 wc => v48 = .bool (zj && a1) ∧ wr = wc)
          case first =>
            cases zj with
            | false =>
              have hz2 : decide (0 < j) = false := HZJ.out
              go_wp2
              go_meet
              exact ⟨rfl, rfl⟩
            | true =>
              have hz2 : decide (0 < j) = true := HZJ.out
              obtain ⟨y0, y1, y2, y3, y4, y5, y6⟩ := AJ.out rfl
              go_wp2
              go_meet
              exact ⟨rfl, rfl⟩
          case rest =>
            obtain ⟨rfl, rfl⟩ := hcut
            obtain ⟨aj, haj⟩ : ∃ z, (zj && a1) = z := ⟨_, rfl⟩
            rw [haj] at AT1 HH2 ⊢
            have HAJ := Aside0.mk haj
            clear haj
            go_upto_if 48 with (fail)
            go_cut [10] (fun v10 wc => v10 = .bool (so || aj) ∧ wr = wc)
            case first =>
              cases aj <;> cases so <;> go_wp2 <;> go_meet <;> exact ⟨rfl, rfl⟩
            case rest =>
              obtain ⟨rfl, rfl⟩ := hcut
              obtain ⟨so2, hso2⟩ : ∃ z, (so || aj) = z := ⟨_, rfl⟩
              rw [hso2] at AT1 HH2 ⊢
              clear hso2
              go_upto_region 16 with (fail)
              go_cut [59] (fun v59 wc => v59 = .bool (!zi && pk) ∧ wr = wc)
              case first =>
                have y0 : wr.cell? ⟨b2, 0, none⟩ = some (.slice (some ad) l0_0.length c0_0) := (blk_cell Z2.out 0).trans rfl
                have hz2 : decide (0 < (i : Int)) = !zi := by rw [← HZ.out]; rw [Bool.eq_iff_iff]; simp <;> omega
                have hz4 : decide (0 < i) = !zi := by rw [← HZ.out]; rw [Bool.eq_iff_iff]; simp <;> omega
                have y3 := pw_cell_below HB.out HX3.out.2
                have n1 : ((i : Int) < (l0_0.length : Int)) = True := eq_true (by have := HI.out; omega)
                have n2 : (0 ≤ (i : Int)) = True := eq_true (by omega)
                have n3 : (i < l0_0.length) = True := eq_true HI.out
                cases zi <;> go_wp2 <;> go_meet <;> exact ⟨by first | rfl | simp, rfl⟩
              case rest =>
                obtain ⟨rfl, rfl⟩ := hcut
                obtain ⟨cc, hcc⟩ : ∃ z, rcnd i pk so2 aj = z := ⟨_, rfl⟩
                have hz4 : decide (0 < i) = !zi := by rw [← HZ.out]; rw [Bool.eq_iff_iff]; simp <;> omega
                have HCC : Aside0 ((if (!zi && pk) = true then aj else so2) = cc) := ⟨by rw [← hcc, rcnd, hz4]⟩
                have AT : Aside0 ((if cc = true then colophonref19_Fits.f k pn pd pc pk en ei ec else some false) = some t) := ⟨by rw [← hcc]; exact AT1.out⟩
                clear hz4 hcc AT1
                obtain ⟨zp, hzp⟩ : ∃ z, (!zi && pk) = z := ⟨_, rfl⟩
                rw [hzp] at HCC ⊢
                clear hzp
                go_upto_if 59 with (fail)
                go_cut [12] (fun v12 wc => v12 = .bool cc ∧ wr = wc)
                case first =>
                  cases zp with
                  | false =>
                    have e : so2 = cc := by have := HCC.out; rw [if_neg (by decide)] at this; exact this
                    subst e
                    go_wp2
                    go_meet
                    exact ⟨rfl, rfl⟩
                  | true =>
                    have e : aj = cc := by have := HCC.out; rw [if_pos rfl] at this; exact this
                    have hzc : (zj && a1) = cc := by rw [HAJ.out]; exact e
                    clear e
                    cases zj with
                    | false =>
                      have hz2 : decide (0 < j) = false := HZJ.out
                      obtain rfl : false = cc := hzc
                      go_wp2
                      go_meet
                      exact ⟨rfl, rfl⟩
                    | true =>
                      have hz2 : decide (0 < j) = true := HZJ.out
                      obtain ⟨y0, y1, y2, y3, y4, y5, y6⟩ := AJ.out rfl
                      obtain rfl : a1 = cc := hzc
                      go_wp2
                      go_meet
                      exact ⟨rfl, rfl⟩
                case rest =>
                  obtain ⟨rfl, rfl⟩ := hcut
                  have hx := ZN.out.cell j (by rw [HLE.out]; exact HJL.out)
                  have hf := ZN.out.frozen j
                  have n1 : ((i : Int) < (l0_0.length : Int)) = True := eq_true (by have := HI.out; omega)
                  have n2 : (0 ≤ (i : Int)) = True := eq_true (by omega)
                  have n3 : (i < l0_0.length) = True := eq_true HI.out
                  have p6 : IntKind.i64.wrap ((j : Int) + 1) = (j : Int) + 1 := by have := HJL.out; have := HN.out; rw [IntKind.wrap_i64]; omega
                  clear HCC m1 hzj1
                  cases cc with
                  | false =>
                    have e : t = false := (Option.some.inj AT.out).symm
                    subst e
                    clear AT
                    go_wp2
                    go_region
                    all_goals go_wp2
                    all_goals go_roundg u
                    all_goals first | exact Nat.lt_succ_self u | exact ⟨j + 1, E.set j false, so2, rfl, by go_num, ⟨by have := HJ.out; omega⟩, ⟨by rw [List.length_set]; exact HLE.out⟩, HH2, ⟨drewB (ZN.out.set j false)⟩, ⟨drewB (Z6.out.other HNE.out j _)⟩, ⟨St.drew_heap (blk_far Z2.out HNE2.out _)⟩, ⟨below_drew1 (below_set HB.out HGN.out)⟩⟩
                  | true =>
                    have AT2 : Aside0 (colophonref19_Fits.f k pn pd pc pk en ei ec = some t) := ⟨AT.out⟩
                    clear AT
                    have f0 : ∀ (W : World) (jj : Nat) (u : Value), (W.setCell ⟨bn, jj, none⟩ u).cell? (ad.add (i * 4)) = W.cell? (ad.add (i * 4)) := fun W jj u => World.cell?_setCell_far W ⟨bn, jj, none⟩ _ u (Nat.ne_of_gt (Nat.lt_of_lt_of_le HX0.out.1 HGN.out))
                    have f1 : ∀ (W : World) (jj : Nat) (u : Value), (W.setCell ⟨bn, jj, none⟩ u).cell? ⟨(ad.add (i * 4)).block, (ad.add (i * 4)).off + 1, none⟩ = W.cell? ⟨(ad.add (i * 4)).block, (ad.add (i * 4)).off + 1, none⟩ := fun W jj u => World.cell?_setCell_far W ⟨bn, jj, none⟩ _ u (Nat.ne_of_gt (Nat.lt_of_lt_of_le HX1.out.1 HGN.out))
                    have f2 : ∀ (W : World) (jj : Nat) (u : Value), (W.setCell ⟨bn, jj, none⟩ u).cell? ⟨(ad.add (i * 4)).block, (ad.add (i * 4)).off + 2, none⟩ = W.cell? ⟨(ad.add (i * 4)).block, (ad.add (i * 4)).off + 2, none⟩ := fun W jj u => World.cell?_setCell_far W ⟨bn, jj, none⟩ _ u (Nat.ne_of_gt (Nat.lt_of_lt_of_le HX2.out.1 HGN.out))
                    have f3 : ∀ (W : World) (jj : Nat) (u : Value), (W.setCell ⟨bn, jj, none⟩ u).cell? ⟨(ad.add (i * 4)).block, (ad.add (i * 4)).off + 3, none⟩ = W.cell? ⟨(ad.add (i * 4)).block, (ad.add (i * 4)).off + 3, none⟩ := fun W jj u => World.cell?_setCell_far W ⟨bn, jj, none⟩ _ u (Nat.ne_of_gt (Nat.lt_of_lt_of_le HX3.out.1 HGN.out))
                    have f4 : ∀ (W : World) (jj : Nat) (u : Value), (W.setCell ⟨bn, jj, none⟩ u).cell? (ad3.add (j * 3)) = W.cell? (ad3.add (j * 3)) := fun W jj u => World.cell?_setCell_far W ⟨bn, jj, none⟩ _ u (Nat.ne_of_gt (Nat.lt_of_lt_of_le HX4.out.1 HGN.out))
                    have f5 : ∀ (W : World) (jj : Nat) (u : Value), (W.setCell ⟨bn, jj, none⟩ u).cell? ⟨(ad3.add (j * 3)).block, (ad3.add (j * 3)).off + 1, none⟩ = W.cell? ⟨(ad3.add (j * 3)).block, (ad3.add (j * 3)).off + 1, none⟩ := fun W jj u => World.cell?_setCell_far W ⟨bn, jj, none⟩ _ u (Nat.ne_of_gt (Nat.lt_of_lt_of_le HX5.out.1 HGN.out))
                    have f6 : ∀ (W : World) (jj : Nat) (u : Value), (W.setCell ⟨bn, jj, none⟩ u).cell? ⟨(ad3.add (j * 3)).block, (ad3.add (j * 3)).off + 2, none⟩ = W.cell? ⟨(ad3.add (j * 3)).block, (ad3.add (j * 3)).off + 2, none⟩ := fun W jj u => World.cell?_setCell_far W ⟨bn, jj, none⟩ _ u (Nat.ne_of_gt (Nat.lt_of_lt_of_le HX6.out.1 HGN.out))
                    have y0 := pw_cell_below HB.out HX0.out.2
                    have y1 := pw_cell_below HB.out HX1.out.2
                    have y2 := pw_cell_below HB.out HX2.out.2
                    have y3 := pw_cell_below HB.out HX3.out.2
                    have y4 := pw_cell_below HB.out HX4.out.2
                    have y5 := pw_cell_below HB.out HX5.out.2
                    have y6 := pw_cell_below HB.out HX6.out.2
                    have y7 : wr.cell? ⟨b2, 0, none⟩ = some (.slice (some ad) l0_0.length c0_0) := (blk_cell Z2.out 0).trans rfl
                    have f7 : ∀ (W : World) (j : Nat) (u : Value), (W.setCell ⟨bn, j, none⟩ u).cell? ⟨b2, 0, none⟩ = W.cell? ⟨b2, 0, none⟩ := fun W j u => World.cell?_setCell_far W ⟨bn, j, none⟩ _ u (Ne.symm HNE2.out)
                    go_wp2
                    go_region_held3 (fun w' => w'.cell? ⟨b2, 0, none⟩ = some (.slice (some ad) l0_0.length c0_0) ∧ w'.cell? (ad.add (i * 4)) = some (.string pn) ∧ w'.cell? ⟨(ad.add (i * 4)).block, (ad.add (i * 4)).off + 1, none⟩ = some (.string pd) ∧ w'.cell? ⟨(ad.add (i * 4)).block, (ad.add (i * 4)).off + 2, none⟩ = some (.slice A2 pc.length c2) ∧ w'.cell? ⟨(ad.add (i * 4)).block, (ad.add (i * 4)).off + 3, none⟩ = some (.bool pk) ∧ w'.cell? (ad3.add (j * 3)) = some (.string en) ∧ w'.cell? ⟨(ad3.add (j * 3)).block, (ad3.add (j * 3)).off + 1, none⟩ = some (.string ei) ∧ w'.cell? ⟨(ad3.add (j * 3)).block, (ad3.add (j * 3)).off + 2, none⟩ = some (.slice A3 ec.length c3)) (simp [*, World.cell?_alloc_some]) ((go_at_call 41; (with_reducible refine (colophonref19_Fits.calls k pn pd A2 c2 pc pk en ei A3 c3 ec t _ ?_ HL2.out ?_ HL3.out AT2.out).mono ?_); (exact Kd.C_drew (Kd.C_below HI2.out HB.out)); (exact Kd.C_drew (Kd.C_below HI3.out HB.out)); rintro e w5 ⟨rfl, hb0⟩; have hb := below_step (below_drew1 (Below.refl _ _)) hb0; have nN_ := Aside0.mk (ZN.out.below hb); have n6_ := Aside0.mk (Z6.out.below hb); have n2_ := Aside0.mk ((hb.block b2 (blk_lt Z2.out)).trans Z2.out); have nB_ := Aside0.mk (below_step HB.out hb); clear ZN Z6 Z2 HB hx hf y0 y1 y2 y3 y4 y5 y6 y7; have ZN := nN_; have Z6 := n6_; have Z2 := n2_; have HB := nB_; clear nN_ n6_ n2_ nB_ hb hb0; have hx := ZN.out.cell j (by rw [HLE.out]; exact HJL.out); have hf := ZN.out.frozen j; have y0 := pw_cell_below HB.out HX0.out.2; have y1 := pw_cell_below HB.out HX1.out.2; have y2 := pw_cell_below HB.out HX2.out.2; have y3 := pw_cell_below HB.out HX3.out.2; have y4 := pw_cell_below HB.out HX4.out.2; have y5 := pw_cell_below HB.out HX5.out.2; have y6 := pw_cell_below HB.out HX6.out.2; have y7 : w5.cell? ⟨b2, 0, none⟩ = some (.slice (some ad) l0_0.length c0_0) := (blk_cell Z2.out 0).trans rfl))
                    go_wp2
                    go_roundg u
                    all_goals first | exact Nat.lt_succ_self u | exact ⟨j + 1, E.set j t, so2, rfl, by go_num, ⟨by have := HJ.out; omega⟩, ⟨by rw [List.length_set]; exact HLE.out⟩, HH2, ⟨ZN.out.set j t⟩, ⟨Z6.out.other HNE.out j _⟩, ⟨blk_far Z2.out HNE2.out _⟩, ⟨below_set HB.out HGN.out⟩⟩

-- NOT PRINTED: function 6 (colophonlaw20_StyleLast)

end Go.Proofs.Ytpembifnjlekdaa.PStyleLast
