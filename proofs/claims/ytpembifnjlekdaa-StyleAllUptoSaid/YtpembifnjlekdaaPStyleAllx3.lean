-- Written by a copy of the print that this session has turned (wip/tools/patchprint.py): arrays as records.
import Derived.Test.YtpembifnjlekdaaPStyleAllx0
import Derived.Test.YtpembifnjlekdaaPStyleAllx2
namespace Go.Proofs.Ytpembifnjlekdaa.PStyleAll
open Go.RowKit Go.Proofs.YtpembifnjlekdaaW.PrintWords Go.Proofs.YtpembifnjlekdaaW.PrintLast Go.Proofs.YtpembifnjlekdaaW.PrintMore
attribute [local go_sem] max2_int min2_int max_two min_two max_three min_three max_four min_four   -- for this text's walks alone
set_option linter.unusedVariables false
set_option linter.unusedSimpArgs false

/-! ### sheet_Match: function 51 -/
/-- May a part stand at an element, by what stood before? -/
def cnd (i : Nat) (pk so ah : Bool) : Bool := (so && (i == 0 || !pk)) || (decide (0 < i) && (pk && ah))
def sheet_Match.inner (k : Nat) (p : S78) (path : List S56) (i : Nat) : Nat → Nat → List Bool → Bool → Bool → Option (List Bool)
  | 0, _, E, _, _ => some E
  | c + 1, j, E, so, ah => (if cnd i p.f3 so ah = true then sheet_fits.f k p.f0 p.f1 p.f2 p.f3 (rd_T56 path (j : Int)).f0 (rd_T56 path (j : Int)).f1 (rd_T56 path (j : Int)).f2 else some false).bind fun t =>
      sheet_Match.inner k p path i c (j + 1) (E.set j t) (so || E.getD j false) (E.getD j false)
def sheet_Match.go (k : Nat) (path : List S56) : List S78 → Nat → List Bool → Option Bool
  | [], _, E => some (E.getD (path.length - 1) false)
  | p :: r, i, E => (sheet_Match.inner k p path i path.length 0 E (i == 0) false).bind fun E => sheet_Match.go k path r (i + 1) E
def sheet_Match.f (k : Nat) (ps : List S78) (path : List S56) : Option Bool := if ps.length ≤ 100000 ∧ path.length ≤ 100000 then (if ps.length = 0 ∨ path.length = 0 then some false else sheet_Match.go k path ps 0 (List.replicate path.length false)) else none
theorem sheet_Match.inner_mono (k : Nat) (p : S78) (path : List S56) (i : Nat) : ∀ (c j : Nat) (E : List Bool) (so ah : Bool), LeO (sheet_Match.inner k p path i c j E so ah) (sheet_Match.inner (k + 1) p path i c j E so ah)
  | 0, _, _, _, _ => LeO.refl _
  | c + 1, j, E, so, ah => by
    rw [sheet_Match.inner, sheet_Match.inner]
    exact LeO.bind (LeO.ite (sheet_fits.mono _ _ _ _ _ _ _ _) (LeO.refl _)) (fun t => sheet_Match.inner_mono k p path i c _ _ _ _)
theorem sheet_Match.go_mono (k : Nat) (path : List S56) : ∀ (l : List S78) (i : Nat) (E : List Bool), LeO (sheet_Match.go k path l i E) (sheet_Match.go (k + 1) path l i E)
  | [], _, _ => LeO.refl _
  | p :: r, i, E => by
    rw [sheet_Match.go, sheet_Match.go]
    exact LeO.bind (sheet_Match.inner_mono k p path i _ _ _ _ _) (fun E => sheet_Match.go_mono k path r _ _)
theorem sheet_Match.mono : ∀ a0 a1 k, LeO (sheet_Match.f k a0 a1) (sheet_Match.f (k + 1) a0 a1) := by
  intro a0 a1 k
  unfold sheet_Match.f
  exact LeO.ite (LeO.ite (LeO.refl _) (sheet_Match.go_mono k a1 a0 _ _)) (LeO.refl _)
theorem drop_T78 {ps : List S78} {i : Nat} (h : i < ps.length) : ps.drop i = rd_T78 ps (i : Int) :: ps.drop (i + 1) := by
  rw [List.drop_eq_getElem_cons h]
  simp [rd_T78, List.getD_eq_getElem?_getD, h]
set_option maxHeartbeats 8000000 in
set_option maxRecDepth 100000 in
theorem sheet_Match.calls (k : Nat) (A0_0 : Option Addr) (c0_0 : Nat) (l0_0 : List (S78)) (A1 : Option Addr) (c1 : Nat) (l1 : List (S56)) (r : Bool) (w : World) (hr0_0 : Kd.C k78 w A0_0 l0_0.length l0_0) (hc0_0 : l0_0.length ≤ c0_0) (hr1 : Kd.C k56 w A1 l1.length l1) (hc1 : l1.length ≤ c1) (h : sheet_Match.f k l0_0 l1 = some r) :
  Calls Try.prog 51 #[.agg #[.slice A0_0 l0_0.length c0_0], .slice A1 l1.length c1] w fun e w' => e = .returned (.bool r) ∧ Below w.heap.size w w' := by
 have HR0 := Aside0.mk hr0_0
 have HC0 := Aside0.mk hc0_0
 have HR1 := Aside0.mk hr1
 have HC1 := Aside0.mk hc1
 clear hr0_0 hc0_0 hr1 hc1
 unfold sheet_Match.f at h
 by_cases hn : l0_0.length ≤ 100000 ∧ l1.length ≤ 100000
 rotate_left
 ·rw [if_neg hn] at h
  exact absurd h (by simp)
 rw [if_pos hn] at h
 have HN := Aside0.mk hn
 have w0 : IntKind.i64.wrap ((l1.length : Int) - 1) = (l1.length : Int) - 1 := by rw [IntKind.wrap_i64]; omega
 by_cases h0 : l0_0.length = 0
 ·rw [if_pos (.inl h0)] at h
  obtain rfl := Option.some.inj h
  have g1 : ((l0_0.length : Int) == 0) = true := beq_iff_eq.mpr (by omega)
  have g2 : (l0_0.length == 0) = true := beq_iff_eq.mpr h0
  clear h h0 hn
  go_enter Try.func51, Try.ntmps51
  go_wp2
  go_ret
  exact ⟨rfl, below_alloc (Below.refl _ _) _⟩
 have g1 : ((l0_0.length : Int) == 0) = false := beq_eq_false_iff_ne.mpr (by omega)
 have g2 : (l0_0.length == 0) = false := beq_eq_false_iff_ne.mpr h0
 by_cases h1 : l1.length = 0
 ·rw [if_pos (.inr h1)] at h
  obtain rfl := Option.some.inj h
  have w1 : IntKind.i64.wrap ((l1.length : Int) - 1) = -1 := by rw [w0]; omega
  clear h h0 h1 hn w0
  go_enter Try.func51, Try.ntmps51
  go_wp2
  go_ret
  exact ⟨rfl, below_alloc (Below.refl _ _) _⟩
 rw [if_neg (fun x => x.elim h0 h1)] at h
 have HG := Aside0.mk (show sheet_Match.go k l1 (l0_0.drop 0) 0 (List.replicate l1.length false) = some r from h)
 have hmk : ∀ w : World, (Instr.makeSlice 76 (.int .i64 (l1.length : Int)) (.int .i64 (l1.length : Int))).run Try.prog w = .ok (.slice (some ⟨w.heap.size, 0, none⟩) l1.length l1.length) (w.alloc (.cells (St.falseCells l1.length) 4)) := by
  intro w
  obtain ⟨i, hi, he⟩ := Option.map_eq_some_iff.1 St.info4
  simp only [Prod.mk.injEq] at he
  obtain ⟨e1, e2, e3⟩ := he
  have := run_make (P := Try.prog) w 76 4 i (.bool false) Try.underlying76 hi e1 .i64 .i64 (l1.length : Int) (l1.length : Int) (by omega) (by omega) (by rw [e3]; omega) (by omega)
  rw [this, e2, St.made_false, Int.toNat_natCast]
 have g3 : decide ((l1.length : Int) - 1 < 0) = false := decide_eq_false (by omega)
 have g4 : ((l1.length : Int) - 1 < 0) = False := eq_false (by omega)
 have g5 : (0 ≤ (l1.length : Int) - 1) = True := eq_true (by omega)
 have g6 : ((l1.length : Int) < 1) = False := eq_false (by omega)
 have g7 : decide ((l1.length : Int) < 1) = false := decide_eq_false (by omega)
 have H1 := Aside0.mk h1
 clear h h0 h1 hn
 go_enter Try.func51, Try.ntmps51
 go_upto_region 5 with (fail)
 clear hmk g1 g2 g3 g4 g5 g6 g7
 have z2 : ((w.alloc (.cells #[.slice A0_0 l0_0.length c0_0] 45)).alloc (.cells (St.falseCells l1.length) 4)).heap[w.heap.size]? = some (.cells #[.slice A0_0 l0_0.length c0_0] 45 (0, 0)) := ((below_alloc (Below.refl _ _) _).block w.heap.size (by simp)).trans (heap_alloc_new w _)
 have z6 : St.BRow ((w.alloc (.cells #[.slice A0_0 l0_0.length c0_0] 45)).alloc (.cells (St.falseCells l1.length) 4)) (w.heap.size + 1) (List.replicate l1.length false) := by
  have h_ := heap_alloc_new (w.alloc (.cells #[.slice A0_0 l0_0.length c0_0] 45)) (.cells (St.falseCells l1.length) 4)
  rw [show (w.alloc (.cells #[.slice A0_0 l0_0.length c0_0] 45)).heap.size = w.heap.size + 1 by simp] at h_
  exact h_
 have hb := below_alloc (below_alloc (Below.refl w.heap.size w) (.cells #[.slice A0_0 l0_0.length c0_0] 45)) (.cells (St.falseCells l1.length) 4)
 obtain ⟨b2, hb2⟩ : ∃ z, z = w.heap.size := ⟨_, rfl⟩
 obtain ⟨bm, hbm⟩ : ∃ z, z = w.heap.size + 1 := ⟨_, rfl⟩
 have HGM : Aside0 (w.heap.size ≤ bm) := ⟨by omega⟩
 have HN2 : Aside0 (b2 ≠ bm) := ⟨by omega⟩
 rw [← hb2] at z2
 rw [← hbm] at z6
 rw [← hbm, ← hb2]
 have Z2 := Aside0.mk z2
 have Z6 := Aside0.mk z6
 have HB := Aside0.mk hb
 clear hb2 hbm z2 z6 hb
 generalize ((w.alloc (.cells #[.slice A0_0 l0_0.length c0_0] 45)).alloc (.cells (St.falseCells l1.length) 4)) = wA at Z2 Z6 HB ⊢
 have y2 : wA.cell? ⟨b2, 0, none⟩ = some (.slice A0_0 l0_0.length c0_0) := (blk_cell Z2.out 0).trans rfl
 go_wp2
 clear y2 w0
 go_loopg [31] l0_0.length (fun kq v31 w' => ∃ (i : Nat) (E : List Bool), v31 = .int .i64 (i : Int) ∧ Aside0 (i + kq = l0_0.length) ∧ Aside0 (E.length = l1.length) ∧ Aside0 (sheet_Match.go k l1 (l0_0.drop i) i E = some r) ∧ Aside0 (St.BRow w' bm E) ∧ Aside0 (Below w.heap.size w w'))
 case atStart => exact ⟨0, _, by first | rfl | simp, ⟨by omega⟩, ⟨by simp⟩, HG, Z6, HB⟩
 case round =>
  clear HG Z2 Z6 HB
  obtain ⟨i, E, rfl, HK, HE, HG, Z6, HB⟩ := hrel
  cases gk with
  | zero =>
   have e : E.getD (l1.length - 1) false = r := by
    have := HG.out
    rw [List.drop_eq_nil_of_le (by have := HK.out; omega), sheet_Match.go] at this
    exact Option.some.inj this
   have hx := Z6.out.cell (l1.length - 1) (by rw [HE.out]; have := H1.out; omega)
   rw [e] at hx
   have q0 : IntKind.i64.wrap ((l1.length : Int) - 1) = (l1.length : Int) - 1 := by have := HN.out; rw [IntKind.wrap_i64]; omega
   have q1 : (0 ≤ (l1.length : Int) - 1) = True := eq_true (by have := H1.out; omega)
   have q2 : ((l1.length : Int) - 1 < (l1.length : Int)) = True := eq_true (by omega)
   have q3 : (1 ≤ (l1.length : Int)) = True := eq_true (by have := H1.out; omega)
   have q4 : (0 < l1.length) = True := eq_true (by have := H1.out; omega)
   have q5 : ((l1.length : Int) - 1).toNat = l1.length - 1 := by omega
   have m1 : decide ((i : Int) < (l0_0.length : Int)) = false := decide_eq_false (by have := HK.out; omega)
   have m2 : (i < l0_0.length) = False := eq_false (by have := HK.out; omega)
   have m3 : decide (i < l0_0.length) = false := decide_eq_false (by have := HK.out; omega)
   clear HG e
   go_wp2
   go_ret
   exact ⟨rfl, HB.out⟩
  | succ q =>
   have hi : i < l0_0.length := by have := HK.out; omega
   have H := HG.out
   rw [drop_T78 hi, sheet_Match.go] at H
   obtain ⟨E2, AI0, H⟩ := Option.bind_eq_some_iff.mp H
   obtain ⟨ad, A2, c2, ead, hx0, hx1, hx2, hx3, hl2, hi2⟩ := at_T78 HR0.out (i : Int) (by omega) (by omega)
   cases ead
   rw [Int.toNat_natCast] at hx0 hx1 hx2 hx3
   replace hx0 := pw_cell_below HB.out hx0
   replace hx1 := pw_cell_below HB.out hx1
   replace hx2 := pw_cell_below HB.out hx2
   replace hx3 := pw_cell_below HB.out hx3
   obtain ⟨p, hp⟩ : ∃ x, rd_T78 l0_0 (i : Int) = x := ⟨_, rfl⟩
   rw [hp] at hx0 hx1 hx2 hx3 hl2 hi2 AI0
   obtain ⟨pn, pd, pc, pk⟩ := p
   dsimp only at hx0 hx1 hx2 hx3 hl2 hi2
   obtain ⟨zi, hz⟩ : ∃ z, (i == 0) = z := ⟨_, rfl⟩
   have hz1 : ((i : Int) == 0) = zi := by rw [← hz]; rw [Bool.eq_iff_iff]; simp
   rw [hz] at AI0
   have HZ := Aside0.mk hz
   have AI := Aside0.mk AI0
   have HH := Aside0.mk H
   have HL2 := Aside0.mk hl2
   have HI2 := Aside0.mk hi2
   have m1 : decide ((i : Int) < (l0_0.length : Int)) = true := decide_eq_true (by omega)
   have m2 : ((i : Int) < (l0_0.length : Int)) = True := eq_true (by omega)
   have m3 : (0 ≤ (i : Int)) = True := eq_true (by omega)
   have m4 : (i < l0_0.length) = True := eq_true hi
   have m5 : decide (i < l0_0.length) = true := decide_eq_true hi
   have HI := Aside0.mk hi
   clear H AI0 hp HG hl2 hi2 hi hz
   go_upto_region 9 with (fail)
   clear m1 m2 m3 m4 m5 hx0 hx1 hx2 hx3 hz1
   have z8 : (wr.alloc (.cells #[.string pn, .string pd, .slice A2 pc.length c2, .bool pk] 78)).heap[wr.heap.size]? = some (.cells #[.string pn, .string pd, .slice A2 pc.length c2, .bool pk] 78 (0, 0)) := heap_alloc_new wr _
   have z6 := Z6.out.below (below_alloc (Below.refl _ _) (.cells #[.string pn, .string pd, .slice A2 pc.length c2, .bool pk] 78))
   have hb := below_alloc HB.out (.cells #[.string pn, .string pd, .slice A2 pc.length c2, .bool pk] 78)
   have hne : wr.heap.size ≠ bm := Nat.ne_of_gt Z6.out.lt
   obtain ⟨b8, hb8⟩ : ∃ z, z = wr.heap.size := ⟨_, rfl⟩
   rw [← hb8] at z8 hne ⊢
   clear Z6 HB hb8
   have Z6 := Aside0.mk z6
   have Z8 := Aside0.mk z8
   have HB := Aside0.mk hb
   have HNE := Aside0.mk hne
   clear z6 z8 hb hne
   generalize (wr.alloc (.cells #[.string pn, .string pd, .slice A2 pc.length c2, .bool pk] 78)) = wB at Z6 Z8 HB ⊢
   go_wp2
   go_loopg [9, 10, 40] l1.length (fun kq v9 v10 v40 w' => ∃ (j : Nat) (E : List Bool) (so ah : Bool), v9 = .bool so ∧ v10 = .bool ah ∧ v40 = .int .i64 (j : Int) ∧ Aside0 (j + kq = l1.length) ∧ Aside0 (E.length = l1.length) ∧ Aside0 (sheet_Match.inner k ⟨pn, pd, pc, pk⟩ l1 i kq j E so ah = some E2) ∧ Aside0 (St.BRow w' bm E) ∧ Aside0 (w'.heap[b8]? = some (.cells #[.string pn, .string pd, .slice A2 pc.length c2, .bool pk] 78 (0, 0))) ∧ Aside0 (Below w.heap.size w w'))
   case atStart => exact ⟨0, E, zi, false, rfl, rfl, by first | rfl | simp, ⟨by omega⟩, HE, AI, Z6, Z8, HB⟩
   case round =>
    clear AI Z6 Z8 HB HE
    obtain ⟨j, E, so, ah, rfl, rfl, rfl, HJ, HE, AI, Z6, Z8, HB⟩ := hrel
    cases gk with
    | zero =>
     have e : E = E2 := Option.some.inj AI.out
     subst e
     have m1 : decide ((j : Int) < (l1.length : Int)) = false := decide_eq_false (by have := HJ.out; omega)
     have m2 : (j < l1.length) = False := eq_false (by have := HJ.out; omega)
     have m3 : decide (j < l1.length) = false := decide_eq_false (by have := HJ.out; omega)
     have p6 : IntKind.i64.wrap ((i : Int) + 1) = (i : Int) + 1 := by have := HI.out; have := HN.out; rw [IntKind.wrap_i64]; omega
     clear AI
     go_wp2
     go_roundg q
     case measure => exact Nat.lt_succ_self q
     case rel => exact ⟨i + 1, E, by go_num, ⟨by have := HK.out; omega⟩, HE, HH, Z6, HB⟩
    | succ u =>
     have hj : j < l1.length := by have := HJ.out; omega
     have H := AI.out
     rw [sheet_Match.inner] at H
     obtain ⟨t, AT0, H⟩ := Option.bind_eq_some_iff.mp H
     obtain ⟨ad3, A3, c3, ead3, hd0, hd1, hd2, hl3, hi3⟩ := at_T56 HR1.out (j : Int) (by omega) (by omega)
     cases ead3
     rw [Int.toNat_natCast] at hd0 hd1 hd2
     replace hd0 := pw_cell_below HB.out hd0
     replace hd1 := pw_cell_below HB.out hd1
     replace hd2 := pw_cell_below HB.out hd2
     obtain ⟨e, he⟩ : ∃ x, rd_T56 l1 (j : Int) = x := ⟨_, rfl⟩
     rw [he] at hd0 hd1 hd2 hl3 hi3 AT0
     obtain ⟨en, ei, ec⟩ := e
     dsimp only at hd0 hd1 hd2 hl3 hi3 AT0
     have hx := Z6.out.cell j (by rw [HE.out]; exact hj)
     have hf := Z6.out.frozen j
     obtain ⟨was, hwas⟩ : ∃ z, E.getD j false = z := ⟨_, rfl⟩
     rw [hwas] at H hx
     have HH2 := Aside0.mk H
     have HL3 := Aside0.mk hl3
     have HI3 := Aside0.mk hi3
     have AT1 := Aside0.mk AT0
     have m1 : decide ((j : Int) < (l1.length : Int)) = true := decide_eq_true (by omega)
     have m2 : ((j : Int) < (l1.length : Int)) = True := eq_true (by omega)
     have m3 : (0 ≤ (j : Int)) = True := eq_true (by omega)
     have m4 : (j < l1.length) = True := eq_true hj
     have m5 : decide (j < l1.length) = true := decide_eq_true hj
     have p6 : IntKind.i64.wrap ((j : Int) + 1) = (j : Int) + 1 := by have := HN.out; rw [IntKind.wrap_i64]; omega
     clear H AT0 he hwas hl3 hi3 AI
     go_upto_region 12 with (fail)
     have z12 : (wr.alloc (.cells #[.string en, .string ei, .slice A3 ec.length c3] 56)).heap[wr.heap.size]? = some (.cells #[.string en, .string ei, .slice A3 ec.length c3] 56 (0, 0)) := heap_alloc_new wr _
     have z6 := Z6.out.below (below_alloc (Below.refl _ _) (.cells #[.string en, .string ei, .slice A3 ec.length c3] 56))
     have z8 := ((below_alloc (Below.refl _ _) (.cells #[.string en, .string ei, .slice A3 ec.length c3] 56)).block b8 (blk_lt Z8.out)).trans Z8.out
     have hb := below_alloc HB.out (.cells #[.string en, .string ei, .slice A3 ec.length c3] 56)
     replace hx := pw_cell_below (below_alloc (Below.refl _ _) (.cells #[.string en, .string ei, .slice A3 ec.length c3] 56)) hx
     have hf := z6.frozen j
     clear hd0 hd1 hd2
     obtain ⟨b12, hb12⟩ : ∃ z, z = wr.heap.size := ⟨_, rfl⟩
     rw [← hb12] at z12 ⊢
     clear Z6 Z8 HB hb12
     have Z6 := Aside0.mk z6
     have Z8 := Aside0.mk z8
     have Z12 := Aside0.mk z12
     have HB := Aside0.mk hb
     clear z6 z8 z12 hb
     generalize (wr.alloc (.cells #[.string en, .string ei, .slice A3 ec.length c3] 56)) = wC at Z6 Z8 Z12 HB hx hf ⊢
     have t0 : wC.cell? ⟨b8, 0, none⟩ = some (.string pn) := (blk_cell Z8.out 0).trans rfl
     have t1 : wC.cell? ⟨b8, 1, none⟩ = some (.string pd) := (blk_cell Z8.out 1).trans rfl
     have t2 : wC.cell? ⟨b8, 2, none⟩ = some (.slice A2 pc.length c2) := (blk_cell Z8.out 2).trans rfl
     have t3 : wC.cell? ⟨b8, 3, none⟩ = some (.bool pk) := (blk_cell Z8.out 3).trans rfl
     have s0 : wC.cell? ⟨b12, 0, none⟩ = some (.string en) := (blk_cell Z12.out 0).trans rfl
     have s1 : wC.cell? ⟨b12, 1, none⟩ = some (.string ei) := (blk_cell Z12.out 1).trans rfl
     have s2 : wC.cell? ⟨b12, 2, none⟩ = some (.slice A3 ec.length c3) := (blk_cell Z12.out 2).trans rfl
     have hz1 : ((i : Int) == 0) = zi := by rw [← HZ.out]; rw [Bool.eq_iff_iff]; simp
     have hz2 : decide (0 < (i : Int)) = !zi := by rw [← HZ.out]; rw [Bool.eq_iff_iff]; simp <;> omega
     have hz3 : (i == 0) = zi := HZ.out
     have hz4 : decide (0 < i) = !zi := by rw [← HZ.out]; rw [Bool.eq_iff_iff]; simp <;> omega
     obtain ⟨cc, hcc⟩ : ∃ z, cnd i pk so ah = z := ⟨_, rfl⟩
     have AT : Aside0 ((if cc = true then sheet_fits.f k pn pd pc pk en ei ec else some false) = some t) := ⟨by rw [← hcc]; exact AT1.out⟩
     rw [cnd, hz3, hz4] at hcc
     clear AT1 HZ hz3
     cases cc with
     | true =>
      have AT2 : Aside0 (sheet_fits.f k pn pd pc pk en ei ec = some t) := ⟨AT.out⟩
      clear AT
      cases zi <;> cases so <;> cases pk <;> cases ah <;> first | (simp at hcc; done) | skip
      all_goals clear hcc
      all_goals go_wp2_with (first | (go_at_call 54; (with_reducible refine (sheet_fits.calls k pn pd A2 c2 pc _ en ei _ c3 ec t _ (Kd.C_below HI2.out HB.out) HL2.out (Kd.C_below HI3.out HB.out) HL3.out AT2.out).mono ?_); rintro e w5 ⟨rfl, hb⟩; have n6_ := Aside0.mk (Z6.out.below hb); have n8_ := Aside0.mk ((hb.block b8 (blk_lt Z8.out)).trans Z8.out); have nB_ := Aside0.mk (below_step HB.out hb); clear Z6 Z8 Z12 HB t0 t1 t2 t3 s0 s1 s2 hf; have Z6 := n6_; have Z8 := n8_; have HB := nB_; clear n6_ n8_ nB_; replace hx := pw_cell_below hb hx; have hf := Z6.out.frozen j; clear hb))
      all_goals go_roundg u
      all_goals first | exact Nat.lt_succ_self u | exact ⟨j + 1, E.set j t, _, was, by first | rfl | simp, rfl, by go_num, ⟨by have := HJ.out; omega⟩, ⟨by rw [List.length_set]; exact HE.out⟩, HH2, ⟨Z6.out.set j t⟩, ⟨blk_far Z8.out HNE.out _⟩, ⟨below_set HB.out HGM.out⟩⟩
     | false =>
      have e : t = false := (Option.some.inj AT.out).symm
      subst e
      clear AT
      cases zi <;> cases so <;> cases pk <;> cases ah <;> first | (simp at hcc; done) | skip
      all_goals clear hcc
      all_goals go_wp2
      all_goals go_roundg u
      all_goals first | exact Nat.lt_succ_self u | exact ⟨j + 1, E.set j false, _, was, by first | rfl | simp, rfl, by go_num, ⟨by have := HJ.out; omega⟩, ⟨by rw [List.length_set]; exact HE.out⟩, HH2, ⟨Z6.out.set j false⟩, ⟨blk_far Z8.out HNE.out _⟩, ⟨below_set HB.out HGM.out⟩⟩

/-! ### sheet_Weight: function 52 -/
/-- How much the parts of a selector say. -/
def wgt : List S78 → Int × Int × Int → Int × Int × Int
 | [], x => x
 | p :: r, x => wgt r (if p.f1.toList = ([] : List UInt8) then x.1 else wrap64 (x.1 + 1), wrap64 (x.2.1 + (p.f2.length : Int)), if p.f0.toList = ([] : List UInt8) then x.2.2 else wrap64 (x.2.2 + 1))
theorem wgt_drop {ps : List S78} {i : Nat} (h : i < ps.length) : ps.drop i = rd_T78 ps (i : Int) :: ps.drop (i + 1) := by
 rw [List.drop_eq_getElem_cons h]
 simp [rd_T78, List.getD_eq_getElem?_getD, h]
def sheet_Weight.f (ps : List S78) : Option (Int × Int × Int) := some (wgt ps (0, 0, 0))
set_option maxHeartbeats 8000000 in
set_option maxRecDepth 100000 in
theorem sheet_Weight.calls (A0_0 : Option Addr) (c0_0 : Nat) (l0_0 : List (S78)) (r1 : Int) (r2 : Int) (r3 : Int) (w : World) (hr0_0 : Kd.C k78 w A0_0 l0_0.length l0_0) (hc0_0 : l0_0.length ≤ c0_0) (h : sheet_Weight.f l0_0 = some (r1, r2, r3)) :
  Calls Try.prog 52 #[.agg #[.slice A0_0 l0_0.length c0_0]] w fun e w' => e = .returned (.agg #[.int .i64 r1, .int .i64 r2, .int .i64 r3]) ∧ Below w.heap.size w w' := by
 have HR0 := Aside0.mk hr0_0
 have HC0 := Aside0.mk hc0_0
 have HF : Aside0 (wgt (l0_0.drop 0) (0, 0, 0) = (r1, r2, r3)) := ⟨Option.some.inj h⟩
 have hlen : l0_0.length ≤ 9223372036854775807 := hr0_0.2.1
 have HLEN := Aside0.mk hlen
 clear hr0_0 hc0_0 h hlen
 obtain ⟨w1, hw1⟩ : ∃ z, z = ((w.alloc (.cells #[.slice A0_0 l0_0.length c0_0] 45)).alloc (.cells #[.int .i64 0, .int .i64 0, .int .i64 0] 71)).alloc (.cells #[.int .i64 0, .int .i64 0, .int .i64 0] 71) := ⟨_, rfl⟩
 have s1 : (w.alloc (.cells #[.slice A0_0 l0_0.length c0_0] 45)).heap.size = w.heap.size + 1 := by simp
 have s2 : ((w.alloc (.cells #[.slice A0_0 l0_0.length c0_0] 45)).alloc (.cells #[.int .i64 0, .int .i64 0, .int .i64 0] 71)).heap.size = w.heap.size + 2 := by simp
 have z1 : w1.heap[w.heap.size]? = some (.cells #[.slice A0_0 l0_0.length c0_0] 45 (0, 0)) := by
  rw [hw1]
  exact ((below_alloc (below_alloc (Below.refl _ _) _) _).block w.heap.size (by simp)).trans (heap_alloc_new w _)
 have z2 : w1.heap[w.heap.size + 1]? = some (.cells #[.int .i64 0, .int .i64 0, .int .i64 0] 71 (0, 0)) := by
  have h_ := heap_alloc_new (w.alloc (.cells #[.slice A0_0 l0_0.length c0_0] 45)) (.cells #[.int .i64 0, .int .i64 0, .int .i64 0] 71)
  rw [s1] at h_
  rw [hw1]
  exact ((below_alloc (Below.refl _ _) _).block (w.heap.size + 1) (by simp)).trans h_
 have z3 : w1.heap[w.heap.size + 2]? = some (.cells #[.int .i64 0, .int .i64 0, .int .i64 0] 71 (0, 0)) := by
  have h_ := heap_alloc_new ((w.alloc (.cells #[.slice A0_0 l0_0.length c0_0] 45)).alloc (.cells #[.int .i64 0, .int .i64 0, .int .i64 0] 71)) (.cells #[.int .i64 0, .int .i64 0, .int .i64 0] 71)
  rw [s2] at h_
  rw [hw1]
  exact h_
 have hb1 : Below w.heap.size w w1 := by
  rw [hw1]
  exact below_alloc (below_alloc (below_alloc (Below.refl _ _) _) _) _
 have HW1 := Aside0.mk hw1
 have Z1 := Aside0.mk z1
 have Z2 := Aside0.mk z2
 have Z3 := Aside0.mk z3
 have HB := Aside0.mk hb1
 clear hw1 s1 s2 z1 z2 z3 hb1
 go_enter Try.func52, Try.ntmps52
 go_upto_region 2 with (fail)
 obtain ⟨b1, hb1⟩ : ∃ z, z = w.heap.size := ⟨_, rfl⟩
 obtain ⟨b2, hb2⟩ : ∃ z, z = w.heap.size + 1 := ⟨_, rfl⟩
 obtain ⟨b3, hb3⟩ : ∃ z, z = w.heap.size + 2 := ⟨_, rfl⟩
 have HG2 : Aside0 (w.heap.size ≤ b2) := ⟨by omega⟩
 have HG3 : Aside0 (w.heap.size ≤ b3) := ⟨by omega⟩
 have HN13 : Aside0 (b1 ≠ b3) := ⟨by omega⟩
 have HN23 : Aside0 (b2 ≠ b3) := ⟨by omega⟩
 rw [← HW1.out]
 rw [← hb3, ← hb2, ← hb1]
 rw [← hb1] at Z1
 rw [← hb2] at Z2
 rw [← hb3] at Z3
 clear hb1 hb2 hb3 HW1
 have y1 : w1.cell? ⟨b1, 0, none⟩ = some (.slice A0_0 l0_0.length c0_0) := (blk_cell Z1.out 0).trans rfl
 go_wp2
 clear y1
 go_loopg [9] l0_0.length (fun kq v9 w' => ∃ (i : Nat) (x0 x1 x2 : Int), v9 = .int .i64 (i : Int) ∧ Aside0 (i + kq = l0_0.length) ∧ Aside0 (wgt (l0_0.drop i) (x0, x1, x2) = (r1, r2, r3)) ∧ Aside0 (w'.heap[b1]? = some (.cells #[.slice A0_0 l0_0.length c0_0] 45 (0, 0))) ∧ Aside0 (w'.heap[b2]? = some (.cells #[.int .i64 0, .int .i64 0, .int .i64 0] 71 (0, 0))) ∧ Aside0 (w'.heap[b3]? = some (.cells #[.int .i64 x0, .int .i64 x1, .int .i64 x2] 71 (0, 0))) ∧ Aside0 (Below w.heap.size w w'))
 case atStart => exact ⟨0, 0, 0, 0, by first | rfl | simp, ⟨by omega⟩, HF, Z1, Z2, Z3, HB⟩
 case round =>
  clear HF Z1 Z2 Z3 HB
  obtain ⟨i, x0, x1, x2, rfl, HK, HF, Z1, Z2, Z3, HB⟩ := hrel
  have y1 : wr.cell? ⟨b1, 0, none⟩ = some (.slice A0_0 l0_0.length c0_0) := (blk_cell Z1.out 0).trans rfl
  cases gk with
  | zero =>
   have e : (x0, x1, x2) = (r1, r2, r3) := by
    have := HF.out
    rw [List.drop_eq_nil_of_le (by have := HK.out; omega), wgt] at this
    exact this
   simp only [Prod.mk.injEq] at e
   obtain ⟨rfl, rfl, rfl⟩ := e
   have m1 : decide ((i : Int) < (l0_0.length : Int)) = false := decide_eq_false (by have := HK.out; omega)
   have m2 : (i < l0_0.length) = False := eq_false (by have := HK.out; omega)
   have m3 : decide (i < l0_0.length) = false := decide_eq_false (by have := HK.out; omega)
   have c0_ : wr.cell? ⟨b3, 0, none⟩ = some (.int .i64 x0) := (blk_cell Z3.out 0).trans rfl
   have c1_ : wr.cell? ⟨b3, 1, none⟩ = some (.int .i64 x1) := (blk_cell Z3.out 1).trans rfl
   have c2_ : wr.cell? ⟨b3, 2, none⟩ = some (.int .i64 x2) := (blk_cell Z3.out 2).trans rfl
   have d0_ : wr.cell? ⟨b2, 0, none⟩ = some (.int .i64 0) := (blk_cell Z2.out 0).trans rfl
   have d1_ : wr.cell? ⟨b2, 1, none⟩ = some (.int .i64 0) := (blk_cell Z2.out 1).trans rfl
   have d2_ : wr.cell? ⟨b2, 2, none⟩ = some (.int .i64 0) := (blk_cell Z2.out 2).trans rfl
   have f0_ := blk_frozen Z2.out 0
   have f1_ := blk_frozen Z2.out 1
   have f2_ := blk_frozen Z2.out 2
   clear HF
   go_wp2
   refine bodyPost_ret (results_cell_row rfl _ _ b2 71 #[.int .i64 x0, .int .i64 x1, .int .i64 x2] (0, 0) _ rfl (St.three0 Z2.out) Try.underlying71 rfl (by kernel_rfl)) rfl ?_
   exact ⟨rfl, below_set (below_set (below_set HB.out HG2.out) HG2.out) HG2.out⟩
  | succ q =>
   have hi : i < l0_0.length := by have := HK.out; omega
   have H := HF.out
   rw [wgt_drop hi, wgt] at H
   obtain ⟨ad, A2, c2, ead, hx0, hx1, hx2, hx3, hl2, hi2⟩ := at_T78 HR0.out (i : Int) (by omega) (by omega)
   cases ead
   rw [Int.toNat_natCast] at hx0 hx1 hx2 hx3
   replace hx0 := pw_cell_below HB.out hx0
   replace hx1 := pw_cell_below HB.out hx1
   replace hx2 := pw_cell_below HB.out hx2
   replace hx3 := pw_cell_below HB.out hx3
   obtain ⟨⟨pn, pd, pc, pk⟩, hp⟩ : ∃ x, rd_T78 l0_0 (i : Int) = x := ⟨_, rfl⟩
   rw [hp] at hx0 hx1 hx2 hx3 H
   dsimp only at hx0 hx1 hx2 hx3 H
   have HH := Aside0.mk H
   have c0_ : wr.cell? ⟨b3, 0, none⟩ = some (.int .i64 x0) := (blk_cell Z3.out 0).trans rfl
   have c1_ : wr.cell? ⟨b3, 1, none⟩ = some (.int .i64 x1) := (blk_cell Z3.out 1).trans rfl
   have c2_ : wr.cell? ⟨b3, 2, none⟩ = some (.int .i64 x2) := (blk_cell Z3.out 2).trans rfl
   have za : (wr.alloc (.cells #[.string pn, .string pd, .slice A2 pc.length c2, .bool pk] 78)).heap[b3]? = some (.cells #[.int .i64 x0, .int .i64 x1, .int .i64 x2] 71 (0, 0)) := ((below_alloc (Below.refl _ _) _).block b3 (blk_lt Z3.out)).trans Z3.out
   have a0_ : (wr.alloc (.cells #[.string pn, .string pd, .slice A2 pc.length c2, .bool pk] 78)).cell? ⟨b3, 0, none⟩ = some (.int .i64 x0) := (blk_cell za 0).trans rfl
   have a1_ : (wr.alloc (.cells #[.string pn, .string pd, .slice A2 pc.length c2, .bool pk] 78)).cell? ⟨b3, 1, none⟩ = some (.int .i64 x1) := (blk_cell za 1).trans rfl
   have a2_ : (wr.alloc (.cells #[.string pn, .string pd, .slice A2 pc.length c2, .bool pk] 78)).cell? ⟨b3, 2, none⟩ = some (.int .i64 x2) := (blk_cell za 2).trans rfl
   have f0_ := blk_frozen za 0
   have f1_ := blk_frozen za 1
   have f2_ := blk_frozen za 2
   have hb8 : b3 ≠ wr.heap.size := Nat.ne_of_lt (blk_lt Z3.out)
   have hb8' := Ne.symm hb8
   clear za
   have hn := HN13.out
   have hn' := Ne.symm HN13.out
   have m1 : decide ((i : Int) < (l0_0.length : Int)) = true := decide_eq_true (by omega)
   have m2 : ((i : Int) < (l0_0.length : Int)) = True := eq_true (by omega)
   have m3 : (0 ≤ (i : Int)) = True := eq_true (by omega)
   have m4 : (i < l0_0.length) = True := eq_true hi
   have m5 : decide (i < l0_0.length) = true := decide_eq_true hi
   have p6 : IntKind.i64.wrap ((i : Int) + 1) = (i : Int) + 1 := by have := HLEN.out; rw [IntKind.wrap_i64]; omega
   clear H hp HF hi hl2 hi2
   by_cases e1 : pd.toList = ([] : List UInt8)
   ·have g1 : (pd.toList == ([] : List UInt8)) = true := beq_iff_eq.mpr e1
    have g1' : pd.toList.isEmpty = true := by rw [e1]; rfl
    by_cases e2 : pn.toList = ([] : List UInt8)
    ·have g2 : (pn.toList == ([] : List UInt8)) = true := beq_iff_eq.mpr e2
     have g2' : pn.toList.isEmpty = true := by rw [e2]; rfl
     have HH2 : Aside0 (wgt (l0_0.drop (i + 1)) (x0, wrap64 (x1 + (pc.length : Int)), x2) = (r1, r2, r3)) := ⟨by have := HH.out; rw [if_pos e1, if_pos e2] at this; exact this⟩
     clear HH e1 e2
     go_wp2
     go_roundg q
     case measure => exact Nat.lt_succ_self q
     case rel => exact ⟨i + 1, _, _, _, by go_num, ⟨by have := HK.out; omega⟩, HH2, ⟨(blk_far (((below_alloc (Below.refl _ _) _).block _ (blk_lt Z1.out)).trans Z1.out) HN13.out _)⟩, ⟨(blk_far (((below_alloc (Below.refl _ _) _).block _ (blk_lt Z2.out)).trans Z2.out) HN23.out _)⟩, ⟨((heap_setCell_same _ b3 1 _ 71 _ (((below_alloc (Below.refl _ _) _).block _ (blk_lt Z3.out)).trans Z3.out)).trans rfl)⟩, ⟨(below_set (below_alloc HB.out _) HG3.out)⟩⟩
    ·have g2 : (pn.toList == ([] : List UInt8)) = false := beq_eq_false_iff_ne.mpr e2
     have g2' : pn.toList.isEmpty = false := by simpa using e2
     have HH2 : Aside0 (wgt (l0_0.drop (i + 1)) (x0, wrap64 (x1 + (pc.length : Int)), wrap64 (x2 + 1)) = (r1, r2, r3)) := ⟨by have := HH.out; rw [if_pos e1, if_neg e2] at this; exact this⟩
     clear HH e1 e2
     go_wp2
     go_roundg q
     case measure => exact Nat.lt_succ_self q
     case rel => exact ⟨i + 1, _, _, _, by go_num, ⟨by have := HK.out; omega⟩, HH2, ⟨(blk_far (blk_far (((below_alloc (Below.refl _ _) _).block _ (blk_lt Z1.out)).trans Z1.out) HN13.out _) HN13.out _)⟩, ⟨(blk_far (blk_far (((below_alloc (Below.refl _ _) _).block _ (blk_lt Z2.out)).trans Z2.out) HN23.out _) HN23.out _)⟩, ⟨((heap_setCell_same _ b3 2 _ 71 _ ((heap_setCell_same _ b3 1 _ 71 _ (((below_alloc (Below.refl _ _) _).block _ (blk_lt Z3.out)).trans Z3.out)).trans rfl)).trans rfl)⟩, ⟨(below_set (below_set (below_alloc HB.out _) HG3.out) HG3.out)⟩⟩
   ·have g1 : (pd.toList == ([] : List UInt8)) = false := beq_eq_false_iff_ne.mpr e1
    have g1' : pd.toList.isEmpty = false := by simpa using e1
    by_cases e2 : pn.toList = ([] : List UInt8)
    ·have g2 : (pn.toList == ([] : List UInt8)) = true := beq_iff_eq.mpr e2
     have g2' : pn.toList.isEmpty = true := by rw [e2]; rfl
     have HH2 : Aside0 (wgt (l0_0.drop (i + 1)) (wrap64 (x0 + 1), wrap64 (x1 + (pc.length : Int)), x2) = (r1, r2, r3)) := ⟨by have := HH.out; rw [if_neg e1, if_pos e2] at this; exact this⟩
     clear HH e1 e2
     go_wp2
     go_roundg q
     case measure => exact Nat.lt_succ_self q
     case rel => exact ⟨i + 1, _, _, _, by go_num, ⟨by have := HK.out; omega⟩, HH2, ⟨(blk_far (blk_far (((below_alloc (Below.refl _ _) _).block _ (blk_lt Z1.out)).trans Z1.out) HN13.out _) HN13.out _)⟩, ⟨(blk_far (blk_far (((below_alloc (Below.refl _ _) _).block _ (blk_lt Z2.out)).trans Z2.out) HN23.out _) HN23.out _)⟩, ⟨((heap_setCell_same _ b3 1 _ 71 _ ((heap_setCell_same _ b3 0 _ 71 _ (((below_alloc (Below.refl _ _) _).block _ (blk_lt Z3.out)).trans Z3.out)).trans rfl)).trans rfl)⟩, ⟨(below_set (below_set (below_alloc HB.out _) HG3.out) HG3.out)⟩⟩
    ·have g2 : (pn.toList == ([] : List UInt8)) = false := beq_eq_false_iff_ne.mpr e2
     have g2' : pn.toList.isEmpty = false := by simpa using e2
     have HH2 : Aside0 (wgt (l0_0.drop (i + 1)) (wrap64 (x0 + 1), wrap64 (x1 + (pc.length : Int)), wrap64 (x2 + 1)) = (r1, r2, r3)) := ⟨by have := HH.out; rw [if_neg e1, if_neg e2] at this; exact this⟩
     clear HH e1 e2
     go_wp2
     go_roundg q
     case measure => exact Nat.lt_succ_self q
     case rel => exact ⟨i + 1, _, _, _, by go_num, ⟨by have := HK.out; omega⟩, HH2, ⟨(blk_far (blk_far (blk_far (((below_alloc (Below.refl _ _) _).block _ (blk_lt Z1.out)).trans Z1.out) HN13.out _) HN13.out _) HN13.out _)⟩, ⟨(blk_far (blk_far (blk_far (((below_alloc (Below.refl _ _) _).block _ (blk_lt Z2.out)).trans Z2.out) HN23.out _) HN23.out _) HN23.out _)⟩, ⟨((heap_setCell_same _ b3 2 _ 71 _ ((heap_setCell_same _ b3 1 _ 71 _ ((heap_setCell_same _ b3 0 _ 71 _ (((below_alloc (Below.refl _ _) _).block _ (blk_lt Z3.out)).trans Z3.out)).trans rfl)).trans rfl)).trans rfl)⟩, ⟨(below_set (below_set (below_set (below_alloc HB.out _) HG3.out) HG3.out) HG3.out)⟩⟩

end Go.Proofs.Ytpembifnjlekdaa.PStyleAll
