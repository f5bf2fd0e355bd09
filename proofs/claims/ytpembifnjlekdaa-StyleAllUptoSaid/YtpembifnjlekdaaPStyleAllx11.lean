-- Written by a copy of the print that this session has turned (wip/tools/patchprint.py): arrays as records.
import Derived.Test.YtpembifnjlekdaaPStyleAllx0
import Derived.Test.YtpembifnjlekdaaPStyleAllx3
import Derived.Test.YtpembifnjlekdaaPStyleAllx4
import Derived.Test.YtpembifnjlekdaaPStyleAllx10
namespace Go.Proofs.Ytpembifnjlekdaa.PStyleAll
open Go.RowKit Go.Proofs.YtpembifnjlekdaaW.PrintWords Go.Proofs.YtpembifnjlekdaaW.PrintLast Go.Proofs.YtpembifnjlekdaaW.PrintMore
attribute [local go_sem] max2_int min2_int max_two min_two max_three min_three max_four min_four   -- for this text's walks alone
set_option linter.unusedVariables false
set_option linter.unusedSimpArgs false

/-! ### colophonref20_Winner: function 14 -/
def colophonref20_Winner.sel (k : Nat) (path : List S56) : List S45 → (Int × Int × Int) × Bool → Option ((Int × Int × Int) × Bool)
  | [], X => some X
  | s :: r, X => (colophonref19_Match.f k s.f0 path).bind fun m => if m = false then colophonref20_Winner.sel k path r X else
      colophonref20_Winner.sel k path r (if X.2 = false ∨ St.ls X.1 (wgt s.f0 (0, 0, 0)) = true then wgt s.f0 (0, 0, 0) else X.1, true)
def colophonref20_Winner.decls (prop : Int) (x : Int × Int × Int) : List S47 → CS → CS
  | [], c => c
  | d :: r, c => colophonref20_Winner.decls prop x r (if d.f0 = prop then ⟨true, d.f1, x.1, x.2.1, x.2.2⟩ else c)
def colophonref20_Winner.go (k : Nat) (path : List S56) (prop : Int) : List S41 → CS → Option CS
  | [], c => some c
  | x :: r, c => (colophonref20_Winner.sel k path x.f0 ((0, 0, 0), false)).bind fun X => colophonref20_Winner.go k path prop r (if X.2 = false ∨ (c.won = true ∧ St.ls X.1 (c.b0, c.b1, c.b2) = true) then c else colophonref20_Winner.decls prop X.1 x.f1 c)
def colophonref20_Winner.f (k : Nat) (l : List S41) (path : List S56) (prop : Int) : Option (Int × Bool) := if l.length ≤ 100000 then (colophonref20_Winner.go k path prop l ⟨false, 0, 0, 0, 0⟩).bind fun c => some (c.v, c.won) else none
theorem colophonref20_Winner.sel_mono (k : Nat) (path : List S56) : ∀ (l : List S45) (X : (Int × Int × Int) × Bool), LeO (colophonref20_Winner.sel k path l X) (colophonref20_Winner.sel (k + 1) path l X)
  | [], X => LeO.refl _
  | s :: r, X => by
    rw [colophonref20_Winner.sel, colophonref20_Winner.sel]
    exact LeO.bind (colophonref19_Match.mono _ _ _) (fun m => LeO.ite (colophonref20_Winner.sel_mono k path r X) (colophonref20_Winner.sel_mono k path r _))
theorem colophonref20_Winner.go_mono (k : Nat) (path : List S56) (prop : Int) : ∀ (l : List S41) (c : CS), LeO (colophonref20_Winner.go k path prop l c) (colophonref20_Winner.go (k + 1) path prop l c)
  | [], c => LeO.refl _
  | x :: r, c => by
    rw [colophonref20_Winner.go, colophonref20_Winner.go]
    exact LeO.bind (colophonref20_Winner.sel_mono k path _ _) (fun X => colophonref20_Winner.go_mono k path prop r _)
theorem colophonref20_Winner.mono : ∀ a0 a1 a2 k, LeO (colophonref20_Winner.f k a0 a1 a2) (colophonref20_Winner.f (k + 1) a0 a1 a2) := by
  intro a0 a1 a2 k
  unfold colophonref20_Winner.f
  exact LeO.ite (LeO.bind (colophonref20_Winner.go_mono k a1 a2 a0 _) (fun _ => LeO.refl _)) (LeO.refl _)
set_option maxHeartbeats 8000000 in
set_option maxRecDepth 100000 in
theorem colophonref20_Winner.calls (k : Nat) (A0 : Option Addr) (c0 : Nat) (l0 : List (S41)) (A1 : Option Addr) (c1 : Nat) (l1 : List (S56)) (a2 : Int) (r1 : Int) (r2 : Bool) (w : World) (hr0 : Kd.C k41 w A0 l0.length l0) (hc0 : l0.length ≤ c0) (hr1 : Kd.C k56 w A1 l1.length l1) (hc1 : l1.length ≤ c1) (h : colophonref20_Winner.f k l0 l1 a2 = some (r1, r2)) :
    Calls Try.prog 14 #[.slice A0 l0.length c0, .slice A1 l1.length c1, .int .i64 a2] w fun e w' => e = .returned (.tuple #[.int .i64 r1, .bool r2]) ∧ Below w.heap.size w w' := by
  have HR0 := Aside0.mk hr0
  have HC0 := Aside0.mk hc0
  have HR1 := Aside0.mk hr1
  have HC1 := Aside0.mk hc1
  clear hr0 hc0 hr1 hc1
  unfold colophonref20_Winner.f at h
  by_cases hn : l0.length ≤ 100000
  rotate_left
  · rw [if_neg hn] at h
    exact absurd h (by simp)
  rw [if_pos hn] at h
  obtain ⟨cR, hg, h⟩ := Option.bind_eq_some_iff.mp h
  simp only [Option.some.injEq, Prod.mk.injEq] at h
  obtain ⟨hv, hw⟩ := h
  have HN := Aside0.mk hn
  have HV := Aside0.mk (And.intro hv hw)
  have HG := Aside0.mk (show colophonref20_Winner.go k l1 a2 (l0.drop 0) ⟨false, 0, 0, 0, 0⟩ = some cR from hg)
  clear hn hg hv hw
  have z10 : (w.alloc (.cells #[.int .i64 0, .int .i64 0, .int .i64 0] 71)).heap[w.heap.size]? = some (.cells #[.int .i64 0, .int .i64 0, .int .i64 0] 71 (0, 0)) := heap_alloc_new w _
  have Z10 := Aside0.mk z10
  have HB := Aside0.mk (below_alloc (Below.refl w.heap.size w) (.cells #[.int .i64 0, .int .i64 0, .int .i64 0] 71))
  clear z10
  go_enter Try.func14, Try.ntmps14
  go_upto_region 3 with (fail)
  obtain ⟨b10, hb10⟩ : ∃ z, z = w.heap.size := ⟨_, rfl⟩
  have HG10 : Aside0 (w.heap.size ≤ b10) := ⟨by omega⟩
  rw [← hb10] at Z10 ⊢
  clear hb10
  generalize (w.alloc (.cells #[.int .i64 0, .int .i64 0, .int .i64 0] 71)) = wA at Z10 HB ⊢
  go_wp2
  go_loopg [8, 9, 11] l0.length (fun kq v8 v9 v11 w' => ∃ (i : Nat) (c : CS), v8 = .int .i64 c.v ∧ v9 = .bool c.won ∧ v11 = .int .i64 (i : Int) ∧ Aside0 (i + kq = l0.length) ∧ Aside0 (colophonref20_Winner.go k l1 a2 (l0.drop i) c = some cR) ∧ Aside0 (w'.heap[b10]? = some (.cells #[.int .i64 c.b0, .int .i64 c.b1, .int .i64 c.b2] 71 (0, 0))) ∧ Aside0 (Below w.heap.size w w'))
  case atStart => exact ⟨0, ⟨false, 0, 0, 0, 0⟩, rfl, rfl, by first | rfl | simp, ⟨by omega⟩, HG, Z10, HB⟩
  case round =>
    clear HG Z10 HB
    obtain ⟨i, c, rfl, rfl, rfl, HK, HG, Z10, HB⟩ := hrel
    cases gk with
    | zero =>
      have e : c = cR := by
        have := HG.out
        rw [List.drop_eq_nil_of_le (by have := HK.out; omega), colophonref20_Winner.go] at this
        exact Option.some.inj this
      subst e
      have m1 : decide ((i : Int) < (l0.length : Int)) = false := decide_eq_false (by have := HK.out; omega)
      have m2 : (i < l0.length) = False := eq_false (by have := HK.out; omega)
      have m3 : decide (i < l0.length) = false := decide_eq_false (by have := HK.out; omega)
      clear HG
      go_wp2
      go_ret2
      exact ⟨by have h_ := HV.out; simp [h_.1, h_.2], HB.out⟩
    | succ q =>
      have hi : i < l0.length := by have := HK.out; omega
      have ed : l0.drop i = rd_T41 l0 (i : Int) :: l0.drop (i + 1) := by
        rw [List.drop_eq_getElem_cons hi]
        simp [rd_T41, List.getD_eq_getElem?_getD, hi]
      have H := HG.out
      rw [ed, colophonref20_Winner.go] at H
      obtain ⟨X, AX0, H⟩ := Option.bind_eq_some_iff.mp H
      obtain ⟨ad, A2, c2, A3, c3, ead, hx0, hx1, hl2, hi2, hl3, hi3⟩ := at_T41 HR0.out (i : Int) (by omega) (by omega)
      cases ead
      rw [Int.toNat_natCast] at hx0 hx1
      obtain ⟨x, hx⟩ : ∃ z, rd_T41 l0 (i : Int) = z := ⟨_, rfl⟩
      rw [hx] at hx0 hx1 hl2 hi2 hl3 hi3 AX0 H
      obtain ⟨sl, dl⟩ := x
      dsimp only at hx0 hx1 hl2 hi2 hl3 hi3 AX0 H
      have AX := Aside0.mk (show colophonref20_Winner.sel k l1 (sl.drop 0) ((0, 0, 0), false) = some X from AX0)
      have HH := Aside0.mk H
      have HX0 := Aside0.mk (And.intro (World.block_lt_of_cell? w _ hx0) hx0)
      have HX1 := Aside0.mk (And.intro (World.block_lt_of_cell? w _ hx1) hx1)
      have HL2 := Aside0.mk hl2
      have HI2 := Aside0.mk hi2
      have HL3 := Aside0.mk hl3
      have HI3 := Aside0.mk hi3
      have HI := Aside0.mk hi
      have hls : sl.length ≤ 9223372036854775807 := hi2.2.1
      have hld : dl.length ≤ 9223372036854775807 := hi3.2.1
      have HLS := Aside0.mk hls
      have HLD := Aside0.mk hld
      have m1 : decide ((i : Int) < (l0.length : Int)) = true := decide_eq_true (by omega)
      have m2 : ((i : Int) < (l0.length : Int)) = True := eq_true (by omega)
      have m3 : (0 ≤ (i : Int)) = True := eq_true (by omega)
      have m4 : (i < l0.length) = True := eq_true hi
      have m5 : decide (i < l0.length) = true := decide_eq_true hi
      clear AX0 H HG ed hx hx0 hx1 hl2 hi2 hl3 hi3 hi hls hld
      go_upto_region 8 with (fail)
      have z13 : (wr.alloc (.cells #[.int .i64 0, .int .i64 0, .int .i64 0] 71)).heap[wr.heap.size]? = some (.cells #[.int .i64 0, .int .i64 0, .int .i64 0] 71 (0, 0)) := heap_alloc_new wr _
      have z10 := ((below_alloc (Below.refl _ _) (.cells #[.int .i64 0, .int .i64 0, .int .i64 0] 71)).block b10 (blk_lt Z10.out)).trans Z10.out
      have hb := below_alloc HB.out (.cells #[.int .i64 0, .int .i64 0, .int .i64 0] 71)
      have hne : b10 ≠ wr.heap.size := Nat.ne_of_lt (blk_lt Z10.out)
      have hg13 : w.heap.size ≤ wr.heap.size := HB.out.size
      obtain ⟨b13, hb13⟩ : ∃ z, z = wr.heap.size := ⟨_, rfl⟩
      rw [← hb13] at z13 hne hg13 ⊢
      clear Z10 HB hb13
      have Z13 := Aside0.mk z13
      have Z10 := Aside0.mk z10
      have HB := Aside0.mk hb
      have HNE := Aside0.mk hne
      have HG13 := Aside0.mk hg13
      clear z13 z10 hb hne hg13
      generalize (wr.alloc (.cells #[.int .i64 0, .int .i64 0, .int .i64 0] 71)) = wB at Z13 Z10 HB ⊢
      go_wp2
      go_loopg [12, 14] sl.length (fun kq v12 v14 w' => ∃ (j : Nat) (X1 : (Int × Int × Int) × Bool), v12 = .bool X1.2 ∧ v14 = .int .i64 (j : Int) ∧ Aside0 (j + kq = sl.length) ∧ Aside0 (colophonref20_Winner.sel k l1 (sl.drop j) X1 = some X) ∧ Aside0 (w'.heap[b13]? = some (.cells #[.int .i64 X1.1.1, .int .i64 X1.1.2.1, .int .i64 X1.1.2.2] 71 (0, 0))) ∧ Aside0 (w'.heap[b10]? = some (.cells #[.int .i64 c.b0, .int .i64 c.b1, .int .i64 c.b2] 71 (0, 0))) ∧ Aside0 (Below w.heap.size w w'))
      case atStart => exact ⟨0, ((0, 0, 0), false), rfl, by first | rfl | simp, ⟨by omega⟩, AX, Z13, Z10, HB⟩
      case round =>
        clear AX Z13 Z10 HB
        obtain ⟨j, X1, rfl, rfl, HJ, AS, Z13, Z10, HB⟩ := hrel
        have y0 := pw_cell_below HB.out HX0.out.2
        cases gk with
        | zero =>
          have e : X1 = X := by
            have := AS.out
            rw [List.drop_eq_nil_of_le (by have := HJ.out; omega), colophonref20_Winner.sel] at this
            exact Option.some.inj this
          subst e
          have n1 : decide ((j : Int) < (sl.length : Int)) = false := decide_eq_false (by have := HJ.out; omega)
          have n2 : (j < sl.length) = False := eq_false (by have := HJ.out; omega)
          have n3 : decide (j < sl.length) = false := decide_eq_false (by have := HJ.out; omega)
          have p6 : IntKind.i64.wrap ((i : Int) + 1) = (i : Int) + 1 := by have := HI.out; have := HN.out; rw [IntKind.wrap_i64]; omega
          obtain ⟨⟨x0, x1, x2⟩, xb⟩ := X1
          obtain ⟨cw, cv, d0, d1, d2⟩ := c
          clear AS
          have u0 : wr.cell? ⟨b13, 0, none⟩ = some (.int .i64 x0) := (blk_cell Z13.out 0).trans rfl
          have u1 : wr.cell? ⟨b13, 1, none⟩ = some (.int .i64 x1) := (blk_cell Z13.out 1).trans rfl
          have u2 : wr.cell? ⟨b13, 2, none⟩ = some (.int .i64 x2) := (blk_cell Z13.out 2).trans rfl
          have u3 : wr.cell? ⟨b10, 0, none⟩ = some (.int .i64 d0) := (blk_cell Z10.out 0).trans rfl
          have u4 : wr.cell? ⟨b10, 1, none⟩ = some (.int .i64 d1) := (blk_cell Z10.out 1).trans rfl
          have u5 : wr.cell? ⟨b10, 2, none⟩ = some (.int .i64 d2) := (blk_cell Z10.out 2).trans rfl
          obtain ⟨lt, hlt⟩ : ∃ z, St.ls (x0, x1, x2) (d0, d1, d2) = z := ⟨_, rfl⟩
          have AN : Aside0 (colophonref20_less.f x0 x1 x2 d0 d1 d2 = some lt) := ⟨congrArg some hlt⟩
          have HLT := Aside0.mk hlt
          clear hlt
          go_upto_region 16 with (fail)
          clear n1 n2 n3 y0
          go_cut [69] (fun v69 wc => v69 = .bool (!xb || (cw && lt)) ∧ Aside0 (Below wr.heap.size wr wc))
          case first =>
            cases xb with
            | false =>
              go_wp2
              go_meet
              exact ⟨rfl, ⟨Below.refl _ _⟩⟩
            | true =>
              cases cw with
              | false =>
                go_wp2
                go_meet
                exact ⟨rfl, ⟨Below.refl _ _⟩⟩
              | true =>
                go_wp2_with (first | (go_at_call 37; (with_reducible refine (colophonref20_less.calls x0 x1 x2 d0 d1 d2 _ _ AN.out).mono ?_); rintro e w5 ⟨rfl, hb⟩; have HBB := Aside0.mk hb; clear hb))
                go_meet
                exact ⟨by simp, HBB⟩
          case rest =>
            obtain ⟨rfl, HW⟩ := hcut
            have n13 := Aside0.mk ((HW.out.block b13 (blk_lt Z13.out)).trans Z13.out)
            have n10 := Aside0.mk ((HW.out.block b10 (blk_lt Z10.out)).trans Z10.out)
            have nB := Aside0.mk (below_step HB.out HW.out)
            clear u0 u1 u2 u3 u4 u5 Z13 Z10 HB HW AN
            obtain ⟨gt, hgt⟩ : ∃ z, (!xb || (cw && lt)) = z := ⟨_, rfl⟩
            rw [hgt]
            have hgt2 : (xb = false ∨ (cw = true ∧ St.ls (x0, x1, x2) (d0, d1, d2) = true)) ↔ gt = true := by
              rw [← hgt, HLT.out]
              cases xb <;> cases cw <;> cases lt <;> simp
            cases gt with
            | true =>
              have HH2 : Aside0 (colophonref20_Winner.go k l1 a2 (l0.drop (i + 1)) ⟨cw, cv, d0, d1, d2⟩ = some cR) := ⟨by have := HH.out; rw [if_pos (hgt2.mpr rfl)] at this; exact this⟩
              clear HH hgt hgt2
              go_wp2
              go_roundg q
              case measure => exact Nat.lt_succ_self q
              case rel => exact ⟨i + 1, ⟨cw, cv, d0, d1, d2⟩, rfl, rfl, by go_num, ⟨by have := HK.out; omega⟩, HH2, n10, nB⟩
            | false =>
              obtain ⟨c', hc'⟩ : ∃ z, colophonref20_Winner.decls a2 (x0, x1, x2) dl ⟨cw, cv, d0, d1, d2⟩ = z := ⟨_, rfl⟩
              have HH2 : Aside0 (colophonref20_Winner.go k l1 a2 (l0.drop (i + 1)) c' = some cR) := ⟨by have := HH.out; rw [if_neg (fun z => by have := hgt2.mp z; simp at this), hc'] at this; exact this⟩
              have HD := Aside0.mk (show colophonref20_Winner.decls a2 (x0, x1, x2) (dl.drop 0) ⟨cw, cv, d0, d1, d2⟩ = c' from hc')
              clear HH hgt hgt2 hc'
              go_wp2
              go_loopg [8, 9, 16] dl.length (fun kq v8 v9 v16 w' => ∃ (j : Nat) (c : CS), v8 = .int .i64 c.v ∧ v9 = .bool c.won ∧ v16 = .int .i64 (j : Int) ∧ Aside0 (j + kq = dl.length) ∧ Aside0 (colophonref20_Winner.decls a2 (x0, x1, x2) (dl.drop j) c = c') ∧ Aside0 (w'.heap[b13]? = some (.cells #[.int .i64 x0, .int .i64 x1, .int .i64 x2] 71 (0, 0))) ∧ Aside0 (w'.heap[b10]? = some (.cells #[.int .i64 c.b0, .int .i64 c.b1, .int .i64 c.b2] 71 (0, 0))) ∧ Aside0 (Below w.heap.size w w'))
              case atStart => exact ⟨0, ⟨cw, cv, d0, d1, d2⟩, rfl, rfl, by first | rfl | simp, ⟨by omega⟩, HD, n13, n10, nB⟩
              case round =>
                clear HD n13 n10 nB
                obtain ⟨j, c, rfl, rfl, rfl, HJ, HD, Z13, Z10, HB⟩ := hrel
                have y1 := pw_cell_below HB.out HX1.out.2
                cases gk with
                | zero =>
                  have e : c = c' := by
                    have := HD.out
                    rw [List.drop_eq_nil_of_le (by have := HJ.out; omega), colophonref20_Winner.decls] at this
                    exact this
                  subst e
                  have n1 : decide ((j : Int) < (dl.length : Int)) = false := decide_eq_false (by have := HJ.out; omega)
                  have n2 : (j < dl.length) = False := eq_false (by have := HJ.out; omega)
                  have n3 : decide (j < dl.length) = false := decide_eq_false (by have := HJ.out; omega)
                  clear HD
                  go_wp2
                  go_roundg q
                  case measure => exact Nat.lt_succ_self q
                  case rel => exact ⟨i + 1, c, rfl, rfl, by go_num, ⟨by have := HK.out; omega⟩, HH2, Z10, HB⟩
                | succ u =>
                  have hj : j < dl.length := by have := HJ.out; omega
                  have ed : dl.drop j = rd_T47 dl (j : Int) :: dl.drop (j + 1) := by
                    rw [List.drop_eq_getElem_cons hj]
                    simp [rd_T47, List.getD_eq_getElem?_getD, hj]
                  have H := HD.out
                  rw [ed, colophonref20_Winner.decls] at H
                  obtain ⟨adn, eadn, hd0, hd1⟩ := at_T47 HI3.out (j : Int) (by omega) (by omega)
                  cases eadn
                  rw [Int.toNat_natCast] at hd0 hd1
                  replace hd0 := pw_cell_below HB.out hd0
                  replace hd1 := pw_cell_below HB.out hd1
                  obtain ⟨⟨dp, dv⟩, hd⟩ : ∃ x, rd_T47 dl (j : Int) = x := ⟨_, rfl⟩
                  rw [hd] at hd0 hd1 H
                  dsimp only at hd0 hd1 H
                  have HH3 := Aside0.mk H
                  have p7 : IntKind.i64.wrap ((j : Int) + 1) = (j : Int) + 1 := by have := HLD.out; rw [IntKind.wrap_i64]; omega
                  have n1 : decide ((j : Int) < (dl.length : Int)) = true := decide_eq_true (by omega)
                  have n2 : ((j : Int) < (dl.length : Int)) = True := eq_true (by omega)
                  have n3 : (0 ≤ (j : Int)) = True := eq_true (by omega)
                  have n4 : (j < dl.length) = True := eq_true hj
                  have n5 : decide (j < dl.length) = true := decide_eq_true hj
                  clear H hd ed HD hj
                  obtain ⟨cw, cv, d0, d1, d2⟩ := c
                  by_cases e1 : dp = a2
                  · subst e1
                    have HH4 : Aside0 (colophonref20_Winner.decls dp (x0, x1, x2) (dl.drop (j + 1)) ⟨true, dv, x0, x1, x2⟩ = c') := ⟨by have := HH3.out; rw [if_pos rfl] at this; exact this⟩
                    have u0 : wr.cell? ⟨b13, 0, none⟩ = some (.int .i64 x0) := (blk_cell Z13.out 0).trans rfl
                    have u1 : wr.cell? ⟨b13, 1, none⟩ = some (.int .i64 x1) := (blk_cell Z13.out 1).trans rfl
                    have u2 : wr.cell? ⟨b13, 2, none⟩ = some (.int .i64 x2) := (blk_cell Z13.out 2).trans rfl
                    have u3 : wr.cell? ⟨b10, 0, none⟩ = some (.int .i64 d0) := (blk_cell Z10.out 0).trans rfl
                    have u4 : wr.cell? ⟨b10, 1, none⟩ = some (.int .i64 d1) := (blk_cell Z10.out 1).trans rfl
                    have u5 : wr.cell? ⟨b10, 2, none⟩ = some (.int .i64 d2) := (blk_cell Z10.out 2).trans rfl
                    have f0 := blk_frozen Z10.out 0
                    have f1 := blk_frozen Z10.out 1
                    have f2 := blk_frozen Z10.out 2
                    clear HH3
                    go_wp2
                    go_region
                    all_goals go_wp2
                    all_goals go_roundg u
                    all_goals first | exact Nat.lt_succ_self u | exact ⟨j + 1, ⟨true, dv, x0, x1, x2⟩, rfl, rfl, by go_num, ⟨by have := HJ.out; omega⟩, HH4, ⟨St.drew_heap (blk_far (blk_far (blk_far Z13.out (Ne.symm HNE.out) _) (Ne.symm HNE.out) _) (Ne.symm HNE.out) _)⟩, ⟨St.drew_heap (St.three0 Z10.out)⟩, ⟨below_drew1 (below_set (below_set (below_set HB.out HG10.out) HG10.out) HG10.out)⟩⟩
                  · have e1b : (dp == a2) = false := beq_eq_false_iff_ne.mpr e1
                    have HH4 : Aside0 (colophonref20_Winner.decls a2 (x0, x1, x2) (dl.drop (j + 1)) ⟨cw, cv, d0, d1, d2⟩ = c') := ⟨by have := HH3.out; rw [if_neg e1] at this; exact this⟩
                    clear HH3 e1
                    go_wp2
                    go_roundg u
                    case measure => exact Nat.lt_succ_self u
                    case rel => exact ⟨j + 1, ⟨cw, cv, d0, d1, d2⟩, rfl, rfl, by go_num, ⟨by have := HJ.out; omega⟩, HH4, Z13, Z10, HB⟩
        | succ p =>
          have hj : j < sl.length := by have := HJ.out; omega
          have ed : sl.drop j = rd_T45 sl (j : Int) :: sl.drop (j + 1) := by
            rw [List.drop_eq_getElem_cons hj]
            simp [rd_T45, List.getD_eq_getElem?_getD, hj]
          have H := AS.out
          rw [ed, colophonref20_Winner.sel] at H
          obtain ⟨m, AM0, H⟩ := Option.bind_eq_some_iff.mp H
          obtain ⟨ad4, A4, c4, ead4, hx4, hl4, hi4⟩ := at_T45 HI2.out (j : Int) (by omega) (by omega)
          cases ead4
          rw [Int.toNat_natCast] at hx4
          have HX4 := Aside0.mk hx4
          replace hx4 := pw_cell_below HB.out hx4
          obtain ⟨ps, hps⟩ : ∃ z, (rd_T45 sl (j : Int)).f0 = z := ⟨_, rfl⟩
          rw [hps] at hx4 hl4 hi4 AM0 H HX4
          have AM := Aside0.mk AM0
          have HH3 := Aside0.mk H
          have HL4 := Aside0.mk hl4
          have HI4 := Aside0.mk hi4
          have n1 : decide ((j : Int) < (sl.length : Int)) = true := decide_eq_true (by omega)
          have n2 : ((j : Int) < (sl.length : Int)) = True := eq_true (by omega)
          have n3 : (0 ≤ (j : Int)) = True := eq_true (by omega)
          have n4 : (j < sl.length) = True := eq_true hj
          have n5 : decide (j < sl.length) = true := decide_eq_true hj
          have p7 : IntKind.i64.wrap ((j : Int) + 1) = (j : Int) + 1 := by have := HLS.out; rw [IntKind.wrap_i64]; omega
          clear AM0 H hps hl4 hi4 ed AS hj
          cases m with
          | false =>
            have HH4 : Aside0 (colophonref20_Winner.sel k l1 (sl.drop (j + 1)) X1 = some X) := ⟨HH3.out⟩
            clear HH3
            go_wp2_with (first | (go_at_call 21; (with_reducible refine (colophonref19_Match.calls k A4 c4 ps A1 c1 l1 false _ (Kd.C_below HI4.out HB.out) HL4.out (Kd.C_below HR1.out HB.out) HC1.out AM.out).mono ?_); rintro e w5 ⟨rfl, hb⟩; have n3_ := Aside0.mk ((hb.block b13 (blk_lt Z13.out)).trans Z13.out); have n1_ := Aside0.mk ((hb.block b10 (blk_lt Z10.out)).trans Z10.out); have nB_ := Aside0.mk (below_step HB.out hb); clear Z13 Z10 HB; have Z13 := n3_; have Z10 := n1_; have HB := nB_; clear n3_ n1_ nB_; clear hb y0 hx4; have y0 := pw_cell_below HB.out HX0.out.2; have hx4 := pw_cell_below HB.out HX4.out))
            go_roundg p
            case measure => exact Nat.lt_succ_self p
            case rel => exact ⟨j + 1, X1, rfl, by go_num, ⟨by have := HJ.out; omega⟩, HH4, Z13, Z10, HB⟩
          | true =>
            obtain ⟨⟨v0, v1, v2⟩, hw⟩ : ∃ z, wgt ps (0, 0, 0) = z := ⟨_, rfl⟩
            have AV : Aside0 (colophonref19_Weight.f ps = some (v0, v1, v2)) := ⟨congrArg some hw⟩
            have HH4 : Aside0 (colophonref20_Winner.sel k l1 (sl.drop (j + 1)) (if X1.2 = false ∨ St.ls X1.1 (v0, v1, v2) = true then (v0, v1, v2) else X1.1, true) = some X) := ⟨by have := HH3.out; rw [if_neg (by decide), hw] at this; exact this⟩
            clear HH3 hw
            obtain ⟨⟨x0, x1, x2⟩, xb⟩ := X1
            cases xb with
            | false =>
              have HH5 : Aside0 (colophonref20_Winner.sel k l1 (sl.drop (j + 1)) ((v0, v1, v2), true) = some X) := ⟨by have := HH4.out; rw [if_pos (.inl rfl)] at this; exact this⟩
              clear HH4
              go_wp2_with (first | (go_at_call 21; (with_reducible refine (colophonref19_Match.calls k A4 c4 ps A1 c1 l1 true _ (Kd.C_below HI4.out HB.out) HL4.out (Kd.C_below HR1.out HB.out) HC1.out AM.out).mono ?_); rintro e w5 ⟨rfl, hb⟩; have n3_ := Aside0.mk ((hb.block b13 (blk_lt Z13.out)).trans Z13.out); have n1_ := Aside0.mk ((hb.block b10 (blk_lt Z10.out)).trans Z10.out); have nB_ := Aside0.mk (below_step HB.out hb); clear Z13 Z10 HB; have Z13 := n3_; have Z10 := n1_; have HB := nB_; clear n3_ n1_ nB_; clear hb y0 hx4; have y0 := pw_cell_below HB.out HX0.out.2; have hx4 := pw_cell_below HB.out HX4.out) | (go_at_call 36; (with_reducible refine (colophonref19_Weight.calls A4 c4 ps v0 v1 v2 _ (Kd.C_below HI4.out HB.out) HL4.out AV.out).mono ?_); rintro e w6 ⟨rfl, hb⟩; have n3_ := Aside0.mk ((hb.block b13 (blk_lt Z13.out)).trans Z13.out); have n1_ := Aside0.mk ((hb.block b10 (blk_lt Z10.out)).trans Z10.out); have nB_ := Aside0.mk (below_step HB.out hb); clear Z13 Z10 HB; have Z13 := n3_; have Z10 := n1_; have HB := nB_; clear n3_ n1_ nB_; clear hb y0 hx4; have za : (w6.alloc (.cells #[.int .i64 v0, .int .i64 v1, .int .i64 v2] 71)).heap[b13]? = some (.cells #[.int .i64 x0, .int .i64 x1, .int .i64 x2] 71 (0, 0)) := ((below_alloc (Below.refl _ _) _).block b13 (blk_lt Z13.out)).trans Z13.out; have q0 : (w6.alloc (.cells #[.int .i64 v0, .int .i64 v1, .int .i64 v2] 71)).cell? ⟨b13, 0, none⟩ = some (.int .i64 x0) := (blk_cell za 0).trans rfl; have q1 : (w6.alloc (.cells #[.int .i64 v0, .int .i64 v1, .int .i64 v2] 71)).cell? ⟨b13, 1, none⟩ = some (.int .i64 x1) := (blk_cell za 1).trans rfl; have q2 : (w6.alloc (.cells #[.int .i64 v0, .int .i64 v1, .int .i64 v2] 71)).cell? ⟨b13, 2, none⟩ = some (.int .i64 x2) := (blk_cell za 2).trans rfl; have f0 := blk_frozen za 0; have f1 := blk_frozen za 1; have f2 := blk_frozen za 2; clear za))
              go_roundg p
              case measure => exact Nat.lt_succ_self p
              case rel => exact ⟨j + 1, ((v0, v1, v2), true), rfl, by go_num, ⟨by have := HJ.out; omega⟩, HH5, ⟨St.three0 (((below_alloc (Below.refl _ _) _).block b13 (blk_lt Z13.out)).trans Z13.out)⟩, ⟨blk_far (blk_far (blk_far (((below_alloc (Below.refl _ _) _).block b10 (blk_lt Z10.out)).trans Z10.out) HNE.out _) HNE.out _) HNE.out _⟩, ⟨below_set (below_set (below_set (below_alloc HB.out _) HG13.out) HG13.out) HG13.out⟩⟩
            | true =>
              obtain ⟨n_, hn_⟩ : ∃ n_, St.ls (x0, x1, x2) (v0, v1, v2) = n_ := ⟨_, rfl⟩
              have AN : Aside0 (colophonref20_less.f x0 x1 x2 v0 v1 v2 = some n_) := ⟨congrArg some hn_⟩
              cases n_ with
              | true =>
                have HH5 : Aside0 (colophonref20_Winner.sel k l1 (sl.drop (j + 1)) ((v0, v1, v2), true) = some X) := ⟨by have := HH4.out; rw [if_pos (.inr hn_)] at this; exact this⟩
                clear HH4 hn_
                go_wp2_with (first | (go_at_call 21; (with_reducible refine (colophonref19_Match.calls k A4 c4 ps A1 c1 l1 true _ (Kd.C_below HI4.out HB.out) HL4.out (Kd.C_below HR1.out HB.out) HC1.out AM.out).mono ?_); rintro e w5 ⟨rfl, hb⟩; have n3_ := Aside0.mk ((hb.block b13 (blk_lt Z13.out)).trans Z13.out); have n1_ := Aside0.mk ((hb.block b10 (blk_lt Z10.out)).trans Z10.out); have nB_ := Aside0.mk (below_step HB.out hb); clear Z13 Z10 HB; have Z13 := n3_; have Z10 := n1_; have HB := nB_; clear n3_ n1_ nB_; clear hb y0 hx4; have y0 := pw_cell_below HB.out HX0.out.2; have hx4 := pw_cell_below HB.out HX4.out) | (go_at_call 36; (with_reducible refine (colophonref19_Weight.calls A4 c4 ps v0 v1 v2 _ (Kd.C_below HI4.out HB.out) HL4.out AV.out).mono ?_); rintro e w6 ⟨rfl, hb⟩; have n3_ := Aside0.mk ((hb.block b13 (blk_lt Z13.out)).trans Z13.out); have n1_ := Aside0.mk ((hb.block b10 (blk_lt Z10.out)).trans Z10.out); have nB_ := Aside0.mk (below_step HB.out hb); clear Z13 Z10 HB; have Z13 := n3_; have Z10 := n1_; have HB := nB_; clear n3_ n1_ nB_; clear hb y0 hx4; have za : (w6.alloc (.cells #[.int .i64 v0, .int .i64 v1, .int .i64 v2] 71)).heap[b13]? = some (.cells #[.int .i64 x0, .int .i64 x1, .int .i64 x2] 71 (0, 0)) := ((below_alloc (Below.refl _ _) _).block b13 (blk_lt Z13.out)).trans Z13.out; have q0 : (w6.alloc (.cells #[.int .i64 v0, .int .i64 v1, .int .i64 v2] 71)).cell? ⟨b13, 0, none⟩ = some (.int .i64 x0) := (blk_cell za 0).trans rfl; have q1 : (w6.alloc (.cells #[.int .i64 v0, .int .i64 v1, .int .i64 v2] 71)).cell? ⟨b13, 1, none⟩ = some (.int .i64 x1) := (blk_cell za 1).trans rfl; have q2 : (w6.alloc (.cells #[.int .i64 v0, .int .i64 v1, .int .i64 v2] 71)).cell? ⟨b13, 2, none⟩ = some (.int .i64 x2) := (blk_cell za 2).trans rfl; have f0 := blk_frozen za 0; have f1 := blk_frozen za 1; have f2 := blk_frozen za 2; clear za) | (go_at_call 37; (with_reducible refine (colophonref20_less.calls x0 x1 x2 v0 v1 v2 _ _ AN.out).mono ?_); rintro e w7 ⟨rfl, hb0⟩; have hb := below_step (below_alloc (Below.refl w6.heap.size w6) _) hb0; have zc := (hb0.block w6.heap.size (by simp)).trans (heap_alloc_new w6 (.cells #[.int .i64 v0, .int .i64 v1, .int .i64 v2] 71)); have zc0 : w7.cell? ⟨w6.heap.size, 0, none⟩ = some (.int .i64 v0) := (blk_cell zc 0).trans rfl; have zc1 : w7.cell? ⟨w6.heap.size, 1, none⟩ = some (.int .i64 v1) := (blk_cell zc 1).trans rfl; have zc2 : w7.cell? ⟨w6.heap.size, 2, none⟩ = some (.int .i64 v2) := (blk_cell zc 2).trans rfl; clear zc q0 q1 q2 f0 f1 f2; have n3_ := Aside0.mk ((hb.block b13 (blk_lt Z13.out)).trans Z13.out); have n1_ := Aside0.mk ((hb.block b10 (blk_lt Z10.out)).trans Z10.out); have nB_ := Aside0.mk (below_step HB.out hb); clear Z13 Z10 HB; have Z13 := n3_; have Z10 := n1_; have HB := nB_; clear n3_ n1_ nB_; clear hb hb0; have q0 : w7.cell? ⟨b13, 0, none⟩ = some (.int .i64 x0) := (blk_cell Z13.out 0).trans rfl; have q1 : w7.cell? ⟨b13, 1, none⟩ = some (.int .i64 x1) := (blk_cell Z13.out 1).trans rfl; have q2 : w7.cell? ⟨b13, 2, none⟩ = some (.int .i64 x2) := (blk_cell Z13.out 2).trans rfl; have f0 := blk_frozen Z13.out 0; have f1 := blk_frozen Z13.out 1; have f2 := blk_frozen Z13.out 2))
                go_roundg p
                case measure => exact Nat.lt_succ_self p
                case rel => exact ⟨j + 1, ((v0, v1, v2), true), rfl, by go_num, ⟨by have := HJ.out; omega⟩, HH5, ⟨St.three0 Z13.out⟩, ⟨blk_far (blk_far (blk_far Z10.out HNE.out _) HNE.out _) HNE.out _⟩, ⟨below_set (below_set (below_set HB.out HG13.out) HG13.out) HG13.out⟩⟩
              | false =>
                have HH5 : Aside0 (colophonref20_Winner.sel k l1 (sl.drop (j + 1)) ((x0, x1, x2), true) = some X) := ⟨by have := HH4.out; rw [if_neg (fun z => z.elim (fun y => by simp at y) (fun y => by rw [hn_] at y; simp at y))] at this; exact this⟩
                clear HH4 hn_
                go_wp2_with (first | (go_at_call 21; (with_reducible refine (colophonref19_Match.calls k A4 c4 ps A1 c1 l1 true _ (Kd.C_below HI4.out HB.out) HL4.out (Kd.C_below HR1.out HB.out) HC1.out AM.out).mono ?_); rintro e w5 ⟨rfl, hb⟩; have n3_ := Aside0.mk ((hb.block b13 (blk_lt Z13.out)).trans Z13.out); have n1_ := Aside0.mk ((hb.block b10 (blk_lt Z10.out)).trans Z10.out); have nB_ := Aside0.mk (below_step HB.out hb); clear Z13 Z10 HB; have Z13 := n3_; have Z10 := n1_; have HB := nB_; clear n3_ n1_ nB_; clear hb y0 hx4; have y0 := pw_cell_below HB.out HX0.out.2; have hx4 := pw_cell_below HB.out HX4.out) | (go_at_call 36; (with_reducible refine (colophonref19_Weight.calls A4 c4 ps v0 v1 v2 _ (Kd.C_below HI4.out HB.out) HL4.out AV.out).mono ?_); rintro e w6 ⟨rfl, hb⟩; have n3_ := Aside0.mk ((hb.block b13 (blk_lt Z13.out)).trans Z13.out); have n1_ := Aside0.mk ((hb.block b10 (blk_lt Z10.out)).trans Z10.out); have nB_ := Aside0.mk (below_step HB.out hb); clear Z13 Z10 HB; have Z13 := n3_; have Z10 := n1_; have HB := nB_; clear n3_ n1_ nB_; clear hb y0 hx4; have za : (w6.alloc (.cells #[.int .i64 v0, .int .i64 v1, .int .i64 v2] 71)).heap[b13]? = some (.cells #[.int .i64 x0, .int .i64 x1, .int .i64 x2] 71 (0, 0)) := ((below_alloc (Below.refl _ _) _).block b13 (blk_lt Z13.out)).trans Z13.out; have q0 : (w6.alloc (.cells #[.int .i64 v0, .int .i64 v1, .int .i64 v2] 71)).cell? ⟨b13, 0, none⟩ = some (.int .i64 x0) := (blk_cell za 0).trans rfl; have q1 : (w6.alloc (.cells #[.int .i64 v0, .int .i64 v1, .int .i64 v2] 71)).cell? ⟨b13, 1, none⟩ = some (.int .i64 x1) := (blk_cell za 1).trans rfl; have q2 : (w6.alloc (.cells #[.int .i64 v0, .int .i64 v1, .int .i64 v2] 71)).cell? ⟨b13, 2, none⟩ = some (.int .i64 x2) := (blk_cell za 2).trans rfl; have f0 := blk_frozen za 0; have f1 := blk_frozen za 1; have f2 := blk_frozen za 2; clear za) | (go_at_call 37; (with_reducible refine (colophonref20_less.calls x0 x1 x2 v0 v1 v2 _ _ AN.out).mono ?_); rintro e w7 ⟨rfl, hb0⟩; have hb := below_step (below_alloc (Below.refl w6.heap.size w6) _) hb0; have zc := (hb0.block w6.heap.size (by simp)).trans (heap_alloc_new w6 (.cells #[.int .i64 v0, .int .i64 v1, .int .i64 v2] 71)); have zc0 : w7.cell? ⟨w6.heap.size, 0, none⟩ = some (.int .i64 v0) := (blk_cell zc 0).trans rfl; have zc1 : w7.cell? ⟨w6.heap.size, 1, none⟩ = some (.int .i64 v1) := (blk_cell zc 1).trans rfl; have zc2 : w7.cell? ⟨w6.heap.size, 2, none⟩ = some (.int .i64 v2) := (blk_cell zc 2).trans rfl; clear zc q0 q1 q2 f0 f1 f2; have n3_ := Aside0.mk ((hb.block b13 (blk_lt Z13.out)).trans Z13.out); have n1_ := Aside0.mk ((hb.block b10 (blk_lt Z10.out)).trans Z10.out); have nB_ := Aside0.mk (below_step HB.out hb); clear Z13 Z10 HB; have Z13 := n3_; have Z10 := n1_; have HB := nB_; clear n3_ n1_ nB_; clear hb hb0; have q0 : w7.cell? ⟨b13, 0, none⟩ = some (.int .i64 x0) := (blk_cell Z13.out 0).trans rfl; have q1 : w7.cell? ⟨b13, 1, none⟩ = some (.int .i64 x1) := (blk_cell Z13.out 1).trans rfl; have q2 : w7.cell? ⟨b13, 2, none⟩ = some (.int .i64 x2) := (blk_cell Z13.out 2).trans rfl; have f0 := blk_frozen Z13.out 0; have f1 := blk_frozen Z13.out 1; have f2 := blk_frozen Z13.out 2))
                go_roundg p
                case measure => exact Nat.lt_succ_self p
                case rel => exact ⟨j + 1, ((x0, x1, x2), true), rfl, by go_num, ⟨by have := HJ.out; omega⟩, HH5, Z13, Z10, HB⟩

/-! ### colophonref20_First: function 19 -/
def colophonref20_First.f  : Option (Int × Int × Int × Int × Int × Int × Int × Int × Int) := some (0, 655360, 786432, 0, 0, 0, 0, 0, 1)
set_option maxHeartbeats 8000000 in
set_option maxRecDepth 100000 in
theorem colophonref20_First.calls  (r1 : Int) (r2 : Int) (r3 : Int) (r4 : Int) (r5 : Int) (r6 : Int) (r7 : Int) (r8 : Int) (r9 : Int) (w : World) (h : colophonref20_First.f  = some (r1, r2, r3, r4, r5, r6, r7, r8, r9)) :
    Calls Try.prog 19 #[] w fun e w' => e = .returned (.agg #[.int .i64 r1, .int .i64 r2, .int .i64 r3, .int .i64 r4, .int .i64 r5, .int .i64 r6, .int .i64 r7, .int .i64 r8, .int .i64 r9]) ∧ Below w.heap.size w w' := by
  have hu33 := Try.underlying33
  have HB := Aside0.mk (Below.refl w.heap.size w)
  have H : (some (0, 655360, 786432, 0, 0, 0, 0, 0, 1)) = some (r1, r2, r3, r4, r5, r6, r7, r8, r9) := h
  clear h
  simp only [Option.some.injEq, Prod.mk.injEq] at H
  obtain ⟨rfl, rfl, rfl, rfl, rfl, rfl, rfl, rfl, rfl⟩ := H
  go_enter Try.func19, Try.ntmps19
  go_wp2_with (first | ((with_reducible refine gate_dst (N := 0) rfl ?_); refine box_event ?hg (N := 0) ?hd (cs := #[.int .i64 0, .int .i64 0, .int .i64 0, .int .i64 0, .int .i64 0, .int .i64 0, .int .i64 0, .int .i64 0, .int .i64 0]) (t := 33) ?hr ?_; (case hd => rfl); (case hg => rfl); (case hr => first | (go_simp; done) | (go_simp; rfl)); intro gb250 hg w1 hbox hb; have n0_ := Aside0.mk (below_step (by repeat (first | (with_reducible first | exact HB.out | apply below_alloc | apply pw_below_drewN | apply below_drew1) | exact HB.out)) hb); have n1_ := Aside0.mk (hbox); have n2_ := Aside0.mk ((by rw [hg]; exact (below_size (by repeat (first | (with_reducible first | exact HB.out | apply below_alloc | apply pw_below_drewN | apply below_drew1) | exact HB.out))) : w.heap.size ≤ gb250)); have n3_ := Aside0.mk ((by rw [hg]; exact (below_size (by repeat (first | (with_reducible first | exact HB.out | apply below_alloc | apply pw_below_drewN | apply below_drew1) | exact HB.out))) : w.heap.size ≤ gb250)); clear HB; have HB := n0_; have BK250 := n1_; have GW250 := n2_; have GE250 := n3_; clear n0_ n1_ n2_ n3_; clear hb hbox hg; have hcz2_0 : w1.cell? ⟨gb250, 0, none⟩ = some (.int .i64 0) := (blk_cell BK250.out 0).trans rfl; have hcz2_1 : w1.cell? ⟨gb250, 1, none⟩ = some (.int .i64 0) := (blk_cell BK250.out 1).trans rfl; have hcz2_2 : w1.cell? ⟨gb250, 2, none⟩ = some (.int .i64 0) := (blk_cell BK250.out 2).trans rfl; have hcz2_3 : w1.cell? ⟨gb250, 3, none⟩ = some (.int .i64 0) := (blk_cell BK250.out 3).trans rfl; have hcz2_4 : w1.cell? ⟨gb250, 4, none⟩ = some (.int .i64 0) := (blk_cell BK250.out 4).trans rfl; have hcz2_5 : w1.cell? ⟨gb250, 5, none⟩ = some (.int .i64 0) := (blk_cell BK250.out 5).trans rfl; have hcz2_6 : w1.cell? ⟨gb250, 6, none⟩ = some (.int .i64 0) := (blk_cell BK250.out 6).trans rfl; have hcz2_7 : w1.cell? ⟨gb250, 7, none⟩ = some (.int .i64 0) := (blk_cell BK250.out 7).trans rfl; have hcz2_8 : w1.cell? ⟨gb250, 8, none⟩ = some (.int .i64 0) := (blk_cell BK250.out 8).trans rfl; have hfz2_0 := blk_frozen BK250.out 0; have hfz2_1 := blk_frozen BK250.out 1; have hfz2_2 := blk_frozen BK250.out 2; have hfz2_3 := blk_frozen BK250.out 3; have hfz2_4 := blk_frozen BK250.out 4; have hfz2_5 := blk_frozen BK250.out 5; have hfz2_6 := blk_frozen BK250.out 6; have hfz2_7 := blk_frozen BK250.out 7; have hfz2_8 := blk_frozen BK250.out 8))
  refine bodyPost_ret (results_cell_row rfl _ _ gb250 33 #[.int .i64 0, .int .i64 655360, .int .i64 786432, .int .i64 0, .int .i64 0, .int .i64 0, .int .i64 0, .int .i64 0, .int .i64 1] (0, 0) _ rfl (by (with_reducible repeat (first | refine blk_drewN ?_ _ | refine blk_drew ?_ | refine blk_alloc ?_ _)); refine blk_put (cs := #[.int .i64 0, .int .i64 655360, .int .i64 786432, .int .i64 0, .int .i64 0, .int .i64 0, .int .i64 0, .int .i64 0, .int .i64 0]) ?_ 8 _ rfl; (with_reducible repeat (first | refine blk_drewN ?_ _ | refine blk_drew ?_ | refine blk_alloc ?_ _)); refine blk_put (cs := #[.int .i64 0, .int .i64 655360, .int .i64 786432, .int .i64 0, .int .i64 0, .int .i64 0, .int .i64 0, .int .i64 0, .int .i64 0]) ?_ 7 _ rfl; (with_reducible repeat (first | refine blk_drewN ?_ _ | refine blk_drew ?_ | refine blk_alloc ?_ _)); refine blk_put (cs := #[.int .i64 0, .int .i64 655360, .int .i64 786432, .int .i64 0, .int .i64 0, .int .i64 0, .int .i64 0, .int .i64 0, .int .i64 0]) ?_ 6 _ rfl; (with_reducible repeat (first | refine blk_drewN ?_ _ | refine blk_drew ?_ | refine blk_alloc ?_ _)); refine blk_put (cs := #[.int .i64 0, .int .i64 655360, .int .i64 786432, .int .i64 0, .int .i64 0, .int .i64 0, .int .i64 0, .int .i64 0, .int .i64 0]) ?_ 5 _ rfl; (with_reducible repeat (first | refine blk_drewN ?_ _ | refine blk_drew ?_ | refine blk_alloc ?_ _)); refine blk_put (cs := #[.int .i64 0, .int .i64 655360, .int .i64 786432, .int .i64 0, .int .i64 0, .int .i64 0, .int .i64 0, .int .i64 0, .int .i64 0]) ?_ 4 _ rfl; (with_reducible repeat (first | refine blk_drewN ?_ _ | refine blk_drew ?_ | refine blk_alloc ?_ _)); refine blk_put (cs := #[.int .i64 0, .int .i64 655360, .int .i64 786432, .int .i64 0, .int .i64 0, .int .i64 0, .int .i64 0, .int .i64 0, .int .i64 0]) ?_ 3 _ rfl; (with_reducible repeat (first | refine blk_drewN ?_ _ | refine blk_drew ?_ | refine blk_alloc ?_ _)); refine blk_put (cs := #[.int .i64 0, .int .i64 655360, .int .i64 0, .int .i64 0, .int .i64 0, .int .i64 0, .int .i64 0, .int .i64 0, .int .i64 0]) ?_ 2 _ rfl; (with_reducible repeat (first | refine blk_drewN ?_ _ | refine blk_drew ?_ | refine blk_alloc ?_ _)); refine blk_put (cs := #[.int .i64 0, .int .i64 0, .int .i64 0, .int .i64 0, .int .i64 0, .int .i64 0, .int .i64 0, .int .i64 0, .int .i64 0]) ?_ 1 _ rfl; (with_reducible repeat (first | refine blk_drewN ?_ _ | refine blk_drew ?_ | refine blk_alloc ?_ _)); refine blk_put (cs := #[.int .i64 0, .int .i64 0, .int .i64 0, .int .i64 0, .int .i64 0, .int .i64 0, .int .i64 0, .int .i64 0, .int .i64 0]) ?_ 0 _ rfl; (with_reducible repeat (first | refine blk_drewN ?_ _ | refine blk_drew ?_ | refine blk_alloc ?_ _)); exact BK250.out) Try.underlying33 rfl (by kernel_rfl)) rfl ?_
  exact ⟨by first | rfl | (simp [errW_none, errW_some] <;> rfl) | (simp [*, errW_none, errW_some] <;> rfl), by repeat (first | (with_reducible first | exact HB.out | apply below_alloc | apply pw_below_drewN | apply below_drew1 | refine below_set ?_ GE250.out) | exact HB.out)⟩

/-! ### colophonref20_inherited: function 40 -/
def colophonref20_inherited.f (a0 : Int) : Option (Bool) := if a0 ≤ 4 then (some true) else (some (a0 == 8))
set_option maxHeartbeats 8000000 in
set_option maxRecDepth 100000 in
theorem colophonref20_inherited.calls (a0 : Int) (r : Bool) (w : World) (h : colophonref20_inherited.f a0 = some r) :
    Calls Try.prog 40 #[.int .i64 a0] w fun e w' => e = .returned (.bool r) ∧ Drawn0 w w' := by
  have H : (if a0 ≤ 4 then (some true) else (some (a0 == 8))) = some r := h
  clear h
  by_cases c2 : a0 ≤ 4
  · rw [if_pos c2] at H
    have c2b0 : decide (a0 ≤ 4) = true := decide_eq_true c2
    clear c2
    obtain rfl := Option.some.inj H
    go_enter Try.func40, Try.ntmps40
    go_wp2
    go_ret
    exact ⟨by first | rfl | (simp; done) | (simp [*]; done), by repeat (first | exact Drawn0.refl _ | apply Drawn0.step)⟩
  · rw [if_neg c2] at H
    have c2b0 : decide (a0 ≤ 4) = false := decide_eq_false c2
    clear c2
    obtain rfl := Option.some.inj H
    go_enter Try.func40, Try.ntmps40
    go_wp2
    go_ret
    exact ⟨by first | rfl | (simp; done) | (simp [*]; done), by repeat (first | exact Drawn0.refl _ | apply Drawn0.step)⟩

/-! ### colophonref20_Of: function 17 -/
def colophonref20_Of.loop (k : Nat) (l : List S41) (path : List S56) (P : List Int) : Nat → Nat → List Int → Option (List Int)
  | 0, _, S => some S
  | c + 1, p, S => (colophonref20_Winner.f k l path (p : Int)).bind fun v => colophonref20_Of.loop k l path P c (p + 1) (if v.2 = true then S.set p v.1 else if St.rinh p = true then S.set p (P.getD p 0) else S)
def colophonref20_Of.f (k : Nat) (l : List S41) (path : List S56) (a2_0 a2_1 a2_2 a2_3 a2_4 a2_5 a2_6 a2_7 a2_8 : Int) : Option (Int × Int × Int × Int × Int × Int × Int × Int × Int) := (colophonref20_Of.loop k l path [a2_0, a2_1, a2_2, a2_3, a2_4, a2_5, a2_6, a2_7, a2_8] 9 0 [0, 655360, 786432, 0, 0, 0, 0, 0, 1]).bind St.tup9
theorem colophonref20_Of.loop_mono (k : Nat) (l : List S41) (path : List S56) (P : List Int) : ∀ (c p : Nat) (S : List Int), LeO (colophonref20_Of.loop k l path P c p S) (colophonref20_Of.loop (k + 1) l path P c p S)
  | 0, p, S => LeO.refl _
  | c + 1, p, S => by
    rw [colophonref20_Of.loop, colophonref20_Of.loop]
    exact LeO.bind (colophonref20_Winner.mono _ _ _ _) (fun v => colophonref20_Of.loop_mono k l path P c (p + 1) _)
theorem colophonref20_Of.mono : ∀ a0 a1 a2_0 a2_1 a2_2 a2_3 a2_4 a2_5 a2_6 a2_7 a2_8 k, LeO (colophonref20_Of.f k a0 a1 a2_0 a2_1 a2_2 a2_3 a2_4 a2_5 a2_6 a2_7 a2_8) (colophonref20_Of.f (k + 1) a0 a1 a2_0 a2_1 a2_2 a2_3 a2_4 a2_5 a2_6 a2_7 a2_8) := by
  intro a0 a1 a2_0 a2_1 a2_2 a2_3 a2_4 a2_5 a2_6 a2_7 a2_8 k
  unfold colophonref20_Of.f
  exact LeO.bind (colophonref20_Of.loop_mono k a0 a1 _ _ _ _) (fun _ => LeO.refl _)
theorem colophonref20_Of.inh_f : ∀ p : Nat, p < 9 → colophonref20_inherited.f (p : Int) = some (St.rinh p)
  | 0, _ => rfl
  | 1, _ => rfl
  | 2, _ => rfl
  | 3, _ => rfl
  | 4, _ => rfl
  | 5, _ => rfl
  | 6, _ => rfl
  | 7, _ => rfl
  | 8, _ => rfl
  | n + 9, h => by omega
set_option maxHeartbeats 8000000 in
set_option maxRecDepth 100000 in
theorem colophonref20_Of.calls (k : Nat) (A0 : Option Addr) (c0 : Nat) (l0 : List (S41)) (A1 : Option Addr) (c1 : Nat) (l1 : List (S56)) (a2_0 a2_1 a2_2 a2_3 a2_4 a2_5 a2_6 a2_7 a2_8 : Int) (r1 r2 r3 r4 r5 r6 r7 r8 r9 : Int) (w : World) (hr0 : Kd.C k41 w A0 l0.length l0) (hc0 : l0.length ≤ c0) (hr1 : Kd.C k56 w A1 l1.length l1) (hc1 : l1.length ≤ c1) (h : colophonref20_Of.f k l0 l1 a2_0 a2_1 a2_2 a2_3 a2_4 a2_5 a2_6 a2_7 a2_8 = some (r1, r2, r3, r4, r5, r6, r7, r8, r9)) :
    Calls Try.prog 17 #[.slice A0 l0.length c0, .slice A1 l1.length c1, .agg #[.int .i64 a2_0, .int .i64 a2_1, .int .i64 a2_2, .int .i64 a2_3, .int .i64 a2_4, .int .i64 a2_5, .int .i64 a2_6, .int .i64 a2_7, .int .i64 a2_8]] w fun e w' => e = .returned (.agg #[.int .i64 r1, .int .i64 r2, .int .i64 r3, .int .i64 r4, .int .i64 r5, .int .i64 r6, .int .i64 r7, .int .i64 r8, .int .i64 r9]) ∧ Below w.heap.size w w' := by
  have HR0 := Aside0.mk hr0
  have HC0 := Aside0.mk hc0
  have HR1 := Aside0.mk hr1
  have HC1 := Aside0.mk hc1
  clear hr0 hc0 hr1 hc1
  unfold colophonref20_Of.f at h
  obtain ⟨S9, AL0, H⟩ := Option.bind_eq_some_iff.mp h
  have HF0 := Aside0.mk (show colophonref20_Of.loop k l0 l1 [a2_0, a2_1, a2_2, a2_3, a2_4, a2_5, a2_6, a2_7, a2_8] 9 0 [0, 655360, 786432, 0, 0, 0, 0, 0, 1] = some [r1, r2, r3, r4, r5, r6, r7, r8, r9] by rw [AL0, St.tup9_some H])
  clear h AL0 H
  have z5 : ((w.alloc (.cells #[.int .i64 a2_0, .int .i64 a2_1, .int .i64 a2_2, .int .i64 a2_3, .int .i64 a2_4, .int .i64 a2_5, .int .i64 a2_6, .int .i64 a2_7, .int .i64 a2_8] 33)).alloc (.cells #[.int .i64 0, .int .i64 0, .int .i64 0, .int .i64 0, .int .i64 0, .int .i64 0, .int .i64 0, .int .i64 0, .int .i64 0] 33)).heap[w.heap.size]? = some (.cells #[.int .i64 a2_0, .int .i64 a2_1, .int .i64 a2_2, .int .i64 a2_3, .int .i64 a2_4, .int .i64 a2_5, .int .i64 a2_6, .int .i64 a2_7, .int .i64 a2_8] 33 (0, 0)) := ((below_alloc (Below.refl _ _) _).block w.heap.size (by simp)).trans (heap_alloc_new w _)
  have z6 : ((w.alloc (.cells #[.int .i64 a2_0, .int .i64 a2_1, .int .i64 a2_2, .int .i64 a2_3, .int .i64 a2_4, .int .i64 a2_5, .int .i64 a2_6, .int .i64 a2_7, .int .i64 a2_8] 33)).alloc (.cells #[.int .i64 0, .int .i64 0, .int .i64 0, .int .i64 0, .int .i64 0, .int .i64 0, .int .i64 0, .int .i64 0, .int .i64 0] 33)).heap[w.heap.size + 1]? = some (.cells #[.int .i64 0, .int .i64 0, .int .i64 0, .int .i64 0, .int .i64 0, .int .i64 0, .int .i64 0, .int .i64 0, .int .i64 0] 33 (0, 0)) := by
    have := heap_alloc_new (w.alloc (.cells #[.int .i64 a2_0, .int .i64 a2_1, .int .i64 a2_2, .int .i64 a2_3, .int .i64 a2_4, .int .i64 a2_5, .int .i64 a2_6, .int .i64 a2_7, .int .i64 a2_8] 33)) (.cells #[.int .i64 0, .int .i64 0, .int .i64 0, .int .i64 0, .int .i64 0, .int .i64 0, .int .i64 0, .int .i64 0, .int .i64 0] 33)
    rw [show (w.alloc (.cells #[.int .i64 a2_0, .int .i64 a2_1, .int .i64 a2_2, .int .i64 a2_3, .int .i64 a2_4, .int .i64 a2_5, .int .i64 a2_6, .int .i64 a2_7, .int .i64 a2_8] 33)).heap.size = w.heap.size + 1 by simp] at this
    exact this
  have Z5 := Aside0.mk z5
  have Z6 := Aside0.mk z6
  have HB := Aside0.mk (below_alloc (below_alloc (Below.refl w.heap.size w) (.cells #[.int .i64 a2_0, .int .i64 a2_1, .int .i64 a2_2, .int .i64 a2_3, .int .i64 a2_4, .int .i64 a2_5, .int .i64 a2_6, .int .i64 a2_7, .int .i64 a2_8] 33)) (.cells #[.int .i64 0, .int .i64 0, .int .i64 0, .int .i64 0, .int .i64 0, .int .i64 0, .int .i64 0, .int .i64 0, .int .i64 0] 33))
  clear z5 z6
  go_enter Try.func17, Try.ntmps17
  go_upto_region 1 with (fail)
  obtain ⟨b5, hb5⟩ : ∃ z, z = w.heap.size := ⟨_, rfl⟩
  obtain ⟨b6, hb6⟩ : ∃ z, z = w.heap.size + 1 := ⟨_, rfl⟩
  have HG5 : Aside0 (w.heap.size ≤ b5) := ⟨by omega⟩
  have HG6 : Aside0 (w.heap.size ≤ b6) := ⟨by omega⟩
  rw [← hb5] at Z5
  rw [← hb6] at Z6
  rw [← hb6, ← hb5]
  clear hb5 hb6
  generalize ((w.alloc (.cells #[.int .i64 a2_0, .int .i64 a2_1, .int .i64 a2_2, .int .i64 a2_3, .int .i64 a2_4, .int .i64 a2_5, .int .i64 a2_6, .int .i64 a2_7, .int .i64 a2_8] 33)).alloc (.cells #[.int .i64 0, .int .i64 0, .int .i64 0, .int .i64 0, .int .i64 0, .int .i64 0, .int .i64 0, .int .i64 0, .int .i64 0] 33)) = w1 at Z5 Z6 HB ⊢
  go_upto_region 2 with (first | (go_at_call 19; (with_reducible refine (colophonref20_First.calls 0 655360 786432 0 0 0 0 0 1 _ rfl).mono ?_); rintro e w7 ⟨rfl, hb⟩; have n5_ := Aside0.mk ((hb.block b5 (blk_lt Z5.out)).trans Z5.out); have n6_ := Aside0.mk ((hb.block b6 (blk_lt Z6.out)).trans Z6.out); have nB_ := Aside0.mk (below_step HB.out hb); clear Z5 Z6 HB; have Z5 := n5_; have Z6 := n6_; have HB := nB_; clear n5_ n6_ nB_; clear hb))
  have z8 : (w7.alloc (.cells #[.int .i64 0, .int .i64 655360, .int .i64 786432, .int .i64 0, .int .i64 0, .int .i64 0, .int .i64 0, .int .i64 0, .int .i64 1] 33)).heap[w7.heap.size]? = some (.cells #[.int .i64 0, .int .i64 655360, .int .i64 786432, .int .i64 0, .int .i64 0, .int .i64 0, .int .i64 0, .int .i64 0, .int .i64 1] 33 (0, 0)) := heap_alloc_new w7 _
  have hz5 := ((below_alloc (Below.refl _ _) (.cells #[.int .i64 0, .int .i64 655360, .int .i64 786432, .int .i64 0, .int .i64 0, .int .i64 0, .int .i64 0, .int .i64 0, .int .i64 1] 33)).block b5 (blk_lt Z5.out)).trans Z5.out
  have hz6 := ((below_alloc (Below.refl _ _) (.cells #[.int .i64 0, .int .i64 655360, .int .i64 786432, .int .i64 0, .int .i64 0, .int .i64 0, .int .i64 0, .int .i64 0, .int .i64 1] 33)).block b6 (blk_lt Z6.out)).trans Z6.out
  have hnb := below_alloc HB.out (.cells #[.int .i64 0, .int .i64 655360, .int .i64 786432, .int .i64 0, .int .i64 0, .int .i64 0, .int .i64 0, .int .i64 0, .int .i64 1] 33)
  have hn5 : b5 ≠ w7.heap.size := Nat.ne_of_lt (blk_lt Z5.out)
  have hn6 : b6 ≠ w7.heap.size := Nat.ne_of_lt (blk_lt Z6.out)
  have hg8 : w.heap.size ≤ w7.heap.size := HB.out.size
  obtain ⟨b8, hb8⟩ : ∃ z, z = w7.heap.size := ⟨_, rfl⟩
  rw [← hb8] at z8 hn5 hn6 hg8
  rw [← hb8]
  clear Z5 Z6 HB hb8
  have HN5 := Aside0.mk hn5
  have HN6 := Aside0.mk hn6
  have HG8 := Aside0.mk hg8
  have Z5 : Aside0 (St.Arr (w7.alloc (.cells #[.int .i64 0, .int .i64 655360, .int .i64 786432, .int .i64 0, .int .i64 0, .int .i64 0, .int .i64 0, .int .i64 0, .int .i64 1] 33)) b5 33 [a2_0, a2_1, a2_2, a2_3, a2_4, a2_5, a2_6, a2_7, a2_8]) := ⟨hz5⟩
  have Z6 : Aside0 (St.Arr (w7.alloc (.cells #[.int .i64 0, .int .i64 655360, .int .i64 786432, .int .i64 0, .int .i64 0, .int .i64 0, .int .i64 0, .int .i64 0, .int .i64 1] 33)) b6 33 [0, 0, 0, 0, 0, 0, 0, 0, 0]) := ⟨hz6⟩
  have Z8 : Aside0 (St.Arr (w7.alloc (.cells #[.int .i64 0, .int .i64 655360, .int .i64 786432, .int .i64 0, .int .i64 0, .int .i64 0, .int .i64 0, .int .i64 0, .int .i64 1] 33)) b8 33 [0, 655360, 786432, 0, 0, 0, 0, 0, 1]) := ⟨z8⟩
  have HB := Aside0.mk hnb
  clear hz5 hz6 z8 hnb hn5 hn6 hg8
  generalize w7.alloc (.cells #[.int .i64 0, .int .i64 655360, .int .i64 786432, .int .i64 0, .int .i64 0, .int .i64 0, .int .i64 0, .int .i64 0, .int .i64 1] 33) = w2 at Z5 Z6 Z8 HB ⊢
  have HLP : Aside0 (([a2_0, a2_1, a2_2, a2_3, a2_4, a2_5, a2_6, a2_7, a2_8] : List Int).length = 9) := ⟨rfl⟩
  have HLS : Aside0 (([0, 655360, 786432, 0, 0, 0, 0, 0, 1] : List Int).length = 9) := ⟨rfl⟩
  have HF : Aside0 (colophonref20_Of.loop k l0 l1 [a2_0, a2_1, a2_2, a2_3, a2_4, a2_5, a2_6, a2_7, a2_8] 9 0 [0, 655360, 786432, 0, 0, 0, 0, 0, 1] = some [r1, r2, r3, r4, r5, r6, r7, r8, r9]) := HF0
  obtain ⟨P, hP⟩ : ∃ P : List Int, [a2_0, a2_1, a2_2, a2_3, a2_4, a2_5, a2_6, a2_7, a2_8] = P := ⟨_, rfl⟩
  obtain ⟨S0, hS0⟩ : ∃ S : List Int, [0, 655360, 786432, 0, 0, 0, 0, 0, 1] = S := ⟨_, rfl⟩
  rw [hP] at Z5 HLP HF
  rw [hS0] at Z8 HLS HF
  clear hP hS0 HF0
  go_wp2
  go_loopg [8] 9 (fun kq v8 w' => ∃ (p : Nat) (S : List Int), v8 = .int .i64 (p : Int) ∧ Aside0 (p + kq = 9) ∧ Aside0 (S.length = 9) ∧ Aside0 (colophonref20_Of.loop k l0 l1 P kq p S = some [r1, r2, r3, r4, r5, r6, r7, r8, r9]) ∧ Aside0 (St.Arr w' b5 33 P) ∧ Aside0 (St.Arr w' b6 33 [0, 0, 0, 0, 0, 0, 0, 0, 0]) ∧ Aside0 (St.Arr w' b8 33 S) ∧ Aside0 (Below w.heap.size w w'))
  case atStart => exact ⟨0, S0, by first | rfl | simp, ⟨rfl⟩, HLS, HF, Z5, Z6, Z8, HB⟩
  case round =>
    clear HLS HF Z5 Z6 Z8 HB S0
    obtain ⟨p, S, rfl, HK, HLS, HF, Z5, Z6, Z8, HB⟩ := hrel
    cases gk with
    | zero =>
      have hp : p = 9 := HK.out
      subst hp
      have e : S = [r1, r2, r3, r4, r5, r6, r7, r8, r9] := by
        have := HF.out
        unfold colophonref20_Of.loop at this
        first | exact this | exact Option.some.inj this
      subst e
      obtain ⟨c0_, c1_, c2_, c3_, c4_, c5_, c6_, c7_, c8_⟩ := Z8.out.nine
      obtain ⟨d0_, d1_, d2_, d3_, d4_, d5_, d6_, d7_, d8_⟩ := Z6.out.nine
      have f0_ := Z6.out.frozen 0
      have f1_ := Z6.out.frozen 1
      have f2_ := Z6.out.frozen 2
      have f3_ := Z6.out.frozen 3
      have f4_ := Z6.out.frozen 4
      have f5_ := Z6.out.frozen 5
      have f6_ := Z6.out.frozen 6
      have f7_ := Z6.out.frozen 7
      have f8_ := Z6.out.frozen 8
      clear HF HLS
      go_wp2
      refine bodyPost_ret (results_cell_row rfl _ _ b6 33 #[.int .i64 r1, .int .i64 r2, .int .i64 r3, .int .i64 r4, .int .i64 r5, .int .i64 r6, .int .i64 r7, .int .i64 r8, .int .i64 r9] (0, 0) _ rfl (Z6.out.set9 rfl r1 r2 r3 r4 r5 r6 r7 r8 r9) Try.underlying33 rfl (by kernel_rfl)) rfl ?_
      exact ⟨rfl, below_set (below_set (below_set (below_set (below_set (below_set (below_set (below_set (below_set HB.out HG6.out) HG6.out) HG6.out) HG6.out) HG6.out) HG6.out) HG6.out) HG6.out) HG6.out⟩
    | succ q =>
      have hp : p < 9 := by have := HK.out; omega
      have H := HF.out
      rw [colophonref20_Of.loop] at H
      obtain ⟨⟨vv, vo⟩, AW0, H⟩ := Option.bind_eq_some_iff.mp H
      have AW := Aside0.mk AW0
      clear AW0
      have HH := Aside0.mk H
      have p1 : ((p : Int) < 9) = True := eq_true (by omega)
      have p2 : (0 ≤ (p : Int)) = True := eq_true (by omega)
      have p3 : decide ((p : Int) < 9) = true := decide_eq_true (by omega)
      have p4 : (p < 9) = True := eq_true hp
      have p5 : decide (p < 9) = true := decide_eq_true hp
      have p6 : IntKind.i64.wrap ((p : Int) + 1) = (p : Int) + 1 := by rw [IntKind.wrap_i64]; omega
      have HI := Aside0.mk (colophonref20_Of.inh_f p hp)
      have HP := Aside0.mk hp
      clear H HF hp
      cases vo with
      | true =>
        have HH2 : Aside0 (colophonref20_Of.loop k l0 l1 P q (p + 1) (S.set p vv) = some [r1, r2, r3, r4, r5, r6, r7, r8, r9]) := ⟨by have := HH.out; first | exact this | (rw [if_pos rfl] at this; exact this)⟩
        clear HH
        go_wp2_with (first | (go_at_call 14; (with_reducible refine (colophonref20_Winner.calls k A0 c0 l0 A1 c1 l1 (p : Int) vv _ _ (Kd.C_below HR0.out HB.out) HC0.out (Kd.C_below HR1.out HB.out) HC1.out AW.out).mono ?_); rintro e w8 ⟨rfl, hb⟩; have n5_ := Aside0.mk (Z5.out.below hb); have n6_ := Aside0.mk (Z6.out.below hb); have n8_ := Aside0.mk (Z8.out.below hb); have nB_ := Aside0.mk (below_step HB.out hb); clear Z5 Z6 Z8 HB; have Z5 := n5_; have Z6 := n6_; have Z8 := n8_; have HB := nB_; clear n5_ n6_ n8_ nB_; clear hb; have x8 := Z8.out.cell p (by rw [HLS.out]; exact HP.out); have f8 := Z8.out.frozen p))
        go_roundg q
        case measure => exact Nat.lt_succ_self q
        case rel => exact ⟨p + 1, S.set p vv, by go_num, ⟨by have := HK.out; omega⟩, ⟨by rw [List.length_set]; exact HLS.out⟩, HH2, ⟨Z5.out.other HN5.out p _⟩, ⟨Z6.out.other HN6.out p _⟩, ⟨Z8.out.set p vv⟩, ⟨below_set HB.out HG8.out⟩⟩
      | false =>
        obtain ⟨ih, hih⟩ : ∃ z, St.rinh p = z := ⟨_, rfl⟩
        have HI2 : Aside0 (colophonref20_inherited.f (p : Int) = some ih) := ⟨by rw [← hih]; exact HI.out⟩
        cases ih with
        | true =>
          have HH2 : Aside0 (colophonref20_Of.loop k l0 l1 P q (p + 1) (S.set p (P.getD p 0)) = some [r1, r2, r3, r4, r5, r6, r7, r8, r9]) := ⟨by have := HH.out; rw [hih] at this; first | exact this | (rw [if_neg (by decide), if_pos rfl] at this; exact this)⟩
          clear HH hih
          go_wp2_with (first | (go_at_call 14; (with_reducible refine (colophonref20_Winner.calls k A0 c0 l0 A1 c1 l1 (p : Int) vv _ _ (Kd.C_below HR0.out HB.out) HC0.out (Kd.C_below HR1.out HB.out) HC1.out AW.out).mono ?_); rintro e w8 ⟨rfl, hb⟩; have n5_ := Aside0.mk (Z5.out.below hb); have n6_ := Aside0.mk (Z6.out.below hb); have n8_ := Aside0.mk (Z8.out.below hb); have nB_ := Aside0.mk (below_step HB.out hb); clear Z5 Z6 Z8 HB; have Z5 := n5_; have Z6 := n6_; have Z8 := n8_; have HB := nB_; clear n5_ n6_ n8_ nB_; clear hb; have x8 := Z8.out.cell p (by rw [HLS.out]; exact HP.out); have f8 := Z8.out.frozen p; have x5 := Z5.out.cell p (by rw [HLP.out]; exact HP.out)) | (go_at_call 40; (with_reducible refine (colophonref20_inherited.calls (p : Int) _ _ HI2.out).mono ?_); rintro e w9 ⟨rfl, nd, rfl⟩; have hb := pw_below_drewN (Below.refl w8.heap.size w8) nd; have n5_ := Aside0.mk (Z5.out.below hb); have n6_ := Aside0.mk (Z6.out.below hb); have n8_ := Aside0.mk (Z8.out.below hb); have nB_ := Aside0.mk (below_step HB.out hb); clear Z5 Z6 Z8 HB; have Z5 := n5_; have Z6 := n6_; have Z8 := n8_; have HB := nB_; clear n5_ n6_ n8_ nB_; clear hb))
          go_roundg q
          case measure => exact Nat.lt_succ_self q
          case rel => exact ⟨p + 1, S.set p (P.getD p 0), by go_num, ⟨by have := HK.out; omega⟩, ⟨by rw [List.length_set]; exact HLS.out⟩, HH2, ⟨Z5.out.other HN5.out p _⟩, ⟨Z6.out.other HN6.out p _⟩, ⟨Z8.out.set p _⟩, ⟨below_set HB.out HG8.out⟩⟩
        | false =>
          have HH2 : Aside0 (colophonref20_Of.loop k l0 l1 P q (p + 1) (S) = some [r1, r2, r3, r4, r5, r6, r7, r8, r9]) := ⟨by have := HH.out; rw [hih] at this; first | exact this | (rw [if_neg (by decide), if_neg (by decide)] at this; exact this)⟩
          clear HH hih
          go_wp2_with (first | (go_at_call 14; (with_reducible refine (colophonref20_Winner.calls k A0 c0 l0 A1 c1 l1 (p : Int) vv _ _ (Kd.C_below HR0.out HB.out) HC0.out (Kd.C_below HR1.out HB.out) HC1.out AW.out).mono ?_); rintro e w8 ⟨rfl, hb⟩; have n5_ := Aside0.mk (Z5.out.below hb); have n6_ := Aside0.mk (Z6.out.below hb); have n8_ := Aside0.mk (Z8.out.below hb); have nB_ := Aside0.mk (below_step HB.out hb); clear Z5 Z6 Z8 HB; have Z5 := n5_; have Z6 := n6_; have Z8 := n8_; have HB := nB_; clear n5_ n6_ n8_ nB_; clear hb; have x8 := Z8.out.cell p (by rw [HLS.out]; exact HP.out); have f8 := Z8.out.frozen p; have x5 := Z5.out.cell p (by rw [HLP.out]; exact HP.out)) | (go_at_call 40; (with_reducible refine (colophonref20_inherited.calls (p : Int) _ _ HI2.out).mono ?_); rintro e w9 ⟨rfl, nd, rfl⟩; have hb := pw_below_drewN (Below.refl w8.heap.size w8) nd; have n5_ := Aside0.mk (Z5.out.below hb); have n6_ := Aside0.mk (Z6.out.below hb); have n8_ := Aside0.mk (Z8.out.below hb); have nB_ := Aside0.mk (below_step HB.out hb); clear Z5 Z6 Z8 HB; have Z5 := n5_; have Z6 := n6_; have Z8 := n8_; have HB := nB_; clear n5_ n6_ n8_ nB_; clear hb))
          go_roundg q
          case measure => exact Nat.lt_succ_self q
          case rel => exact ⟨p + 1, S, by go_num, ⟨by have := HK.out; omega⟩, HLS, HH2, Z5, Z6, Z8, HB⟩

/-! ### colophonref18_Attr: function 45 -/
def colophonref18_Attr.l0 : Nat → ByteArray → Int → ByteArray → ByteArray → List (S82) → List (S52) → Int → Option (ByteArray × Bool)
  | 0, _, _, _, _, _, _, _ => none
  | k + 1, x1, x6, x252000, x252001, x252002, x252003, x252004 => if x6 < (x252002.length : Int) then (if 0 ≤ x6 then (if ((rd_T82 x252002 x6).f0).toList = x1.toList then (some ((rd_T82 x252002 x6).f1, true)) else (colophonref18_Attr.l0 k x1 (wrap64 (x6 + 1)) x252000 x252001 x252002 x252003 x252004)) else (none)) else (some ((⟨#[]⟩ : ByteArray), false))
def colophonref18_Attr.f (k : Nat) (a0_0 : ByteArray) (a0_1 : ByteArray) (l0_2 : List (S82)) (l0_3 : List (S52)) (a0_4 : Int) (a1 : ByteArray) : Option (ByteArray × Bool) := colophonref18_Attr.l0 k a1 0 a0_0 a0_1 l0_2 l0_3 a0_4
theorem colophonref18_Attr.mono_l : ∀ k, (∀ y0 y1 y2 y3 y4 y5 y6, LeO (colophonref18_Attr.l0 k y0 y1 y2 y3 y4 y5 y6) (colophonref18_Attr.l0 (k + 1) y0 y1 y2 y3 y4 y5 y6))
  | 0 => fun _ _ _ _ _ _ _ r h => by simp [colophonref18_Attr.l0] at h
  | k + 1 => by
    have ih0 := colophonref18_Attr.mono_l k
    · intro y0 y1 y2 y3 y4 y5 y6
      unfold colophonref18_Attr.l0
      repeat' first
      | (with_reducible exact ih0 _ _ _ _ _ _ _)
      | (with_reducible exact LeO.refl _)
      | (with_reducible exact LeO.none _)
      | (with_reducible refine LeO.ite ?_ ?_)
      | (with_reducible refine LeO.bind ?_ (fun _ => ?_))
      | exact ih0 _ _ _ _ _ _ _
      | exact LeO.none _
      | refine LeO.ite ?_ ?_
      | refine LeO.bind ?_ (fun _ => ?_)
theorem colophonref18_Attr.mono : ∀ a0 a1 a2 a3 a4 a5 k, LeO (colophonref18_Attr.f k a0 a1 a2 a3 a4 a5) (colophonref18_Attr.f (k + 1) a0 a1 a2 a3 a4 a5) := by
  intro a0 a1 a2 a3 a4 a5 k
  have ih0 := colophonref18_Attr.mono_l k
  unfold colophonref18_Attr.f
  repeat' first
      | (with_reducible exact ih0 _ _ _ _ _ _ _)
      | (with_reducible exact LeO.refl _)
      | (with_reducible exact LeO.none _)
      | (with_reducible refine LeO.ite ?_ ?_)
      | (with_reducible refine LeO.bind ?_ (fun _ => ?_))
      | exact ih0 _ _ _ _ _ _ _
      | exact LeO.none _
      | refine LeO.ite ?_ ?_
      | refine LeO.bind ?_ (fun _ => ?_)
set_option maxHeartbeats 8000000 in
set_option maxRecDepth 100000 in
theorem colophonref18_Attr.calls (k : Nat) (a0_0 : ByteArray) (a0_1 : ByteArray) (A0_2 : Option Addr) (c0_2 : Nat) (l0_2 : List (S82)) (A0_3 : Option Addr) (c0_3 : Nat) (l0_3 : List (S52)) (a0_4 : Int) (a1 : ByteArray) (r1 : ByteArray) (r2 : Bool) (w : World) (hr0_2 : Kd.C k82 w A0_2 l0_2.length l0_2) (hc0_2 : l0_2.length ≤ c0_2) (hr0_3 : Kd.C k52 w A0_3 l0_3.length l0_3) (hc0_3 : l0_3.length ≤ c0_3) (h : colophonref18_Attr.f k a0_0 a0_1 l0_2 l0_3 a0_4 a1 = some (r1, r2)) :
    Calls Try.prog 45 #[.agg #[.string a0_0, .string a0_1, .slice A0_2 l0_2.length c0_2, .slice A0_3 l0_3.length c0_3, .int .i64 a0_4], .string a1] w fun e w' => e = .returned (.tuple #[.string r1, .bool r2]) ∧ Below w.heap.size w w' := by
  have hu52 := Try.underlying52
  have HR0_2 := Aside0.mk hr0_2
  have HC0_2 := Aside0.mk hc0_2
  clear hr0_2 hc0_2
  have HR0_3 := Aside0.mk hr0_3
  have HC0_3 := Aside0.mk hc0_3
  clear hr0_3 hc0_3
  have HB := Aside0.mk (Below.refl w.heap.size w)
  have H : (colophonref18_Attr.l0 k a1 0 a0_0 a0_1 l0_2 l0_3 a0_4) = some (r1, r2) := h
  clear h
  have H' := Aside0.mk H
  clear H
  go_enter Try.func45, Try.ntmps45
  go_wp2_with (first | ((with_reducible refine gate_dst (N := 2) rfl ?_); refine box_event ?hg (N := 2) ?hd (cs := #[.string a0_0, .string a0_1, .slice A0_2 l0_2.length c0_2, .slice A0_3 l0_3.length c0_3, .int .i64 a0_4]) (t := 52) ?hr ?_; (case hd => rfl); (case hg => rfl); (case hr => first | (go_simp; done) | (go_simp; rfl)); intro gb251 hg w3 hbox hb; have n0_ := Aside0.mk (below_step (by repeat (first | (with_reducible first | exact HB.out | apply below_alloc | apply pw_below_drewN | apply below_drew1) | exact HB.out)) hb); have n1_ := Aside0.mk (hbox); have n2_ := Aside0.mk ((by rw [hg]; exact (below_size (by repeat (first | (with_reducible first | exact HB.out | apply below_alloc | apply pw_below_drewN | apply below_drew1) | exact HB.out))) : w.heap.size ≤ gb251)); have n3_ := Aside0.mk ((by rw [hg]; exact (below_size (by repeat (first | (with_reducible first | exact HB.out | apply below_alloc | apply pw_below_drewN | apply below_drew1) | exact HB.out))) : w.heap.size ≤ gb251)); clear HB; have HB := n0_; have BK251 := n1_; have GW251 := n2_; have GE251 := n3_; clear n0_ n1_ n2_ n3_; clear hb hbox hg))
  go_loopg [6] k (fun kq v6 w' => ∃ (x6_1 : Int), v6 = .int .i64 x6_1 ∧ Aside0 (colophonref18_Attr.l0 kq a1 x6_1 a0_0 a0_1 l0_2 l0_3 a0_4 = some (r1, r2)) ∧ Aside0 (kq ≤ k) ∧ Aside0 (w'.heap[gb251]? = some (.cells #[.string a0_0, .string a0_1, (.slice A0_2 l0_2.length c0_2), (.slice A0_3 l0_3.length c0_3), .int .i64 a0_4] 52 (0, 0))) ∧ Aside0 (Below w.heap.size w w'))
  case atStart => exact ⟨(0), (by first | rfl | (simp; done) | (simp [*]; done)), H', ⟨Nat.le_refl _⟩, ⟨by (with_reducible repeat (first | refine blk_drewN ?_ _ | refine blk_drew ?_ | refine blk_alloc ?_ _)); exact BK251.out⟩, ⟨by repeat (first | (with_reducible first | exact HB.out | apply below_alloc | apply pw_below_drewN | apply below_drew1 | refine below_set ?_ GE251.out) | exact HB.out)⟩⟩
  case round =>
    clear H'
    try clear p2
    obtain ⟨x6_1, rfl, HA, HK1, BK251, HB⟩ := hrel
    cases gk with
    | zero => exact absurd HA.out (by simp [colophonref18_Attr.l0])
    | succ k1 =>
      have H := HA.out
      clear HA
      simp only [colophonref18_Attr.l0] at H
      by_cases c4 : x6_1 < (l0_2.length : Int)
      · rw [if_pos c4] at H
        have c4b0 : decide (x6_1 < (l0_2.length : Int)) = true := decide_eq_true c4
        clear c4
        by_cases c5 : 0 ≤ x6_1
        · rw [if_pos c5] at H
          have c5b0 : decide (0 ≤ x6_1) = true := decide_eq_true c5
          clear c5
          by_cases c6 : ((rd_T82 l0_2 x6_1).f0).toList = a1.toList
          · rw [if_pos c6] at H
            have c6b0 : (((rd_T82 l0_2 x6_1).f0).toList == a1.toList) = true := beq_iff_eq.mpr c6
            have c6b1 : (((rd_T82 l0_2 x6_1).f0).toList != a1.toList) = false := bne_eq_false_iff_eq.mpr c6
            clear c6
            simp only [Option.some.injEq, Prod.mk.injEq] at H
            obtain ⟨rfl, rfl⟩ := H
            have hcz7_0 : wr.cell? ⟨gb251, 0, none⟩ = some (.string a0_0) := (blk_cell BK251.out 0).trans rfl
            have hcz7_1 : wr.cell? ⟨gb251, 1, none⟩ = some (.string a0_1) := (blk_cell BK251.out 1).trans rfl
            have hcz7_2 : wr.cell? ⟨gb251, 2, none⟩ = some (.slice A0_2 l0_2.length c0_2) := (blk_cell BK251.out 2).trans rfl
            have hcz7_3 : wr.cell? ⟨gb251, 3, none⟩ = some (.slice A0_3 l0_3.length c0_3) := (blk_cell BK251.out 3).trans rfl
            have hcz7_4 : wr.cell? ⟨gb251, 4, none⟩ = some (.int .i64 a0_4) := (blk_cell BK251.out 4).trans rfl
            have hfz7_0 := blk_frozen BK251.out 0
            have hfz7_1 := blk_frozen BK251.out 1
            have hfz7_2 := blk_frozen BK251.out 2
            have hfz7_3 := blk_frozen BK251.out 3
            have hfz7_4 := blk_frozen BK251.out 4
            have p252 : 0 ≤ (x6_1 : Int) := of_decide_eq_true (by first | (with_reducible assumption) | assumption)
            have q252 : x6_1 < (l0_2.length : Int) := of_decide_eq_true (by first | (with_reducible assumption) | assumption)
            obtain ⟨ad252, e252, hx252_0, hx252_1⟩ := at_T82 HR0_2.out x6_1 p252 q252
            cases e252
            replace hx252_0 := (HB.out.cell (World.block_lt_of_cell? w _ hx252_0)).trans hx252_0
            replace hx252_1 := (HB.out.cell (World.block_lt_of_cell? w _ hx252_1)).trans hx252_1
            replace p252 := eq_true p252
            replace q252 := eq_true q252
            have p253 : 0 ≤ (x6_1 : Int) := of_decide_eq_true (by first | (with_reducible assumption) | assumption)
            have q253 : x6_1 < (l0_2.length : Int) := of_decide_eq_true (by first | (with_reducible assumption) | assumption)
            obtain ⟨ad253, e253, hx253_0, hx253_1⟩ := at_T82 HR0_2.out x6_1 p253 q253
            obtain rfl : ad252 = ad253 := (by injection e253)
            replace hx253_0 := (HB.out.cell (World.block_lt_of_cell? w _ hx253_0)).trans hx253_0
            replace hx253_1 := (HB.out.cell (World.block_lt_of_cell? w _ hx253_1)).trans hx253_1
            replace p253 := eq_true p253
            replace q253 := eq_true q253
            go_wp2
            go_ret2
            exact ⟨by first | rfl | (simp [errW_none, errW_some] <;> rfl) | (simp [*, errW_none, errW_some] <;> rfl), by repeat (first | (with_reducible first | exact HB.out | apply below_alloc | apply pw_below_drewN | apply below_drew1 | refine below_set ?_ GE251.out) | exact HB.out)⟩
          · rw [if_neg c6] at H
            have c6b0 : (((rd_T82 l0_2 x6_1).f0).toList == a1.toList) = false := beq_eq_false_iff_ne.mpr c6
            have c6b1 : (((rd_T82 l0_2 x6_1).f0).toList != a1.toList) = true := bne_iff_ne.mpr c6
            have H' := Aside0.mk H
            clear H
            have hcz8_0 : wr.cell? ⟨gb251, 0, none⟩ = some (.string a0_0) := (blk_cell BK251.out 0).trans rfl
            have hcz8_1 : wr.cell? ⟨gb251, 1, none⟩ = some (.string a0_1) := (blk_cell BK251.out 1).trans rfl
            have hcz8_2 : wr.cell? ⟨gb251, 2, none⟩ = some (.slice A0_2 l0_2.length c0_2) := (blk_cell BK251.out 2).trans rfl
            have hcz8_3 : wr.cell? ⟨gb251, 3, none⟩ = some (.slice A0_3 l0_3.length c0_3) := (blk_cell BK251.out 3).trans rfl
            have hcz8_4 : wr.cell? ⟨gb251, 4, none⟩ = some (.int .i64 a0_4) := (blk_cell BK251.out 4).trans rfl
            have hfz8_0 := blk_frozen BK251.out 0
            have hfz8_1 := blk_frozen BK251.out 1
            have hfz8_2 := blk_frozen BK251.out 2
            have hfz8_3 := blk_frozen BK251.out 3
            have hfz8_4 := blk_frozen BK251.out 4
            have p252 : 0 ≤ (x6_1 : Int) := of_decide_eq_true (by first | (with_reducible assumption) | assumption)
            have q252 : x6_1 < (l0_2.length : Int) := of_decide_eq_true (by first | (with_reducible assumption) | assumption)
            obtain ⟨ad252, e252, hx252_0, hx252_1⟩ := at_T82 HR0_2.out x6_1 p252 q252
            cases e252
            replace hx252_0 := (HB.out.cell (World.block_lt_of_cell? w _ hx252_0)).trans hx252_0
            replace hx252_1 := (HB.out.cell (World.block_lt_of_cell? w _ hx252_1)).trans hx252_1
            replace p252 := eq_true p252
            replace q252 := eq_true q252
            go_wp2
            go_roundg k1
            case measure => have := HK1.out; omega
            case rel => exact ⟨(wrap64 (x6_1 + 1)), (by first | rfl | (simp; done) | (simp [*]; done)), H', ⟨by have := HK1.out; omega⟩, ⟨by (with_reducible repeat (first | refine blk_drewN ?_ _ | refine blk_drew ?_ | refine blk_alloc ?_ _)); exact BK251.out⟩, ⟨by repeat (first | (with_reducible first | exact HB.out | apply below_alloc | apply pw_below_drewN | apply below_drew1 | refine below_set ?_ GE251.out) | exact HB.out)⟩⟩
        · rw [if_neg c5] at H
          exact absurd H (by simp)
      · rw [if_neg c4] at H
        have c4b0 : decide (x6_1 < (l0_2.length : Int)) = false := decide_eq_false c4
        clear c4
        simp only [Option.some.injEq, Prod.mk.injEq] at H
        obtain ⟨rfl, rfl⟩ := H
        have hcz9_0 : wr.cell? ⟨gb251, 0, none⟩ = some (.string a0_0) := (blk_cell BK251.out 0).trans rfl
        have hcz9_1 : wr.cell? ⟨gb251, 1, none⟩ = some (.string a0_1) := (blk_cell BK251.out 1).trans rfl
        have hcz9_2 : wr.cell? ⟨gb251, 2, none⟩ = some (.slice A0_2 l0_2.length c0_2) := (blk_cell BK251.out 2).trans rfl
        have hcz9_3 : wr.cell? ⟨gb251, 3, none⟩ = some (.slice A0_3 l0_3.length c0_3) := (blk_cell BK251.out 3).trans rfl
        have hcz9_4 : wr.cell? ⟨gb251, 4, none⟩ = some (.int .i64 a0_4) := (blk_cell BK251.out 4).trans rfl
        have hfz9_0 := blk_frozen BK251.out 0
        have hfz9_1 := blk_frozen BK251.out 1
        have hfz9_2 := blk_frozen BK251.out 2
        have hfz9_3 := blk_frozen BK251.out 3
        have hfz9_4 := blk_frozen BK251.out 4
        go_wp2
        go_ret2
        exact ⟨by first | rfl | (simp [errW_none, errW_some] <;> rfl) | (simp [*, errW_none, errW_some] <;> rfl), by repeat (first | (with_reducible first | exact HB.out | apply below_alloc | apply pw_below_drewN | apply below_drew1 | refine below_set ?_ GE251.out) | exact HB.out)⟩

end Go.Proofs.Ytpembifnjlekdaa.PStyleAll
