-- Written by a copy of the print that this session has turned (wip/tools/patchprint.py): arrays as records.
import Derived.Test.YtpembifnjlekdaaPStyleWinsx0
import Derived.Test.YtpembifnjlekdaaPStyleWinsx4
import Derived.Test.YtpembifnjlekdaaPStyleWinsx5
import Derived.Test.YtpembifnjlekdaaPStyleWinsx8
namespace Go.Proofs.Ytpembifnjlekdaa.PStyleWins
open Go.RowKit Go.Proofs.YtpembifnjlekdaaW.PrintWords Go.Proofs.YtpembifnjlekdaaW.PrintLast Go.Proofs.YtpembifnjlekdaaW.PrintMore
attribute [local go_sem] max2_int min2_int max_two min_two max_three min_three max_four min_four   -- for this text's walks alone
set_option linter.unusedVariables false
set_option linter.unusedSimpArgs false

/-! ### colophonref20_Winner: function 14 -/
def colophonref20_Winner.sel (k : Nat) (path : List S56) : List S45 → (Int × Int × Int) × Bool → Option ((Int × Int × Int) × Bool)
  | [], X => some X
  | s :: r, X => (colophonref19_Match.f k s.f0 path).bind fun m => if m = false then colophonref20_Winner.sel k path r X else
      colophonref20_Winner.sel k path r (if X.2 = false ∨ St.ls X.1 (wgt s.f0 (0, 0, 0)) = true then wgt s.f0 (0, 0, 0) else X.1, true)
def colophonref20_Winner.decls (prop : Int) (x : Int × Int × Int) : List S47 → CS → CS
  | [], c => c
  | d :: r, c => colophonref20_Winner.decls prop x r (if d.f0 = prop then ⟨true, d.f1, x.1, x.2.1, x.2.2⟩ else c)
def colophonref20_Winner.go (k : Nat) (path : List S56) (prop : Int) : List S41 → CS → Option CS
  | [], c => some c
  | x :: r, c => (colophonref20_Winner.sel k path x.f0 ((0, 0, 0), false)).bind fun X => colophonref20_Winner.go k path prop r (if X.2 = false ∨ (c.won = true ∧ St.ls X.1 (c.b0, c.b1, c.b2) = true) then c else colophonref20_Winner.decls prop X.1 x.f1 c)
def colophonref20_Winner.f (k : Nat) (l : List S41) (path : List S56) (prop : Int) : Option (Int × Bool) := if l.length ≤ 100000 then (colophonref20_Winner.go k path prop l ⟨false, 0, 0, 0, 0⟩).bind fun c => some (c.v, c.won) else none
theorem colophonref20_Winner.sel_mono (k : Nat) (path : List S56) : ∀ (l : List S45) (X : (Int × Int × Int) × Bool), LeO (colophonref20_Winner.sel k path l X) (colophonref20_Winner.sel (k + 1) path l X)
  | [], X => LeO.refl _
  | s :: r, X => by
    rw [colophonref20_Winner.sel, colophonref20_Winner.sel]
    exact LeO.bind (colophonref19_Match.mono _ _ _) (fun m => LeO.ite (colophonref20_Winner.sel_mono k path r X) (colophonref20_Winner.sel_mono k path r _))
theorem colophonref20_Winner.go_mono (k : Nat) (path : List S56) (prop : Int) : ∀ (l : List S41) (c : CS), LeO (colophonref20_Winner.go k path prop l c) (colophonref20_Winner.go (k + 1) path prop l c)
  | [], c => LeO.refl _
  | x :: r, c => by
    rw [colophonref20_Winner.go, colophonref20_Winner.go]
    exact LeO.bind (colophonref20_Winner.sel_mono k path _ _) (fun X => colophonref20_Winner.go_mono k path prop r _)
theorem colophonref20_Winner.mono : ∀ a0 a1 a2 k, LeO (colophonref20_Winner.f k a0 a1 a2) (colophonref20_Winner.f (k + 1) a0 a1 a2) := by
  intro a0 a1 a2 k
  unfold colophonref20_Winner.f
  exact LeO.ite (LeO.bind (colophonref20_Winner.go_mono k a1 a2 a0 _) (fun _ => LeO.refl _)) (LeO.refl _)
set_option maxHeartbeats 8000000 in
set_option maxRecDepth 100000 in
theorem colophonref20_Winner.calls (k : Nat) (A0 : Option Addr) (c0 : Nat) (l0 : List (S41)) (A1 : Option Addr) (c1 : Nat) (l1 : List (S56)) (a2 : Int) (r1 : Int) (r2 : Bool) (w : World) (hr0 : Kd.C k41 w A0 l0.length l0) (hc0 : l0.length ≤ c0) (hr1 : Kd.C k56 w A1 l1.length l1) (hc1 : l1.length ≤ c1) (h : colophonref20_Winner.f k l0 l1 a2 = some (r1, r2)) :
    Calls Try.prog 14 #[.slice A0 l0.length c0, .slice A1 l1.length c1, .int .i64 a2] w fun e w' => e = .returned (.tuple #[.int .i64 r1, .bool r2]) ∧ Below w.heap.size w w' := by
  have HR0 := Aside0.mk hr0
  have HC0 := Aside0.mk hc0
  have HR1 := Aside0.mk hr1
  have HC1 := Aside0.mk hc1
  clear hr0 hc0 hr1 hc1
  unfold colophonref20_Winner.f at h
  by_cases hn : l0.length ≤ 100000
  rotate_left
  · rw [if_neg hn] at h
    exact absurd h (by simp)
  rw [if_pos hn] at h
  obtain ⟨cR, hg, h⟩ := Option.bind_eq_some_iff.mp h
  simp only [Option.some.injEq, Prod.mk.injEq] at h
  obtain ⟨hv, hw⟩ := h
  have HN := Aside0.mk hn
  have HV := Aside0.mk (And.intro hv hw)
  have HG := Aside0.mk (show colophonref20_Winner.go k l1 a2 (l0.drop 0) ⟨false, 0, 0, 0, 0⟩ = some cR from hg)
  clear hn hg hv hw
  have z10 : (w.alloc (.cells #[.int .i64 0, .int .i64 0, .int .i64 0] 71)).heap[w.heap.size]? = some (.cells #[.int .i64 0, .int .i64 0, .int .i64 0] 71 (0, 0)) := heap_alloc_new w _
  have Z10 := Aside0.mk z10
  have HB := Aside0.mk (below_alloc (Below.refl w.heap.size w) (.cells #[.int .i64 0, .int .i64 0, .int .i64 0] 71))
  clear z10
  go_enter Try.func14, Try.ntmps14
  go_upto_region 3 with (fail)
  obtain ⟨b10, hb10⟩ : ∃ z, z = w.heap.size := ⟨_, rfl⟩
  have HG10 : Aside0 (w.heap.size ≤ b10) := ⟨by omega⟩
  rw [← hb10] at Z10 ⊢
  clear hb10
  generalize (w.alloc (.cells #[.int .i64 0, .int .i64 0, .int .i64 0] 71)) = wA at Z10 HB ⊢
  go_wp2
  go_loopg [8, 9, 11] l0.length (fun kq v8 v9 v11 w' => ∃ (i : Nat) (c : CS), v8 = .int .i64 c.v ∧ v9 = .bool c.won ∧ v11 = .int .i64 (i : Int) ∧ Aside0 (i + kq = l0.length) ∧ Aside0 (colophonref20_Winner.go k l1 a2 (l0.drop i) c = some cR) ∧ Aside0 (w'.heap[b10]? = some (.cells #[.int .i64 c.b0, .int .i64 c.b1, .int .i64 c.b2] 71 (0, 0))) ∧ Aside0 (Below w.heap.size w w'))
  case atStart => exact ⟨0, ⟨false, 0, 0, 0, 0⟩, rfl, rfl, by first | rfl | simp, ⟨by omega⟩, HG, Z10, HB⟩
  case round =>
    clear HG Z10 HB
    obtain ⟨i, c, rfl, rfl, rfl, HK, HG, Z10, HB⟩ := hrel
    cases gk with
    | zero =>
      have e : c = cR := by
        have := HG.out
        rw [List.drop_eq_nil_of_le (by have := HK.out; omega), colophonref20_Winner.go] at this
        exact Option.some.inj this
      subst e
      have m1 : decide ((i : Int) < (l0.length : Int)) = false := decide_eq_false (by have := HK.out; omega)
      have m2 : (i < l0.length) = False := eq_false (by have := HK.out; omega)
      have m3 : decide (i < l0.length) = false := decide_eq_false (by have := HK.out; omega)
      clear HG
      go_wp2
      go_ret2
      exact ⟨by have h_ := HV.out; simp [h_.1, h_.2], HB.out⟩
    | succ q =>
      have hi : i < l0.length := by have := HK.out; omega
      have ed : l0.drop i = rd_T41 l0 (i : Int) :: l0.drop (i + 1) := by
        rw [List.drop_eq_getElem_cons hi]
        simp [rd_T41, List.getD_eq_getElem?_getD, hi]
      have H := HG.out
      rw [ed, colophonref20_Winner.go] at H
      obtain ⟨X, AX0, H⟩ := Option.bind_eq_some_iff.mp H
      obtain ⟨ad, A2, c2, A3, c3, ead, hx0, hx1, hl2, hi2, hl3, hi3⟩ := at_T41 HR0.out (i : Int) (by omega) (by omega)
      cases ead
      rw [Int.toNat_natCast] at hx0 hx1
      obtain ⟨x, hx⟩ : ∃ z, rd_T41 l0 (i : Int) = z := ⟨_, rfl⟩
      rw [hx] at hx0 hx1 hl2 hi2 hl3 hi3 AX0 H
      obtain ⟨sl, dl⟩ := x
      dsimp only at hx0 hx1 hl2 hi2 hl3 hi3 AX0 H
      have AX := Aside0.mk (show colophonref20_Winner.sel k l1 (sl.drop 0) ((0, 0, 0), false) = some X from AX0)
      have HH := Aside0.mk H
      have HX0 := Aside0.mk (And.intro (World.block_lt_of_cell? w _ hx0) hx0)
      have HX1 := Aside0.mk (And.intro (World.block_lt_of_cell? w _ hx1) hx1)
      have HL2 := Aside0.mk hl2
      have HI2 := Aside0.mk hi2
      have HL3 := Aside0.mk hl3
      have HI3 := Aside0.mk hi3
      have HI := Aside0.mk hi
      have hls : sl.length ≤ 9223372036854775807 := hi2.2.1
      have hld : dl.length ≤ 9223372036854775807 := hi3.2.1
      have HLS := Aside0.mk hls
      have HLD := Aside0.mk hld
      have m1 : decide ((i : Int) < (l0.length : Int)) = true := decide_eq_true (by omega)
      have m2 : ((i : Int) < (l0.length : Int)) = True := eq_true (by omega)
      have m3 : (0 ≤ (i : Int)) = True := eq_true (by omega)
      have m4 : (i < l0.length) = True := eq_true hi
      have m5 : decide (i < l0.length) = true := decide_eq_true hi
      clear AX0 H HG ed hx hx0 hx1 hl2 hi2 hl3 hi3 hi hls hld
      go_upto_region 8 with (fail)
      have z13 : (wr.alloc (.cells #[.int .i64 0, .int .i64 0, .int .i64 0] 71)).heap[wr.heap.size]? = some (.cells #[.int .i64 0, .int .i64 0, .int .i64 0] 71 (0, 0)) := heap_alloc_new wr _
      have z10 := ((below_alloc (Below.refl _ _) (.cells #[.int .i64 0, .int .i64 0, .int .i64 0] 71)).block b10 (blk_lt Z10.out)).trans Z10.out
      have hb := below_alloc HB.out (.cells #[.int .i64 0, .int .i64 0, .int .i64 0] 71)
      have hne : b10 ≠ wr.heap.size := Nat.ne_of_lt (blk_lt Z10.out)
      have hg13 : w.heap.size ≤ wr.heap.size := HB.out.size
      obtain ⟨b13, hb13⟩ : ∃ z, z = wr.heap.size := ⟨_, rfl⟩
      rw [← hb13] at z13 hne hg13 ⊢
      clear Z10 HB hb13
      have Z13 := Aside0.mk z13
      have Z10 := Aside0.mk z10
      have HB := Aside0.mk hb
      have HNE := Aside0.mk hne
      have HG13 := Aside0.mk hg13
      clear z13 z10 hb hne hg13
      generalize (wr.alloc (.cells #[.int .i64 0, .int .i64 0, .int .i64 0] 71)) = wB at Z13 Z10 HB ⊢
      go_wp2
      go_loopg [12, 14] sl.length (fun kq v12 v14 w' => ∃ (j : Nat) (X1 : (Int × Int × Int) × Bool), v12 = .bool X1.2 ∧ v14 = .int .i64 (j : Int) ∧ Aside0 (j + kq = sl.length) ∧ Aside0 (colophonref20_Winner.sel k l1 (sl.drop j) X1 = some X) ∧ Aside0 (w'.heap[b13]? = some (.cells #[.int .i64 X1.1.1, .int .i64 X1.1.2.1, .int .i64 X1.1.2.2] 71 (0, 0))) ∧ Aside0 (w'.heap[b10]? = some (.cells #[.int .i64 c.b0, .int .i64 c.b1, .int .i64 c.b2] 71 (0, 0))) ∧ Aside0 (Below w.heap.size w w'))
      case atStart => exact ⟨0, ((0, 0, 0), false), rfl, by first | rfl | simp, ⟨by omega⟩, AX, Z13, Z10, HB⟩
      case round =>
        clear AX Z13 Z10 HB
        obtain ⟨j, X1, rfl, rfl, HJ, AS, Z13, Z10, HB⟩ := hrel
        have y0 := pw_cell_below HB.out HX0.out.2
        cases gk with
        | zero =>
          have e : X1 = X := by
            have := AS.out
            rw [List.drop_eq_nil_of_le (by have := HJ.out; omega), colophonref20_Winner.sel] at this
            exact Option.some.inj this
          subst e
          have n1 : decide ((j : Int) < (sl.length : Int)) = false := decide_eq_false (by have := HJ.out; omega)
          have n2 : (j < sl.length) = False := eq_false (by have := HJ.out; omega)
          have n3 : decide (j < sl.length) = false := decide_eq_false (by have := HJ.out; omega)
          have p6 : IntKind.i64.wrap ((i : Int) + 1) = (i : Int) + 1 := by have := HI.out; have := HN.out; rw [IntKind.wrap_i64]; omega
          obtain ⟨⟨x0, x1, x2⟩, xb⟩ := X1
          obtain ⟨cw, cv, d0, d1, d2⟩ := c
          clear AS
          have u0 : wr.cell? ⟨b13, 0, none⟩ = some (.int .i64 x0) := (blk_cell Z13.out 0).trans rfl
          have u1 : wr.cell? ⟨b13, 1, none⟩ = some (.int .i64 x1) := (blk_cell Z13.out 1).trans rfl
          have u2 : wr.cell? ⟨b13, 2, none⟩ = some (.int .i64 x2) := (blk_cell Z13.out 2).trans rfl
          have u3 : wr.cell? ⟨b10, 0, none⟩ = some (.int .i64 d0) := (blk_cell Z10.out 0).trans rfl
          have u4 : wr.cell? ⟨b10, 1, none⟩ = some (.int .i64 d1) := (blk_cell Z10.out 1).trans rfl
          have u5 : wr.cell? ⟨b10, 2, none⟩ = some (.int .i64 d2) := (blk_cell Z10.out 2).trans rfl
          obtain ⟨lt, hlt⟩ : ∃ z, St.ls (x0, x1, x2) (d0, d1, d2) = z := ⟨_, rfl⟩
          have AN : Aside0 (colophonref20_less.f x0 x1 x2 d0 d1 d2 = some lt) := ⟨congrArg some hlt⟩
          have HLT := Aside0.mk hlt
          clear hlt
          go_upto_region 16 with (fail)
          clear n1 n2 n3 y0
          go_cut [69] (fun v69 wc => v69 = .bool (!xb || (cw && lt)) ∧ Aside0 (Below wr.heap.size wr wc))
          case first =>
            cases xb with
            | false =>
              go_wp2
              go_meet
              exact ⟨rfl, ⟨Below.refl _ _⟩⟩
            | true =>
              cases cw with
              | false =>
                go_wp2
                go_meet
                exact ⟨rfl, ⟨Below.refl _ _⟩⟩
              | true =>
                go_wp2_with (first | (go_at_call 37; (with_reducible refine (colophonref20_less.calls x0 x1 x2 d0 d1 d2 _ _ AN.out).mono ?_); rintro e w5 ⟨rfl, hb⟩; have HBB := Aside0.mk hb; clear hb))
                go_meet
                exact ⟨by simp, HBB⟩
          case rest =>
            obtain ⟨rfl, HW⟩ := hcut
            have n13 := Aside0.mk ((HW.out.block b13 (blk_lt Z13.out)).trans Z13.out)
            have n10 := Aside0.mk ((HW.out.block b10 (blk_lt Z10.out)).trans Z10.out)
            have nB := Aside0.mk (below_step HB.out HW.out)
            clear u0 u1 u2 u3 u4 u5 Z13 Z10 HB HW AN
            obtain ⟨gt, hgt⟩ : ∃ z, (!xb || (cw && lt)) = z := ⟨_, rfl⟩
            rw [hgt]
            have hgt2 : (xb = false ∨ (cw = true ∧ St.ls (x0, x1, x2) (d0, d1, d2) = true)) ↔ gt = true := by
              rw [← hgt, HLT.out]
              cases xb <;> cases cw <;> cases lt <;> simp
            cases gt with
            | true =>
              have HH2 : Aside0 (colophonref20_Winner.go k l1 a2 (l0.drop (i + 1)) ⟨cw, cv, d0, d1, d2⟩ = some cR) := ⟨by have := HH.out; rw [if_pos (hgt2.mpr rfl)] at this; exact this⟩
              clear HH hgt hgt2
              go_wp2
              go_roundg q
              case measure => exact Nat.lt_succ_self q
              case rel => exact ⟨i + 1, ⟨cw, cv, d0, d1, d2⟩, rfl, rfl, by go_num, ⟨by have := HK.out; omega⟩, HH2, n10, nB⟩
            | false =>
              obtain ⟨c', hc'⟩ : ∃ z, colophonref20_Winner.decls a2 (x0, x1, x2) dl ⟨cw, cv, d0, d1, d2⟩ = z := ⟨_, rfl⟩
              have HH2 : Aside0 (colophonref20_Winner.go k l1 a2 (l0.drop (i + 1)) c' = some cR) := ⟨by have := HH.out; rw [if_neg (fun z => by have := hgt2.mp z; simp at this), hc'] at this; exact this⟩
              have HD := Aside0.mk (show colophonref20_Winner.decls a2 (x0, x1, x2) (dl.drop 0) ⟨cw, cv, d0, d1, d2⟩ = c' from hc')
              clear HH hgt hgt2 hc'
              go_wp2
              go_loopg [8, 9, 16] dl.length (fun kq v8 v9 v16 w' => ∃ (j : Nat) (c : CS), v8 = .int .i64 c.v ∧ v9 = .bool c.won ∧ v16 = .int .i64 (j : Int) ∧ Aside0 (j + kq = dl.length) ∧ Aside0 (colophonref20_Winner.decls a2 (x0, x1, x2) (dl.drop j) c = c') ∧ Aside0 (w'.heap[b13]? = some (.cells #[.int .i64 x0, .int .i64 x1, .int .i64 x2] 71 (0, 0))) ∧ Aside0 (w'.heap[b10]? = some (.cells #[.int .i64 c.b0, .int .i64 c.b1, .int .i64 c.b2] 71 (0, 0))) ∧ Aside0 (Below w.heap.size w w'))
              case atStart => exact ⟨0, ⟨cw, cv, d0, d1, d2⟩, rfl, rfl, by first | rfl | simp, ⟨by omega⟩, HD, n13, n10, nB⟩
              case round =>
                clear HD n13 n10 nB
                obtain ⟨j, c, rfl, rfl, rfl, HJ, HD, Z13, Z10, HB⟩ := hrel
                have y1 := pw_cell_below HB.out HX1.out.2
                cases gk with
                | zero =>
                  have e : c = c' := by
                    have := HD.out
                    rw [List.drop_eq_nil_of_le (by have := HJ.out; omega), colophonref20_Winner.decls] at this
                    exact this
                  subst e
                  have n1 : decide ((j : Int) < (dl.length : Int)) = false := decide_eq_false (by have := HJ.out; omega)
                  have n2 : (j < dl.length) = False := eq_false (by have := HJ.out; omega)
                  have n3 : decide (j < dl.length) = false := decide_eq_false (by have := HJ.out; omega)
                  clear HD
                  go_wp2
                  go_roundg q
                  case measure => exact Nat.lt_succ_self q
                  case rel => exact ⟨i + 1, c, rfl, rfl, by go_num, ⟨by have := HK.out; omega⟩, HH2, Z10, HB⟩
                | succ u =>
                  have hj : j < dl.length := by have := HJ.out; omega
                  have ed : dl.drop j = rd_T47 dl (j : Int) :: dl.drop (j + 1) := by
                    rw [List.drop_eq_getElem_cons hj]
                    simp [rd_T47, List.getD_eq_getElem?_getD, hj]
                  have H := HD.out
                  rw [ed, colophonref20_Winner.decls] at H
                  obtain ⟨adn, eadn, hd0, hd1⟩ := at_T47 HI3.out (j : Int) (by omega) (by omega)
                  cases eadn
                  rw [Int.toNat_natCast] at hd0 hd1
                  replace hd0 := pw_cell_below HB.out hd0
                  replace hd1 := pw_cell_below HB.out hd1
                  obtain ⟨⟨dp, dv⟩, hd⟩ : ∃ x, rd_T47 dl (j : Int) = x := ⟨_, rfl⟩
                  rw [hd] at hd0 hd1 H
                  dsimp only at hd0 hd1 H
                  have HH3 := Aside0.mk H
                  have p7 : IntKind.i64.wrap ((j : Int) + 1) = (j : Int) + 1 := by have := HLD.out; rw [IntKind.wrap_i64]; omega
                  have n1 : decide ((j : Int) < (dl.length : Int)) = true := decide_eq_true (by omega)
                  have n2 : ((j : Int) < (dl.length : Int)) = True := eq_true (by omega)
                  have n3 : (0 ≤ (j : Int)) = True := eq_true (by omega)
                  have n4 : (j < dl.length) = True := eq_true hj
                  have n5 : decide (j < dl.length) = true := decide_eq_true hj
                  clear H hd ed HD hj
                  obtain ⟨cw, cv, d0, d1, d2⟩ := c
                  by_cases e1 : dp = a2
                  · subst e1
                    have HH4 : Aside0 (colophonref20_Winner.decls dp (x0, x1, x2) (dl.drop (j + 1)) ⟨true, dv, x0, x1, x2⟩ = c') := ⟨by have := HH3.out; rw [if_pos rfl] at this; exact this⟩
                    have u0 : wr.cell? ⟨b13, 0, none⟩ = some (.int .i64 x0) := (blk_cell Z13.out 0).trans rfl
                    have u1 : wr.cell? ⟨b13, 1, none⟩ = some (.int .i64 x1) := (blk_cell Z13.out 1).trans rfl
                    have u2 : wr.cell? ⟨b13, 2, none⟩ = some (.int .i64 x2) := (blk_cell Z13.out 2).trans rfl
                    have u3 : wr.cell? ⟨b10, 0, none⟩ = some (.int .i64 d0) := (blk_cell Z10.out 0).trans rfl
                    have u4 : wr.cell? ⟨b10, 1, none⟩ = some (.int .i64 d1) := (blk_cell Z10.out 1).trans rfl
                    have u5 : wr.cell? ⟨b10, 2, none⟩ = some (.int .i64 d2) := (blk_cell Z10.out 2).trans rfl
                    have f0 := blk_frozen Z10.out 0
                    have f1 := blk_frozen Z10.out 1
                    have f2 := blk_frozen Z10.out 2
                    clear HH3
                    go_wp2
                    go_region
                    all_goals go_wp2
                    all_goals go_roundg u
                    all_goals first | exact Nat.lt_succ_self u | exact ⟨j + 1, ⟨true, dv, x0, x1, x2⟩, rfl, rfl, by go_num, ⟨by have := HJ.out; omega⟩, HH4, ⟨St.drew_heap (blk_far (blk_far (blk_far Z13.out (Ne.symm HNE.out) _) (Ne.symm HNE.out) _) (Ne.symm HNE.out) _)⟩, ⟨St.drew_heap (St.three0 Z10.out)⟩, ⟨below_drew1 (below_set (below_set (below_set HB.out HG10.out) HG10.out) HG10.out)⟩⟩
                  · have e1b : (dp == a2) = false := beq_eq_false_iff_ne.mpr e1
                    have HH4 : Aside0 (colophonref20_Winner.decls a2 (x0, x1, x2) (dl.drop (j + 1)) ⟨cw, cv, d0, d1, d2⟩ = c') := ⟨by have := HH3.out; rw [if_neg e1] at this; exact this⟩
                    clear HH3 e1
                    go_wp2
                    go_roundg u
                    case measure => exact Nat.lt_succ_self u
                    case rel => exact ⟨j + 1, ⟨cw, cv, d0, d1, d2⟩, rfl, rfl, by go_num, ⟨by have := HJ.out; omega⟩, HH4, Z13, Z10, HB⟩
        | succ p =>
          have hj : j < sl.length := by have := HJ.out; omega
          have ed : sl.drop j = rd_T45 sl (j : Int) :: sl.drop (j + 1) := by
            rw [List.drop_eq_getElem_cons hj]
            simp [rd_T45, List.getD_eq_getElem?_getD, hj]
          have H := AS.out
          rw [ed, colophonref20_Winner.sel] at H
          obtain ⟨m, AM0, H⟩ := Option.bind_eq_some_iff.mp H
          obtain ⟨ad4, A4, c4, ead4, hx4, hl4, hi4⟩ := at_T45 HI2.out (j : Int) (by omega) (by omega)
          cases ead4
          rw [Int.toNat_natCast] at hx4
          have HX4 := Aside0.mk hx4
          replace hx4 := pw_cell_below HB.out hx4
          obtain ⟨ps, hps⟩ : ∃ z, (rd_T45 sl (j : Int)).f0 = z := ⟨_, rfl⟩
          rw [hps] at hx4 hl4 hi4 AM0 H HX4
          have AM := Aside0.mk AM0
          have HH3 := Aside0.mk H
          have HL4 := Aside0.mk hl4
          have HI4 := Aside0.mk hi4
          have n1 : decide ((j : Int) < (sl.length : Int)) = true := decide_eq_true (by omega)
          have n2 : ((j : Int) < (sl.length : Int)) = True := eq_true (by omega)
          have n3 : (0 ≤ (j : Int)) = True := eq_true (by omega)
          have n4 : (j < sl.length) = True := eq_true hj
          have n5 : decide (j < sl.length) = true := decide_eq_true hj
          have p7 : IntKind.i64.wrap ((j : Int) + 1) = (j : Int) + 1 := by have := HLS.out; rw [IntKind.wrap_i64]; omega
          clear AM0 H hps hl4 hi4 ed AS hj
          cases m with
          | false =>
            have HH4 : Aside0 (colophonref20_Winner.sel k l1 (sl.drop (j + 1)) X1 = some X) := ⟨HH3.out⟩
            clear HH3
            go_wp2_with (first | (go_at_call 21; (with_reducible refine (colophonref19_Match.calls k A4 c4 ps A1 c1 l1 false _ (Kd.C_below HI4.out HB.out) HL4.out (Kd.C_below HR1.out HB.out) HC1.out AM.out).mono ?_); rintro e w5 ⟨rfl, hb⟩; have n3_ := Aside0.mk ((hb.block b13 (blk_lt Z13.out)).trans Z13.out); have n1_ := Aside0.mk ((hb.block b10 (blk_lt Z10.out)).trans Z10.out); have nB_ := Aside0.mk (below_step HB.out hb); clear Z13 Z10 HB; have Z13 := n3_; have Z10 := n1_; have HB := nB_; clear n3_ n1_ nB_; clear hb y0 hx4; have y0 := pw_cell_below HB.out HX0.out.2; have hx4 := pw_cell_below HB.out HX4.out))
            go_roundg p
            case measure => exact Nat.lt_succ_self p
            case rel => exact ⟨j + 1, X1, rfl, by go_num, ⟨by have := HJ.out; omega⟩, HH4, Z13, Z10, HB⟩
          | true =>
            obtain ⟨⟨v0, v1, v2⟩, hw⟩ : ∃ z, wgt ps (0, 0, 0) = z := ⟨_, rfl⟩
            have AV : Aside0 (colophonref19_Weight.f ps = some (v0, v1, v2)) := ⟨congrArg some hw⟩
            have HH4 : Aside0 (colophonref20_Winner.sel k l1 (sl.drop (j + 1)) (if X1.2 = false ∨ St.ls X1.1 (v0, v1, v2) = true then (v0, v1, v2) else X1.1, true) = some X) := ⟨by have := HH3.out; rw [if_neg (by decide), hw] at this; exact this⟩
            clear HH3 hw
            obtain ⟨⟨x0, x1, x2⟩, xb⟩ := X1
            cases xb with
            | false =>
              have HH5 : Aside0 (colophonref20_Winner.sel k l1 (sl.drop (j + 1)) ((v0, v1, v2), true) = some X) := ⟨by have := HH4.out; rw [if_pos (.inl rfl)] at this; exact this⟩
              clear HH4
              go_wp2_with (first | (go_at_call 21; (with_reducible refine (colophonref19_Match.calls k A4 c4 ps A1 c1 l1 true _ (Kd.C_below HI4.out HB.out) HL4.out (Kd.C_below HR1.out HB.out) HC1.out AM.out).mono ?_); rintro e w5 ⟨rfl, hb⟩; have n3_ := Aside0.mk ((hb.block b13 (blk_lt Z13.out)).trans Z13.out); have n1_ := Aside0.mk ((hb.block b10 (blk_lt Z10.out)).trans Z10.out); have nB_ := Aside0.mk (below_step HB.out hb); clear Z13 Z10 HB; have Z13 := n3_; have Z10 := n1_; have HB := nB_; clear n3_ n1_ nB_; clear hb y0 hx4; have y0 := pw_cell_below HB.out HX0.out.2; have hx4 := pw_cell_below HB.out HX4.out) | (go_at_call 36; (with_reducible refine (colophonref19_Weight.calls A4 c4 ps v0 v1 v2 _ (Kd.C_below HI4.out HB.out) HL4.out AV.out).mono ?_); rintro e w6 ⟨rfl, hb⟩; have n3_ := Aside0.mk ((hb.block b13 (blk_lt Z13.out)).trans Z13.out); have n1_ := Aside0.mk ((hb.block b10 (blk_lt Z10.out)).trans Z10.out); have nB_ := Aside0.mk (below_step HB.out hb); clear Z13 Z10 HB; have Z13 := n3_; have Z10 := n1_; have HB := nB_; clear n3_ n1_ nB_; clear hb y0 hx4; have za : (w6.alloc (.cells #[.int .i64 v0, .int .i64 v1, .int .i64 v2] 71)).heap[b13]? = some (.cells #[.int .i64 x0, .int .i64 x1, .int .i64 x2] 71 (0, 0)) := ((below_alloc (Below.refl _ _) _).block b13 (blk_lt Z13.out)).trans Z13.out; have q0 : (w6.alloc (.cells #[.int .i64 v0, .int .i64 v1, .int .i64 v2] 71)).cell? ⟨b13, 0, none⟩ = some (.int .i64 x0) := (blk_cell za 0).trans rfl; have q1 : (w6.alloc (.cells #[.int .i64 v0, .int .i64 v1, .int .i64 v2] 71)).cell? ⟨b13, 1, none⟩ = some (.int .i64 x1) := (blk_cell za 1).trans rfl; have q2 : (w6.alloc (.cells #[.int .i64 v0, .int .i64 v1, .int .i64 v2] 71)).cell? ⟨b13, 2, none⟩ = some (.int .i64 x2) := (blk_cell za 2).trans rfl; have f0 := blk_frozen za 0; have f1 := blk_frozen za 1; have f2 := blk_frozen za 2; clear za))
              go_roundg p
              case measure => exact Nat.lt_succ_self p
              case rel => exact ⟨j + 1, ((v0, v1, v2), true), rfl, by go_num, ⟨by have := HJ.out; omega⟩, HH5, ⟨St.three0 (((below_alloc (Below.refl _ _) _).block b13 (blk_lt Z13.out)).trans Z13.out)⟩, ⟨blk_far (blk_far (blk_far (((below_alloc (Below.refl _ _) _).block b10 (blk_lt Z10.out)).trans Z10.out) HNE.out _) HNE.out _) HNE.out _⟩, ⟨below_set (below_set (below_set (below_alloc HB.out _) HG13.out) HG13.out) HG13.out⟩⟩
            | true =>
              obtain ⟨n_, hn_⟩ : ∃ n_, St.ls (x0, x1, x2) (v0, v1, v2) = n_ := ⟨_, rfl⟩
              have AN : Aside0 (colophonref20_less.f x0 x1 x2 v0 v1 v2 = some n_) := ⟨congrArg some hn_⟩
              cases n_ with
              | true =>
                have HH5 : Aside0 (colophonref20_Winner.sel k l1 (sl.drop (j + 1)) ((v0, v1, v2), true) = some X) := ⟨by have := HH4.out; rw [if_pos (.inr hn_)] at this; exact this⟩
                clear HH4 hn_
                go_wp2_with (first | (go_at_call 21; (with_reducible refine (colophonref19_Match.calls k A4 c4 ps A1 c1 l1 true _ (Kd.C_below HI4.out HB.out) HL4.out (Kd.C_below HR1.out HB.out) HC1.out AM.out).mono ?_); rintro e w5 ⟨rfl, hb⟩; have n3_ := Aside0.mk ((hb.block b13 (blk_lt Z13.out)).trans Z13.out); have n1_ := Aside0.mk ((hb.block b10 (blk_lt Z10.out)).trans Z10.out); have nB_ := Aside0.mk (below_step HB.out hb); clear Z13 Z10 HB; have Z13 := n3_; have Z10 := n1_; have HB := nB_; clear n3_ n1_ nB_; clear hb y0 hx4; have y0 := pw_cell_below HB.out HX0.out.2; have hx4 := pw_cell_below HB.out HX4.out) | (go_at_call 36; (with_reducible refine (colophonref19_Weight.calls A4 c4 ps v0 v1 v2 _ (Kd.C_below HI4.out HB.out) HL4.out AV.out).mono ?_); rintro e w6 ⟨rfl, hb⟩; have n3_ := Aside0.mk ((hb.block b13 (blk_lt Z13.out)).trans Z13.out); have n1_ := Aside0.mk ((hb.block b10 (blk_lt Z10.out)).trans Z10.out); have nB_ := Aside0.mk (below_step HB.out hb); clear Z13 Z10 HB; have Z13 := n3_; have Z10 := n1_; have HB := nB_; clear n3_ n1_ nB_; clear hb y0 hx4; have za : (w6.alloc (.cells #[.int .i64 v0, .int .i64 v1, .int .i64 v2] 71)).heap[b13]? = some (.cells #[.int .i64 x0, .int .i64 x1, .int .i64 x2] 71 (0, 0)) := ((below_alloc (Below.refl _ _) _).block b13 (blk_lt Z13.out)).trans Z13.out; have q0 : (w6.alloc (.cells #[.int .i64 v0, .int .i64 v1, .int .i64 v2] 71)).cell? ⟨b13, 0, none⟩ = some (.int .i64 x0) := (blk_cell za 0).trans rfl; have q1 : (w6.alloc (.cells #[.int .i64 v0, .int .i64 v1, .int .i64 v2] 71)).cell? ⟨b13, 1, none⟩ = some (.int .i64 x1) := (blk_cell za 1).trans rfl; have q2 : (w6.alloc (.cells #[.int .i64 v0, .int .i64 v1, .int .i64 v2] 71)).cell? ⟨b13, 2, none⟩ = some (.int .i64 x2) := (blk_cell za 2).trans rfl; have f0 := blk_frozen za 0; have f1 := blk_frozen za 1; have f2 := blk_frozen za 2; clear za) | (go_at_call 37; (with_reducible refine (colophonref20_less.calls x0 x1 x2 v0 v1 v2 _ _ AN.out).mono ?_); rintro e w7 ⟨rfl, hb0⟩; have hb := below_step (below_alloc (Below.refl w6.heap.size w6) _) hb0; have zc := (hb0.block w6.heap.size (by simp)).trans (heap_alloc_new w6 (.cells #[.int .i64 v0, .int .i64 v1, .int .i64 v2] 71)); have zc0 : w7.cell? ⟨w6.heap.size, 0, none⟩ = some (.int .i64 v0) := (blk_cell zc 0).trans rfl; have zc1 : w7.cell? ⟨w6.heap.size, 1, none⟩ = some (.int .i64 v1) := (blk_cell zc 1).trans rfl; have zc2 : w7.cell? ⟨w6.heap.size, 2, none⟩ = some (.int .i64 v2) := (blk_cell zc 2).trans rfl; clear zc q0 q1 q2 f0 f1 f2; have n3_ := Aside0.mk ((hb.block b13 (blk_lt Z13.out)).trans Z13.out); have n1_ := Aside0.mk ((hb.block b10 (blk_lt Z10.out)).trans Z10.out); have nB_ := Aside0.mk (below_step HB.out hb); clear Z13 Z10 HB; have Z13 := n3_; have Z10 := n1_; have HB := nB_; clear n3_ n1_ nB_; clear hb hb0; have q0 : w7.cell? ⟨b13, 0, none⟩ = some (.int .i64 x0) := (blk_cell Z13.out 0).trans rfl; have q1 : w7.cell? ⟨b13, 1, none⟩ = some (.int .i64 x1) := (blk_cell Z13.out 1).trans rfl; have q2 : w7.cell? ⟨b13, 2, none⟩ = some (.int .i64 x2) := (blk_cell Z13.out 2).trans rfl; have f0 := blk_frozen Z13.out 0; have f1 := blk_frozen Z13.out 1; have f2 := blk_frozen Z13.out 2))
                go_roundg p
                case measure => exact Nat.lt_succ_self p
                case rel => exact ⟨j + 1, ((v0, v1, v2), true), rfl, by go_num, ⟨by have := HJ.out; omega⟩, HH5, ⟨St.three0 Z13.out⟩, ⟨blk_far (blk_far (blk_far Z10.out HNE.out _) HNE.out _) HNE.out _⟩, ⟨below_set (below_set (below_set HB.out HG13.out) HG13.out) HG13.out⟩⟩
              | false =>
                have HH5 : Aside0 (colophonref20_Winner.sel k l1 (sl.drop (j + 1)) ((x0, x1, x2), true) = some X) := ⟨by have := HH4.out; rw [if_neg (fun z => z.elim (fun y => by simp at y) (fun y => by rw [hn_] at y; simp at y))] at this; exact this⟩
                clear HH4 hn_
                go_wp2_with (first | (go_at_call 21; (with_reducible refine (colophonref19_Match.calls k A4 c4 ps A1 c1 l1 true _ (Kd.C_below HI4.out HB.out) HL4.out (Kd.C_below HR1.out HB.out) HC1.out AM.out).mono ?_); rintro e w5 ⟨rfl, hb⟩; have n3_ := Aside0.mk ((hb.block b13 (blk_lt Z13.out)).trans Z13.out); have n1_ := Aside0.mk ((hb.block b10 (blk_lt Z10.out)).trans Z10.out); have nB_ := Aside0.mk (below_step HB.out hb); clear Z13 Z10 HB; have Z13 := n3_; have Z10 := n1_; have HB := nB_; clear n3_ n1_ nB_; clear hb y0 hx4; have y0 := pw_cell_below HB.out HX0.out.2; have hx4 := pw_cell_below HB.out HX4.out) | (go_at_call 36; (with_reducible refine (colophonref19_Weight.calls A4 c4 ps v0 v1 v2 _ (Kd.C_below HI4.out HB.out) HL4.out AV.out).mono ?_); rintro e w6 ⟨rfl, hb⟩; have n3_ := Aside0.mk ((hb.block b13 (blk_lt Z13.out)).trans Z13.out); have n1_ := Aside0.mk ((hb.block b10 (blk_lt Z10.out)).trans Z10.out); have nB_ := Aside0.mk (below_step HB.out hb); clear Z13 Z10 HB; have Z13 := n3_; have Z10 := n1_; have HB := nB_; clear n3_ n1_ nB_; clear hb y0 hx4; have za : (w6.alloc (.cells #[.int .i64 v0, .int .i64 v1, .int .i64 v2] 71)).heap[b13]? = some (.cells #[.int .i64 x0, .int .i64 x1, .int .i64 x2] 71 (0, 0)) := ((below_alloc (Below.refl _ _) _).block b13 (blk_lt Z13.out)).trans Z13.out; have q0 : (w6.alloc (.cells #[.int .i64 v0, .int .i64 v1, .int .i64 v2] 71)).cell? ⟨b13, 0, none⟩ = some (.int .i64 x0) := (blk_cell za 0).trans rfl; have q1 : (w6.alloc (.cells #[.int .i64 v0, .int .i64 v1, .int .i64 v2] 71)).cell? ⟨b13, 1, none⟩ = some (.int .i64 x1) := (blk_cell za 1).trans rfl; have q2 : (w6.alloc (.cells #[.int .i64 v0, .int .i64 v1, .int .i64 v2] 71)).cell? ⟨b13, 2, none⟩ = some (.int .i64 x2) := (blk_cell za 2).trans rfl; have f0 := blk_frozen za 0; have f1 := blk_frozen za 1; have f2 := blk_frozen za 2; clear za) | (go_at_call 37; (with_reducible refine (colophonref20_less.calls x0 x1 x2 v0 v1 v2 _ _ AN.out).mono ?_); rintro e w7 ⟨rfl, hb0⟩; have hb := below_step (below_alloc (Below.refl w6.heap.size w6) _) hb0; have zc := (hb0.block w6.heap.size (by simp)).trans (heap_alloc_new w6 (.cells #[.int .i64 v0, .int .i64 v1, .int .i64 v2] 71)); have zc0 : w7.cell? ⟨w6.heap.size, 0, none⟩ = some (.int .i64 v0) := (blk_cell zc 0).trans rfl; have zc1 : w7.cell? ⟨w6.heap.size, 1, none⟩ = some (.int .i64 v1) := (blk_cell zc 1).trans rfl; have zc2 : w7.cell? ⟨w6.heap.size, 2, none⟩ = some (.int .i64 v2) := (blk_cell zc 2).trans rfl; clear zc q0 q1 q2 f0 f1 f2; have n3_ := Aside0.mk ((hb.block b13 (blk_lt Z13.out)).trans Z13.out); have n1_ := Aside0.mk ((hb.block b10 (blk_lt Z10.out)).trans Z10.out); have nB_ := Aside0.mk (below_step HB.out hb); clear Z13 Z10 HB; have Z13 := n3_; have Z10 := n1_; have HB := nB_; clear n3_ n1_ nB_; clear hb hb0; have q0 : w7.cell? ⟨b13, 0, none⟩ = some (.int .i64 x0) := (blk_cell Z13.out 0).trans rfl; have q1 : w7.cell? ⟨b13, 1, none⟩ = some (.int .i64 x1) := (blk_cell Z13.out 1).trans rfl; have q2 : w7.cell? ⟨b13, 2, none⟩ = some (.int .i64 x2) := (blk_cell Z13.out 2).trans rfl; have f0 := blk_frozen Z13.out 0; have f1 := blk_frozen Z13.out 1; have f2 := blk_frozen Z13.out 2))
                go_roundg p
                case measure => exact Nat.lt_succ_self p
                case rel => exact ⟨j + 1, ((x0, x1, x2), true), rfl, by go_num, ⟨by have := HJ.out; omega⟩, HH5, Z13, Z10, HB⟩

/-! ### colophonkeep_Texts: function 26 -/
def colophonkeep_Texts.l0 : Nat → List ByteArray → List ByteArray → Int → Option (Bool)
  | 0, _, _, _ => none
  | k + 1, x0, x1, x5 => if x5 < (x0.length : Int) then (if 0 ≤ x5 then (if x5 < (x1.length : Int) then (if (rdOf ByteArray.empty x0 x5).toList = (rdOf ByteArray.empty x1 x5).toList then (colophonkeep_Texts.l0 k x0 x1 (wrap64 (x5 + 1))) else (some false)) else (none)) else (none)) else (some true)
def colophonkeep_Texts.f (k : Nat) (l0 : List ByteArray) (l1 : List ByteArray) : Option (Bool) := if (l0.length : Int) = (l1.length : Int) then (colophonkeep_Texts.l0 k l0 l1 0) else (some false)
theorem colophonkeep_Texts.mono_l : ∀ k, (∀ y0 y1 y2, LeO (colophonkeep_Texts.l0 k y0 y1 y2) (colophonkeep_Texts.l0 (k + 1) y0 y1 y2))
  | 0 => fun _ _ _ r h => by simp [colophonkeep_Texts.l0] at h
  | k + 1 => by
    have ih0 := colophonkeep_Texts.mono_l k
    · intro y0 y1 y2
      unfold colophonkeep_Texts.l0
      repeat' first
      | (with_reducible exact ih0 _ _ _)
      | (with_reducible exact LeO.refl _)
      | (with_reducible exact LeO.none _)
      | (with_reducible refine LeO.ite ?_ ?_)
      | (with_reducible refine LeO.bind ?_ (fun _ => ?_))
      | exact ih0 _ _ _
      | exact LeO.none _
      | refine LeO.ite ?_ ?_
      | refine LeO.bind ?_ (fun _ => ?_)
theorem colophonkeep_Texts.mono : ∀ a0 a1 k, LeO (colophonkeep_Texts.f k a0 a1) (colophonkeep_Texts.f (k + 1) a0 a1) := by
  intro a0 a1 k
  have ih0 := colophonkeep_Texts.mono_l k
  unfold colophonkeep_Texts.f
  repeat' first
      | (with_reducible exact ih0 _ _ _)
      | (with_reducible exact LeO.refl _)
      | (with_reducible exact LeO.none _)
      | (with_reducible refine LeO.ite ?_ ?_)
      | (with_reducible refine LeO.bind ?_ (fun _ => ?_))
      | exact ih0 _ _ _
      | exact LeO.none _
      | refine LeO.ite ?_ ?_
      | refine LeO.bind ?_ (fun _ => ?_)
set_option maxHeartbeats 8000000 in
set_option maxRecDepth 100000 in
theorem colophonkeep_Texts.calls (k : Nat) (A0 : Option Addr) (c0 : Nat) (l0 : List ByteArray) (A1 : Option Addr) (c1 : Nat) (l1 : List ByteArray) (r : Bool) (w : World) (hr0 : Kd.C Kd.string w A0 l0.length l0) (hc0 : l0.length ≤ c0) (hr1 : Kd.C Kd.string w A1 l1.length l1) (hc1 : l1.length ≤ c1) (h : colophonkeep_Texts.f k l0 l1 = some r) :
    Calls Try.prog 26 #[.slice A0 l0.length c0, .slice A1 l1.length c1] w fun e w' => e = .returned (.bool r) ∧ Drawn0 w w' := by
  have HR0 := Aside0.mk hr0
  have HC0 := Aside0.mk hc0
  clear hr0 hc0
  have HR1 := Aside0.mk hr1
  have HC1 := Aside0.mk hc1
  clear hr1 hc1
  have H : (if (l0.length : Int) = (l1.length : Int) then (colophonkeep_Texts.l0 k l0 l1 0) else (some false)) = some r := h
  clear h
  by_cases c3 : (l0.length : Int) = (l1.length : Int)
  · rw [if_pos c3] at H
    have c3b0 : ((l0.length : Int) == (l1.length : Int)) = true := beq_iff_eq.mpr c3
    have c3b1 : ((l0.length : Int) != (l1.length : Int)) = false := bne_eq_false_iff_eq.mpr c3
    have c3b2 : (l0.length == l1.length) = true := by first | simpa using c3 | (simp at c3 ⊢; omega)
    clear c3
    have H' := Aside0.mk H
    clear H
    go_enter Try.func26, Try.ntmps26
    go_wp2
    repeat (go_quiet (fail); try go_wp2)
    go_loopg [5] k (fun kq v5 w' => ∃ (x5_1 : Int), v5 = .int .i64 x5_1 ∧ Aside0 (colophonkeep_Texts.l0 kq l0 l1 x5_1 = some r) ∧ Aside0 (kq ≤ k) ∧ Drawn0 w w')
    case atStart => exact ⟨(0), (by first | rfl | (simp; done) | (simp [*]; done)), H', ⟨Nat.le_refl _⟩, by repeat (first | exact Drawn0.refl _ | apply Drawn0.step)⟩
    case round =>
      clear H'
      try clear c1
      try clear c2
      try clear p2
      try clear c3
      try clear c3b0
      try clear c3b1
      try clear c3b2
      obtain ⟨x5_1, rfl, HA, HK1, ⟨m1, rfl⟩⟩ := hrel
      cases gk with
      | zero => exact absurd HA.out (by simp [colophonkeep_Texts.l0])
      | succ k1 =>
        have H := HA.out
        clear HA
        simp only [colophonkeep_Texts.l0] at H
        by_cases c4 : x5_1 < (l0.length : Int)
        · rw [if_pos c4] at H
          have c4b0 : decide (x5_1 < (l0.length : Int)) = true := decide_eq_true c4
          clear c4
          by_cases c5 : 0 ≤ x5_1
          · rw [if_pos c5] at H
            have c5b0 : decide (0 ≤ x5_1) = true := decide_eq_true c5
            clear c5
            by_cases c6 : x5_1 < (l1.length : Int)
            · rw [if_pos c6] at H
              have c6b0 : decide (x5_1 < (l1.length : Int)) = true := decide_eq_true c6
              clear c6
              by_cases c7 : (rdOf ByteArray.empty l0 x5_1).toList = (rdOf ByteArray.empty l1 x5_1).toList
              · rw [if_pos c7] at H
                have c7b0 : ((rdOf ByteArray.empty l0 x5_1).toList == (rdOf ByteArray.empty l1 x5_1).toList) = true := beq_iff_eq.mpr c7
                have c7b1 : ((rdOf ByteArray.empty l0 x5_1).toList != (rdOf ByteArray.empty l1 x5_1).toList) = false := bne_eq_false_iff_eq.mpr c7
                clear c7
                have H' := Aside0.mk H
                clear H
                have p237 : 0 ≤ (x5_1 : Int) := of_decide_eq_true (by first | (with_reducible assumption) | assumption)
                have q237 : x5_1 < (l0.length : Int) := of_decide_eq_true (by first | (with_reducible assumption) | assumption)
                obtain ⟨ad237, e237, hx237_0⟩ := Kd.at_string HR0.out x5_1 p237 q237
                cases e237
                replace p237 := eq_true p237
                replace q237 := eq_true q237
                have p238 : 0 ≤ (x5_1 : Int) := of_decide_eq_true (by first | (with_reducible assumption) | assumption)
                have q238 : x5_1 < (l1.length : Int) := of_decide_eq_true (by first | (with_reducible assumption) | assumption)
                obtain ⟨ad238, e238, hx238_0⟩ := Kd.at_string HR1.out x5_1 p238 q238
                cases e238
                replace p238 := eq_true p238
                replace q238 := eq_true q238
                go_wp2
                repeat (go_quiet (fail); try go_wp2)
                go_roundg k1
                case measure => have := HK1.out; omega
                case rel => exact ⟨(wrap64 (x5_1 + 1)), (by first | rfl | (simp; done) | (simp [*]; done)), H', ⟨by have := HK1.out; omega⟩, by repeat (first | exact Drawn0.refl _ | apply Drawn0.step)⟩
              · rw [if_neg c7] at H
                have c7b0 : ((rdOf ByteArray.empty l0 x5_1).toList == (rdOf ByteArray.empty l1 x5_1).toList) = false := beq_eq_false_iff_ne.mpr c7
                have c7b1 : ((rdOf ByteArray.empty l0 x5_1).toList != (rdOf ByteArray.empty l1 x5_1).toList) = true := bne_iff_ne.mpr c7
                obtain rfl := Option.some.inj H
                have p237 : 0 ≤ (x5_1 : Int) := of_decide_eq_true (by first | (with_reducible assumption) | assumption)
                have q237 : x5_1 < (l0.length : Int) := of_decide_eq_true (by first | (with_reducible assumption) | assumption)
                obtain ⟨ad237, e237, hx237_0⟩ := Kd.at_string HR0.out x5_1 p237 q237
                cases e237
                replace p237 := eq_true p237
                replace q237 := eq_true q237
                have p238 : 0 ≤ (x5_1 : Int) := of_decide_eq_true (by first | (with_reducible assumption) | assumption)
                have q238 : x5_1 < (l1.length : Int) := of_decide_eq_true (by first | (with_reducible assumption) | assumption)
                obtain ⟨ad238, e238, hx238_0⟩ := Kd.at_string HR1.out x5_1 p238 q238
                cases e238
                replace p238 := eq_true p238
                replace q238 := eq_true q238
                go_wp2
                repeat (go_quiet (fail); try go_wp2)
                go_ret
                exact ⟨by first | rfl | (simp; done) | (simp [*]; done), by repeat (first | exact Drawn0.refl _ | apply Drawn0.step)⟩
            · rw [if_neg c6] at H
              exact absurd H (by simp)
          · rw [if_neg c5] at H
            exact absurd H (by simp)
        · rw [if_neg c4] at H
          have c4b0 : decide (x5_1 < (l0.length : Int)) = false := decide_eq_false c4
          clear c4
          obtain rfl := Option.some.inj H
          go_wp2
          repeat (go_quiet (fail); try go_wp2)
          go_ret
          exact ⟨by first | rfl | (simp; done) | (simp [*]; done), by repeat (first | exact Drawn0.refl _ | apply Drawn0.step)⟩
  · rw [if_neg c3] at H
    have c3b0 : ((l0.length : Int) == (l1.length : Int)) = false := beq_eq_false_iff_ne.mpr c3
    have c3b1 : ((l0.length : Int) != (l1.length : Int)) = true := bne_iff_ne.mpr c3
    have c3b2 : (l0.length == l1.length) = false := by first | simpa using c3 | (simp at c3 ⊢; omega)
    obtain rfl := Option.some.inj H
    go_enter Try.func26, Try.ntmps26
    go_wp2
    repeat (go_quiet (fail); try go_wp2)
    go_ret
    exact ⟨by first | rfl | (simp; done) | (simp [*]; done), by repeat (first | exact Drawn0.refl _ | apply Drawn0.step)⟩

/-! ### colophonref19_SamePart: function 55 -/
def colophonref19_SamePart.f (k : Nat) (a0_0 : ByteArray) (a0_1 : ByteArray) (l0_2 : List ByteArray) (a0_3 : Bool) (a1_0 : ByteArray) (a1_1 : ByteArray) (l1_2 : List ByteArray) (a1_3 : Bool) : Option (Bool) := if a0_0.toList = a1_0.toList then (if a0_1.toList = a1_1.toList then (if (a0_3 == a1_3) = true then ((colophonkeep_Texts.f k l0_2 l1_2).bind fun t241 => (some t241)) else (some false)) else (some false)) else (some false)
theorem colophonref19_SamePart.mono : ∀ a0 a1 a2 a3 a4 a5 a6 a7 k, LeO (colophonref19_SamePart.f k a0 a1 a2 a3 a4 a5 a6 a7) (colophonref19_SamePart.f (k + 1) a0 a1 a2 a3 a4 a5 a6 a7) := by
  intro a0 a1 a2 a3 a4 a5 a6 a7 k
  unfold colophonref19_SamePart.f
  repeat' first
      | (with_reducible exact colophonkeep_Texts.mono _ _ _)
      | (with_reducible exact LeO.refl _)
      | (with_reducible exact LeO.none _)
      | (with_reducible refine LeO.ite ?_ ?_)
      | (with_reducible refine LeO.bind ?_ (fun _ => ?_))
      | exact colophonkeep_Texts.mono _ _ _
      | exact LeO.none _
      | refine LeO.ite ?_ ?_
      | refine LeO.bind ?_ (fun _ => ?_)
set_option maxHeartbeats 8000000 in
set_option maxRecDepth 100000 in
theorem colophonref19_SamePart.calls (k : Nat) (a0_0 : ByteArray) (a0_1 : ByteArray) (A0_2 : Option Addr) (c0_2 : Nat) (l0_2 : List ByteArray) (a0_3 : Bool) (a1_0 : ByteArray) (a1_1 : ByteArray) (A1_2 : Option Addr) (c1_2 : Nat) (l1_2 : List ByteArray) (a1_3 : Bool) (r : Bool) (w : World) (hr0_2 : Kd.C Kd.string w A0_2 l0_2.length l0_2) (hc0_2 : l0_2.length ≤ c0_2) (hr1_2 : Kd.C Kd.string w A1_2 l1_2.length l1_2) (hc1_2 : l1_2.length ≤ c1_2) (h : colophonref19_SamePart.f k a0_0 a0_1 l0_2 a0_3 a1_0 a1_1 l1_2 a1_3 = some r) :
    Calls Try.prog 55 #[.agg #[.string a0_0, .string a0_1, .slice A0_2 l0_2.length c0_2, .bool a0_3], .agg #[.string a1_0, .string a1_1, .slice A1_2 l1_2.length c1_2, .bool a1_3]] w fun e w' => e = .returned (.bool r) ∧ Below w.heap.size w w' := by
  have hu78 := Try.underlying78
  have HR0_2 := Aside0.mk hr0_2
  have HC0_2 := Aside0.mk hc0_2
  clear hr0_2 hc0_2
  have HR1_2 := Aside0.mk hr1_2
  have HC1_2 := Aside0.mk hc1_2
  clear hr1_2 hc1_2
  have HB := Aside0.mk (Below.refl w.heap.size w)
  have H : (if a0_0.toList = a1_0.toList then (if a0_1.toList = a1_1.toList then (if (a0_3 == a1_3) = true then ((colophonkeep_Texts.f k l0_2 l1_2).bind fun t241 => (some t241)) else (some false)) else (some false)) else (some false)) = some r := h
  clear h
  by_cases c3 : a0_0.toList = a1_0.toList
  · rw [if_pos c3] at H
    have c3b0 : (a0_0.toList == a1_0.toList) = true := beq_iff_eq.mpr c3
    have c3b1 : (a0_0.toList != a1_0.toList) = false := bne_eq_false_iff_eq.mpr c3
    clear c3
    by_cases c4 : a0_1.toList = a1_1.toList
    · rw [if_pos c4] at H
      have c4b0 : (a0_1.toList == a1_1.toList) = true := beq_iff_eq.mpr c4
      have c4b1 : (a0_1.toList != a1_1.toList) = false := bne_eq_false_iff_eq.mpr c4
      clear c4
      by_cases c5 : (a0_3 == a1_3) = true
      · rw [if_pos c5] at H
        have c5b0 : (a0_3 == a1_3) = true := c5
        (try (have c5b1 : decide (a0_3 = a1_3) = true := by simpa using c5))
        (try (have c5b2 : (a0_3 == a1_3) = true := by simpa using c5))
        clear c5
        replace H := Option.bind_eq_some_iff.mp H
        obtain ⟨t241, A60, H⟩ := H
        replace H : (some t241) = some r := H
        have A6 := Aside0.mk A60
        clear A60
        obtain rfl := Option.some.inj H
        go_enter Try.func55, Try.ntmps55
        go_wp2_with (first | ((with_reducible refine gate_dst (N := 2) rfl ?_); refine box_event ?hg (N := 2) ?hd (cs := #[.string a0_0, .string a0_1, .slice A0_2 l0_2.length c0_2, .bool a0_3]) (t := 78) ?hr ?_; (case hd => rfl); (case hg => rfl); (case hr => first | (go_simp; done) | (go_simp; rfl)); intro gb239 hg w7 hbox hb; have n0_ := Aside0.mk (below_step (by repeat (first | (with_reducible first | exact HB.out | apply below_alloc | apply pw_below_drewN | apply below_drew1) | exact HB.out)) hb); have n1_ := Aside0.mk (hbox); have n2_ := Aside0.mk ((by rw [hg]; exact (below_size (by repeat (first | (with_reducible first | exact HB.out | apply below_alloc | apply pw_below_drewN | apply below_drew1) | exact HB.out))) : w.heap.size ≤ gb239)); have n3_ := Aside0.mk ((by rw [hg]; exact (below_size (by repeat (first | (with_reducible first | exact HB.out | apply below_alloc | apply pw_below_drewN | apply below_drew1) | exact HB.out))) : w.heap.size ≤ gb239)); clear HB; have HB := n0_; have BK239 := n1_; have GW239 := n2_; have GE239 := n3_; clear n0_ n1_ n2_ n3_; clear hb hbox hg) | ((with_reducible refine gate_dst (N := 3) rfl ?_); refine box_event ?hg (N := 3) ?hd (cs := #[.string a1_0, .string a1_1, .slice A1_2 l1_2.length c1_2, .bool a1_3]) (t := 78) ?hr ?_; (case hd => rfl); (case hg => rfl); (case hr => first | (go_simp; done) | (go_simp; rfl)); intro gb240 hg w8 hbox hb; have n0_ := Aside0.mk (blk_below (g := gb239) (o := .cells #[.string a0_0, .string a0_1, .slice A0_2 l0_2.length c0_2, .bool a0_3] 78 (0, 0)) (by (with_reducible repeat (first | refine blk_drewN ?_ _ | refine blk_drew ?_ | refine blk_alloc ?_ _)); exact BK239.out) hb); have n1_ := Aside0.mk (below_step (by repeat (first | (with_reducible first | exact HB.out | apply below_alloc | apply pw_below_drewN | apply below_drew1 | refine below_set ?_ GE239.out) | exact HB.out)) hb); have n2_ := Aside0.mk (hbox); have n3_ := Aside0.mk ((by rw [hg]; exact (below_size (by repeat (first | (with_reducible first | exact HB.out | apply below_alloc | apply pw_below_drewN | apply below_drew1 | refine below_set ?_ GE239.out) | exact HB.out))) : w.heap.size ≤ gb240)); have n4_ := Aside0.mk ((by rw [hg]; exact (below_size (by repeat (first | (with_reducible first | exact HB.out | apply below_alloc | apply pw_below_drewN | apply below_drew1 | refine below_set ?_ GE239.out) | exact HB.out))) : w.heap.size ≤ gb240)); have n5_ := Aside0.mk ((by rw [hg]; exact Nat.ne_of_lt (blk_lt (g := gb239) (o := .cells #[.string a0_0, .string a0_1, .slice A0_2 l0_2.length c0_2, .bool a0_3] 78 (0, 0)) (by (with_reducible repeat (first | refine blk_drewN ?_ _ | refine blk_drew ?_ | refine blk_alloc ?_ _)); exact BK239.out)) : gb239 ≠ gb240)); have n6_ := Aside0.mk ((by rw [hg]; exact Nat.ne_of_gt (blk_lt (g := gb239) (o := .cells #[.string a0_0, .string a0_1, .slice A0_2 l0_2.length c0_2, .bool a0_3] 78 (0, 0)) (by (with_reducible repeat (first | refine blk_drewN ?_ _ | refine blk_drew ?_ | refine blk_alloc ?_ _)); exact BK239.out)) : gb240 ≠ gb239)); clear BK239; clear HB; have BK239 := n0_; have HB := n1_; have BK240 := n2_; have GW240 := n3_; have GE240 := n4_; have NB239_240 := n5_; have NB240_239 := n6_; clear n0_ n1_ n2_ n3_ n4_ n5_ n6_; clear hb hbox hg; have hnb9 := NB239_240.out; have hnc9 := NB240_239.out; have hcz10_0 : w8.cell? ⟨gb239, 0, none⟩ = some (.string a0_0) := (blk_cell BK239.out 0).trans rfl; have hcz10_1 : w8.cell? ⟨gb239, 1, none⟩ = some (.string a0_1) := (blk_cell BK239.out 1).trans rfl; have hcz10_2 : w8.cell? ⟨gb239, 2, none⟩ = some (.slice A0_2 l0_2.length c0_2) := (blk_cell BK239.out 2).trans rfl; have hcz10_3 : w8.cell? ⟨gb239, 3, none⟩ = some (.bool a0_3) := (blk_cell BK239.out 3).trans rfl; have hfz10_0 := blk_frozen BK239.out 0; have hfz10_1 := blk_frozen BK239.out 1; have hfz10_2 := blk_frozen BK239.out 2; have hfz10_3 := blk_frozen BK239.out 3; have hcz11_0 : w8.cell? ⟨gb240, 0, none⟩ = some (.string a1_0) := (blk_cell BK240.out 0).trans rfl; have hcz11_1 : w8.cell? ⟨gb240, 1, none⟩ = some (.string a1_1) := (blk_cell BK240.out 1).trans rfl; have hcz11_2 : w8.cell? ⟨gb240, 2, none⟩ = some (.slice A1_2 l1_2.length c1_2) := (blk_cell BK240.out 2).trans rfl; have hcz11_3 : w8.cell? ⟨gb240, 3, none⟩ = some (.bool a1_3) := (blk_cell BK240.out 3).trans rfl; have hfz11_0 := blk_frozen BK240.out 0; have hfz11_1 := blk_frozen BK240.out 1; have hfz11_2 := blk_frozen BK240.out 2; have hfz11_3 := blk_frozen BK240.out 3) | (go_at_call 26; (with_reducible refine (colophonkeep_Texts.calls k _ _ l0_2 _ _ l1_2 t241 _ ?side1 ?side2 ?side3 ?side4 A6.out).mono ?_); (case side1 => repeat (first | exact (Kd.C_below HR0_2.out HB.out) | (with_reducible refine Kd.C_alloc ?_ _) | (with_reducible refine Kd.C_drewN ?_ _) | (with_reducible refine Kd.C_drew ?_))); (case side2 => exact HC0_2.out); (case side3 => repeat (first | exact (Kd.C_below HR1_2.out HB.out) | (with_reducible refine Kd.C_alloc ?_ _) | (with_reducible refine Kd.C_drewN ?_ _) | (with_reducible refine Kd.C_drew ?_))); (case side4 => exact HC1_2.out); rintro e w' ⟨rfl, ⟨nd, rfl⟩⟩))
        go_ret
        exact ⟨by first | rfl | (simp [errW_none, errW_some] <;> rfl) | (simp [*, errW_none, errW_some] <;> rfl), by repeat (first | (with_reducible first | exact HB.out | apply below_alloc | apply pw_below_drewN | apply below_drew1 | refine below_set ?_ GE239.out | refine below_set ?_ GE240.out) | exact HB.out)⟩
      · rw [if_neg c5] at H
        have c5b0 : (a0_3 == a1_3) = false := by simpa using c5
        (try (have c5b1 : decide (a0_3 = a1_3) = false := by simpa using c5))
        (try (have c5b2 : (a0_3 == a1_3) = false := by simpa using c5))
        (try (have c5b3 : ¬ (a0_3 = a1_3) := by simpa using c5))
        clear c5
        obtain rfl := Option.some.inj H
        go_enter Try.func55, Try.ntmps55
        go_wp2_with (first | ((with_reducible refine gate_dst (N := 2) rfl ?_); refine box_event ?hg (N := 2) ?hd (cs := #[.string a0_0, .string a0_1, .slice A0_2 l0_2.length c0_2, .bool a0_3]) (t := 78) ?hr ?_; (case hd => rfl); (case hg => rfl); (case hr => first | (go_simp; done) | (go_simp; rfl)); intro gb239 hg w12 hbox hb; have n0_ := Aside0.mk (below_step (by repeat (first | (with_reducible first | exact HB.out | apply below_alloc | apply pw_below_drewN | apply below_drew1) | exact HB.out)) hb); have n1_ := Aside0.mk (hbox); have n2_ := Aside0.mk ((by rw [hg]; exact (below_size (by repeat (first | (with_reducible first | exact HB.out | apply below_alloc | apply pw_below_drewN | apply below_drew1) | exact HB.out))) : w.heap.size ≤ gb239)); have n3_ := Aside0.mk ((by rw [hg]; exact (below_size (by repeat (first | (with_reducible first | exact HB.out | apply below_alloc | apply pw_below_drewN | apply below_drew1) | exact HB.out))) : w.heap.size ≤ gb239)); clear HB; have HB := n0_; have BK239 := n1_; have GW239 := n2_; have GE239 := n3_; clear n0_ n1_ n2_ n3_; clear hb hbox hg) | ((with_reducible refine gate_dst (N := 3) rfl ?_); refine box_event ?hg (N := 3) ?hd (cs := #[.string a1_0, .string a1_1, .slice A1_2 l1_2.length c1_2, .bool a1_3]) (t := 78) ?hr ?_; (case hd => rfl); (case hg => rfl); (case hr => first | (go_simp; done) | (go_simp; rfl)); intro gb240 hg w13 hbox hb; have n0_ := Aside0.mk (blk_below (g := gb239) (o := .cells #[.string a0_0, .string a0_1, .slice A0_2 l0_2.length c0_2, .bool a0_3] 78 (0, 0)) (by (with_reducible repeat (first | refine blk_drewN ?_ _ | refine blk_drew ?_ | refine blk_alloc ?_ _)); exact BK239.out) hb); have n1_ := Aside0.mk (below_step (by repeat (first | (with_reducible first | exact HB.out | apply below_alloc | apply pw_below_drewN | apply below_drew1 | refine below_set ?_ GE239.out) | exact HB.out)) hb); have n2_ := Aside0.mk (hbox); have n3_ := Aside0.mk ((by rw [hg]; exact (below_size (by repeat (first | (with_reducible first | exact HB.out | apply below_alloc | apply pw_below_drewN | apply below_drew1 | refine below_set ?_ GE239.out) | exact HB.out))) : w.heap.size ≤ gb240)); have n4_ := Aside0.mk ((by rw [hg]; exact (below_size (by repeat (first | (with_reducible first | exact HB.out | apply below_alloc | apply pw_below_drewN | apply below_drew1 | refine below_set ?_ GE239.out) | exact HB.out))) : w.heap.size ≤ gb240)); have n5_ := Aside0.mk ((by rw [hg]; exact Nat.ne_of_lt (blk_lt (g := gb239) (o := .cells #[.string a0_0, .string a0_1, .slice A0_2 l0_2.length c0_2, .bool a0_3] 78 (0, 0)) (by (with_reducible repeat (first | refine blk_drewN ?_ _ | refine blk_drew ?_ | refine blk_alloc ?_ _)); exact BK239.out)) : gb239 ≠ gb240)); have n6_ := Aside0.mk ((by rw [hg]; exact Nat.ne_of_gt (blk_lt (g := gb239) (o := .cells #[.string a0_0, .string a0_1, .slice A0_2 l0_2.length c0_2, .bool a0_3] 78 (0, 0)) (by (with_reducible repeat (first | refine blk_drewN ?_ _ | refine blk_drew ?_ | refine blk_alloc ?_ _)); exact BK239.out)) : gb240 ≠ gb239)); clear BK239; clear HB; have BK239 := n0_; have HB := n1_; have BK240 := n2_; have GW240 := n3_; have GE240 := n4_; have NB239_240 := n5_; have NB240_239 := n6_; clear n0_ n1_ n2_ n3_ n4_ n5_ n6_; clear hb hbox hg; have hnb14 := NB239_240.out; have hnc14 := NB240_239.out; have hcz15_0 : w13.cell? ⟨gb239, 0, none⟩ = some (.string a0_0) := (blk_cell BK239.out 0).trans rfl; have hcz15_1 : w13.cell? ⟨gb239, 1, none⟩ = some (.string a0_1) := (blk_cell BK239.out 1).trans rfl; have hcz15_2 : w13.cell? ⟨gb239, 2, none⟩ = some (.slice A0_2 l0_2.length c0_2) := (blk_cell BK239.out 2).trans rfl; have hcz15_3 : w13.cell? ⟨gb239, 3, none⟩ = some (.bool a0_3) := (blk_cell BK239.out 3).trans rfl; have hfz15_0 := blk_frozen BK239.out 0; have hfz15_1 := blk_frozen BK239.out 1; have hfz15_2 := blk_frozen BK239.out 2; have hfz15_3 := blk_frozen BK239.out 3; have hcz16_0 : w13.cell? ⟨gb240, 0, none⟩ = some (.string a1_0) := (blk_cell BK240.out 0).trans rfl; have hcz16_1 : w13.cell? ⟨gb240, 1, none⟩ = some (.string a1_1) := (blk_cell BK240.out 1).trans rfl; have hcz16_2 : w13.cell? ⟨gb240, 2, none⟩ = some (.slice A1_2 l1_2.length c1_2) := (blk_cell BK240.out 2).trans rfl; have hcz16_3 : w13.cell? ⟨gb240, 3, none⟩ = some (.bool a1_3) := (blk_cell BK240.out 3).trans rfl; have hfz16_0 := blk_frozen BK240.out 0; have hfz16_1 := blk_frozen BK240.out 1; have hfz16_2 := blk_frozen BK240.out 2; have hfz16_3 := blk_frozen BK240.out 3))
        go_ret
        exact ⟨by first | rfl | (simp [errW_none, errW_some] <;> rfl) | (simp [*, errW_none, errW_some] <;> rfl), by repeat (first | (with_reducible first | exact HB.out | apply below_alloc | apply pw_below_drewN | apply below_drew1 | refine below_set ?_ GE239.out | refine below_set ?_ GE240.out) | exact HB.out)⟩
    · rw [if_neg c4] at H
      have c4b0 : (a0_1.toList == a1_1.toList) = false := beq_eq_false_iff_ne.mpr c4
      have c4b1 : (a0_1.toList != a1_1.toList) = true := bne_iff_ne.mpr c4
      obtain rfl := Option.some.inj H
      go_enter Try.func55, Try.ntmps55
      go_wp2_with (first | ((with_reducible refine gate_dst (N := 2) rfl ?_); refine box_event ?hg (N := 2) ?hd (cs := #[.string a0_0, .string a0_1, .slice A0_2 l0_2.length c0_2, .bool a0_3]) (t := 78) ?hr ?_; (case hd => rfl); (case hg => rfl); (case hr => first | (go_simp; done) | (go_simp; rfl)); intro gb239 hg w17 hbox hb; have n0_ := Aside0.mk (below_step (by repeat (first | (with_reducible first | exact HB.out | apply below_alloc | apply pw_below_drewN | apply below_drew1) | exact HB.out)) hb); have n1_ := Aside0.mk (hbox); have n2_ := Aside0.mk ((by rw [hg]; exact (below_size (by repeat (first | (with_reducible first | exact HB.out | apply below_alloc | apply pw_below_drewN | apply below_drew1) | exact HB.out))) : w.heap.size ≤ gb239)); have n3_ := Aside0.mk ((by rw [hg]; exact (below_size (by repeat (first | (with_reducible first | exact HB.out | apply below_alloc | apply pw_below_drewN | apply below_drew1) | exact HB.out))) : w.heap.size ≤ gb239)); clear HB; have HB := n0_; have BK239 := n1_; have GW239 := n2_; have GE239 := n3_; clear n0_ n1_ n2_ n3_; clear hb hbox hg) | ((with_reducible refine gate_dst (N := 3) rfl ?_); refine box_event ?hg (N := 3) ?hd (cs := #[.string a1_0, .string a1_1, .slice A1_2 l1_2.length c1_2, .bool a1_3]) (t := 78) ?hr ?_; (case hd => rfl); (case hg => rfl); (case hr => first | (go_simp; done) | (go_simp; rfl)); intro gb240 hg w18 hbox hb; have n0_ := Aside0.mk (blk_below (g := gb239) (o := .cells #[.string a0_0, .string a0_1, .slice A0_2 l0_2.length c0_2, .bool a0_3] 78 (0, 0)) (by (with_reducible repeat (first | refine blk_drewN ?_ _ | refine blk_drew ?_ | refine blk_alloc ?_ _)); exact BK239.out) hb); have n1_ := Aside0.mk (below_step (by repeat (first | (with_reducible first | exact HB.out | apply below_alloc | apply pw_below_drewN | apply below_drew1 | refine below_set ?_ GE239.out) | exact HB.out)) hb); have n2_ := Aside0.mk (hbox); have n3_ := Aside0.mk ((by rw [hg]; exact (below_size (by repeat (first | (with_reducible first | exact HB.out | apply below_alloc | apply pw_below_drewN | apply below_drew1 | refine below_set ?_ GE239.out) | exact HB.out))) : w.heap.size ≤ gb240)); have n4_ := Aside0.mk ((by rw [hg]; exact (below_size (by repeat (first | (with_reducible first | exact HB.out | apply below_alloc | apply pw_below_drewN | apply below_drew1 | refine below_set ?_ GE239.out) | exact HB.out))) : w.heap.size ≤ gb240)); have n5_ := Aside0.mk ((by rw [hg]; exact Nat.ne_of_lt (blk_lt (g := gb239) (o := .cells #[.string a0_0, .string a0_1, .slice A0_2 l0_2.length c0_2, .bool a0_3] 78 (0, 0)) (by (with_reducible repeat (first | refine blk_drewN ?_ _ | refine blk_drew ?_ | refine blk_alloc ?_ _)); exact BK239.out)) : gb239 ≠ gb240)); have n6_ := Aside0.mk ((by rw [hg]; exact Nat.ne_of_gt (blk_lt (g := gb239) (o := .cells #[.string a0_0, .string a0_1, .slice A0_2 l0_2.length c0_2, .bool a0_3] 78 (0, 0)) (by (with_reducible repeat (first | refine blk_drewN ?_ _ | refine blk_drew ?_ | refine blk_alloc ?_ _)); exact BK239.out)) : gb240 ≠ gb239)); clear BK239; clear HB; have BK239 := n0_; have HB := n1_; have BK240 := n2_; have GW240 := n3_; have GE240 := n4_; have NB239_240 := n5_; have NB240_239 := n6_; clear n0_ n1_ n2_ n3_ n4_ n5_ n6_; clear hb hbox hg; have hnb19 := NB239_240.out; have hnc19 := NB240_239.out; have hcz20_0 : w18.cell? ⟨gb239, 0, none⟩ = some (.string a0_0) := (blk_cell BK239.out 0).trans rfl; have hcz20_1 : w18.cell? ⟨gb239, 1, none⟩ = some (.string a0_1) := (blk_cell BK239.out 1).trans rfl; have hcz20_2 : w18.cell? ⟨gb239, 2, none⟩ = some (.slice A0_2 l0_2.length c0_2) := (blk_cell BK239.out 2).trans rfl; have hcz20_3 : w18.cell? ⟨gb239, 3, none⟩ = some (.bool a0_3) := (blk_cell BK239.out 3).trans rfl; have hfz20_0 := blk_frozen BK239.out 0; have hfz20_1 := blk_frozen BK239.out 1; have hfz20_2 := blk_frozen BK239.out 2; have hfz20_3 := blk_frozen BK239.out 3; have hcz21_0 : w18.cell? ⟨gb240, 0, none⟩ = some (.string a1_0) := (blk_cell BK240.out 0).trans rfl; have hcz21_1 : w18.cell? ⟨gb240, 1, none⟩ = some (.string a1_1) := (blk_cell BK240.out 1).trans rfl; have hcz21_2 : w18.cell? ⟨gb240, 2, none⟩ = some (.slice A1_2 l1_2.length c1_2) := (blk_cell BK240.out 2).trans rfl; have hcz21_3 : w18.cell? ⟨gb240, 3, none⟩ = some (.bool a1_3) := (blk_cell BK240.out 3).trans rfl; have hfz21_0 := blk_frozen BK240.out 0; have hfz21_1 := blk_frozen BK240.out 1; have hfz21_2 := blk_frozen BK240.out 2; have hfz21_3 := blk_frozen BK240.out 3))
      go_ret
      exact ⟨by first | rfl | (simp [errW_none, errW_some] <;> rfl) | (simp [*, errW_none, errW_some] <;> rfl), by repeat (first | (with_reducible first | exact HB.out | apply below_alloc | apply pw_below_drewN | apply below_drew1 | refine below_set ?_ GE239.out | refine below_set ?_ GE240.out) | exact HB.out)⟩
  · rw [if_neg c3] at H
    have c3b0 : (a0_0.toList == a1_0.toList) = false := beq_eq_false_iff_ne.mpr c3
    have c3b1 : (a0_0.toList != a1_0.toList) = true := bne_iff_ne.mpr c3
    obtain rfl := Option.some.inj H
    go_enter Try.func55, Try.ntmps55
    go_wp2_with (first | ((with_reducible refine gate_dst (N := 2) rfl ?_); refine box_event ?hg (N := 2) ?hd (cs := #[.string a0_0, .string a0_1, .slice A0_2 l0_2.length c0_2, .bool a0_3]) (t := 78) ?hr ?_; (case hd => rfl); (case hg => rfl); (case hr => first | (go_simp; done) | (go_simp; rfl)); intro gb239 hg w22 hbox hb; have n0_ := Aside0.mk (below_step (by repeat (first | (with_reducible first | exact HB.out | apply below_alloc | apply pw_below_drewN | apply below_drew1) | exact HB.out)) hb); have n1_ := Aside0.mk (hbox); have n2_ := Aside0.mk ((by rw [hg]; exact (below_size (by repeat (first | (with_reducible first | exact HB.out | apply below_alloc | apply pw_below_drewN | apply below_drew1) | exact HB.out))) : w.heap.size ≤ gb239)); have n3_ := Aside0.mk ((by rw [hg]; exact (below_size (by repeat (first | (with_reducible first | exact HB.out | apply below_alloc | apply pw_below_drewN | apply below_drew1) | exact HB.out))) : w.heap.size ≤ gb239)); clear HB; have HB := n0_; have BK239 := n1_; have GW239 := n2_; have GE239 := n3_; clear n0_ n1_ n2_ n3_; clear hb hbox hg) | ((with_reducible refine gate_dst (N := 3) rfl ?_); refine box_event ?hg (N := 3) ?hd (cs := #[.string a1_0, .string a1_1, .slice A1_2 l1_2.length c1_2, .bool a1_3]) (t := 78) ?hr ?_; (case hd => rfl); (case hg => rfl); (case hr => first | (go_simp; done) | (go_simp; rfl)); intro gb240 hg w23 hbox hb; have n0_ := Aside0.mk (blk_below (g := gb239) (o := .cells #[.string a0_0, .string a0_1, .slice A0_2 l0_2.length c0_2, .bool a0_3] 78 (0, 0)) (by (with_reducible repeat (first | refine blk_drewN ?_ _ | refine blk_drew ?_ | refine blk_alloc ?_ _)); exact BK239.out) hb); have n1_ := Aside0.mk (below_step (by repeat (first | (with_reducible first | exact HB.out | apply below_alloc | apply pw_below_drewN | apply below_drew1 | refine below_set ?_ GE239.out) | exact HB.out)) hb); have n2_ := Aside0.mk (hbox); have n3_ := Aside0.mk ((by rw [hg]; exact (below_size (by repeat (first | (with_reducible first | exact HB.out | apply below_alloc | apply pw_below_drewN | apply below_drew1 | refine below_set ?_ GE239.out) | exact HB.out))) : w.heap.size ≤ gb240)); have n4_ := Aside0.mk ((by rw [hg]; exact (below_size (by repeat (first | (with_reducible first | exact HB.out | apply below_alloc | apply pw_below_drewN | apply below_drew1 | refine below_set ?_ GE239.out) | exact HB.out))) : w.heap.size ≤ gb240)); have n5_ := Aside0.mk ((by rw [hg]; exact Nat.ne_of_lt (blk_lt (g := gb239) (o := .cells #[.string a0_0, .string a0_1, .slice A0_2 l0_2.length c0_2, .bool a0_3] 78 (0, 0)) (by (with_reducible repeat (first | refine blk_drewN ?_ _ | refine blk_drew ?_ | refine blk_alloc ?_ _)); exact BK239.out)) : gb239 ≠ gb240)); have n6_ := Aside0.mk ((by rw [hg]; exact Nat.ne_of_gt (blk_lt (g := gb239) (o := .cells #[.string a0_0, .string a0_1, .slice A0_2 l0_2.length c0_2, .bool a0_3] 78 (0, 0)) (by (with_reducible repeat (first | refine blk_drewN ?_ _ | refine blk_drew ?_ | refine blk_alloc ?_ _)); exact BK239.out)) : gb240 ≠ gb239)); clear BK239; clear HB; have BK239 := n0_; have HB := n1_; have BK240 := n2_; have GW240 := n3_; have GE240 := n4_; have NB239_240 := n5_; have NB240_239 := n6_; clear n0_ n1_ n2_ n3_ n4_ n5_ n6_; clear hb hbox hg; have hnb24 := NB239_240.out; have hnc24 := NB240_239.out; have hcz25_0 : w23.cell? ⟨gb239, 0, none⟩ = some (.string a0_0) := (blk_cell BK239.out 0).trans rfl; have hcz25_1 : w23.cell? ⟨gb239, 1, none⟩ = some (.string a0_1) := (blk_cell BK239.out 1).trans rfl; have hcz25_2 : w23.cell? ⟨gb239, 2, none⟩ = some (.slice A0_2 l0_2.length c0_2) := (blk_cell BK239.out 2).trans rfl; have hcz25_3 : w23.cell? ⟨gb239, 3, none⟩ = some (.bool a0_3) := (blk_cell BK239.out 3).trans rfl; have hfz25_0 := blk_frozen BK239.out 0; have hfz25_1 := blk_frozen BK239.out 1; have hfz25_2 := blk_frozen BK239.out 2; have hfz25_3 := blk_frozen BK239.out 3; have hcz26_0 : w23.cell? ⟨gb240, 0, none⟩ = some (.string a1_0) := (blk_cell BK240.out 0).trans rfl; have hcz26_1 : w23.cell? ⟨gb240, 1, none⟩ = some (.string a1_1) := (blk_cell BK240.out 1).trans rfl; have hcz26_2 : w23.cell? ⟨gb240, 2, none⟩ = some (.slice A1_2 l1_2.length c1_2) := (blk_cell BK240.out 2).trans rfl; have hcz26_3 : w23.cell? ⟨gb240, 3, none⟩ = some (.bool a1_3) := (blk_cell BK240.out 3).trans rfl; have hfz26_0 := blk_frozen BK240.out 0; have hfz26_1 := blk_frozen BK240.out 1; have hfz26_2 := blk_frozen BK240.out 2; have hfz26_3 := blk_frozen BK240.out 3))
    go_ret
    exact ⟨by first | rfl | (simp [errW_none, errW_some] <;> rfl) | (simp [*, errW_none, errW_some] <;> rfl), by repeat (first | (with_reducible first | exact HB.out | apply below_alloc | apply pw_below_drewN | apply below_drew1 | refine below_set ?_ GE239.out | refine below_set ?_ GE240.out) | exact HB.out)⟩

end Go.Proofs.Ytpembifnjlekdaa.PStyleWins
