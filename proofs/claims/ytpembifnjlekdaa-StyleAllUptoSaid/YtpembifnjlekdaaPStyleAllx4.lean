-- Written by a copy of the print that this session has turned (wip/tools/patchprint.py): arrays as records.
import Derived.Test.YtpembifnjlekdaaPStyleAllx0
import Derived.Test.YtpembifnjlekdaaPStyleAllx3
namespace Go.Proofs.Ytpembifnjlekdaa.PStyleAll
open Go.RowKit Go.Proofs.YtpembifnjlekdaaW.PrintWords Go.Proofs.YtpembifnjlekdaaW.PrintLast Go.Proofs.YtpembifnjlekdaaW.PrintMore
attribute [local go_sem] max2_int min2_int max_two min_two max_three min_three max_four min_four   -- for this text's walks alone
set_option linter.unusedVariables false
set_option linter.unusedSimpArgs false

/-! ### style_Winner: function 12 -/
def style_notBelow.f (a0 a1 a2 b0 b1 b2 : Int) : Option Bool := some (St.nb (a0, a1, a2) (b0, b1, b2))
set_option maxHeartbeats 8000000 in
set_option maxRecDepth 100000 in
theorem style_notBelow.calls (a0_0 a0_1 a0_2 a1_0 a1_1 a1_2 : Int) (r : Bool) (w : World) (h : style_notBelow.f a0_0 a0_1 a0_2 a1_0 a1_1 a1_2 = some r) :
    Calls Try.prog 50 #[.agg #[.int .i64 a0_0, .int .i64 a0_1, .int .i64 a0_2], .agg #[.int .i64 a1_0, .int .i64 a1_1, .int .i64 a1_2]] w fun e w' => e = .returned (.bool r) ∧ Below w.heap.size w w' := by
  obtain rfl := Option.some.inj h
  clear h
  have heq := fun (w : World) => St.eq_arr 9998 71 3 Try.underlying71 [a0_0, a0_1, a0_2] [a1_0, a1_1, a1_2] w rfl rfl
  simp only [List.map_cons, List.map_nil] at heq
  obtain ⟨r, hr⟩ : ∃ r, St.nb (a0_0, a0_1, a0_2) (a1_0, a1_1, a1_2) = r := ⟨_, rfl⟩
  rw [hr]
  have HR := Aside0.mk hr
  clear hr
  by_cases e : [a0_0, a0_1, a0_2] = [a1_0, a1_1, a1_2]
  · rw [decide_eq_true e] at heq
    have er : r = true := by
      have := HR.out
      simp only [List.cons.injEq, and_true] at e
      obtain ⟨rfl, rfl, rfl⟩ := e
      simpa [St.nb] using this.symm
    subst er
    clear e
    go_enter Try.func50, Try.ntmps50
    go_wp2
    go_ret
    exact ⟨rfl, (by repeat (first | exact Below.refl _ _ | apply below_alloc | apply pw_below_drewN | apply below_drew1))⟩
  · rw [decide_eq_false e] at heq
    go_enter Try.func50, Try.ntmps50
    go_wp2
    have HB : Aside0 (Below w.heap.size w ((w.alloc (.cells #[.int .i64 a0_0, .int .i64 a0_1, .int .i64 a0_2] 71)).alloc (.cells #[.int .i64 a1_0, .int .i64 a1_1, .int .i64 a1_2] 71))) := ⟨(by repeat (first | exact Below.refl _ _ | apply below_alloc | apply pw_below_drewN | apply below_drew1))⟩
    have z1 : St.Arr ((w.alloc (.cells #[.int .i64 a0_0, .int .i64 a0_1, .int .i64 a0_2] 71)).alloc (.cells #[.int .i64 a1_0, .int .i64 a1_1, .int .i64 a1_2] 71)) w.heap.size 71 [a0_0, a0_1, a0_2] := (below_alloc (Below.refl (w.alloc (.cells #[.int .i64 a0_0, .int .i64 a0_1, .int .i64 a0_2] 71)).heap.size _) _).block _ (by simp) |>.trans (heap_alloc_new w _)
    have z2 : St.Arr ((w.alloc (.cells #[.int .i64 a0_0, .int .i64 a0_1, .int .i64 a0_2] 71)).alloc (.cells #[.int .i64 a1_0, .int .i64 a1_1, .int .i64 a1_2] 71)) (w.heap.size + 1) 71 [a1_0, a1_1, a1_2] := by
      have := heap_alloc_new (w.alloc (.cells #[.int .i64 a0_0, .int .i64 a0_1, .int .i64 a0_2] 71)) (.cells #[.int .i64 a1_0, .int .i64 a1_1, .int .i64 a1_2] 71)
      rw [show (w.alloc (.cells #[.int .i64 a0_0, .int .i64 a0_1, .int .i64 a0_2] 71)).heap.size = w.heap.size + 1 by simp] at this
      exact this
    have HL : Aside0 (St.nbL ([a0_0, a0_1, a0_2].drop 0) ([a1_0, a1_1, a1_2].drop 0) = r) := ⟨HR.out⟩
    have HA : Aside0 ([a0_0, a0_1, a0_2].length = 3) := ⟨rfl⟩
    have HA2 : Aside0 ([a1_0, a1_1, a1_2].length = 3) := ⟨rfl⟩
    have Z1 := Aside0.mk z1
    have Z2 := Aside0.mk z2
    clear z1 z2 heq HR e
    generalize [a0_0, a0_1, a0_2] = X at HL HA Z1
    generalize [a1_0, a1_1, a1_2] = Y at HL HA2 Z2
    generalize (w.alloc (.cells #[.int .i64 a0_0, .int .i64 a0_1, .int .i64 a0_2] 71)).alloc (.cells #[.int .i64 a1_0, .int .i64 a1_1, .int .i64 a1_2] 71) = w1 at HB Z1 Z2 ⊢
    go_loopg [9] 3 (fun kq v9 w' => ∃ i : Nat, v9 = .int .i64 (i : Int) ∧ Aside0 (i + kq = 3) ∧ Aside0 (St.nbL (X.drop i) (Y.drop i) = r) ∧ Aside0 (St.Arr w' w.heap.size 71 X) ∧ Aside0 (St.Arr w' (w.heap.size + 1) 71 Y) ∧ Aside0 (Below w.heap.size w w'))
    case atStart => exact ⟨0, by first | rfl | simp, ⟨rfl⟩, HL, Z1, Z2, HB⟩
    case round =>
      clear HL Z1 Z2 HB
      obtain ⟨i, rfl, HK, HL, Z1, Z2, HB⟩ := hrel
      cases gk with
      | zero =>
        have hi : i = 3 := HK.out
        subst hi
        have er : r = true := by
          have := HL.out
          rw [List.drop_eq_nil_of_le (by rw [HA.out]; exact Nat.le_refl _), List.drop_eq_nil_of_le (by rw [HA2.out]; exact Nat.le_refl _)] at this
          exact this.symm
        subst er
        go_wp2
        go_ret
        exact ⟨rfl, (by repeat (first | exact HB.out | apply below_alloc | apply pw_below_drewN | apply below_drew1))⟩
      | succ q =>
        have hi : i < 3 := by have := HK.out; omega
        have x1 := Z1.out.cell i (by rw [HA.out]; exact hi)
        have x2 := Z2.out.cell i (by rw [HA2.out]; exact hi)
        have HL1 := HL.out
        rw [St.getD_cons X i (by rw [HA.out]; exact hi), St.getD_cons Y i (by rw [HA2.out]; exact hi)] at HL1
        generalize X.getD i 0 = x at x1 HL1
        generalize Y.getD i 0 = y at x2 HL1
        have p1 : ((i : Int) < 3) = True := eq_true (by omega)
        have p2 : (0 ≤ (i : Int)) = True := eq_true (by omega)
        have p3 : decide ((i : Int) < 3) = true := decide_eq_true (by omega)
        have p4 : (i < 3) = True := eq_true hi
        have p5 : decide (i < 3) = true := decide_eq_true hi
        have p6 : IntKind.i64.wrap ((i : Int) + 1) = (i : Int) + 1 := by rw [IntKind.wrap_i64]; omega
        clear HL hi
        by_cases e : x = y
        · have HL2 : Aside0 (St.nbL (X.drop (i + 1)) (Y.drop (i + 1)) = r) := ⟨by rw [St.nbL, if_neg (fun h => h e)] at HL1; exact HL1⟩
          have eb : (x == y) = true := beq_iff_eq.mpr e
          have eb' : (x != y) = false := bne_eq_false_iff_eq.mpr e
          clear HL1 e
          go_wp2
          repeat (go_quiet (fail); try go_wp2)
          go_roundg q
          case measure => exact Nat.lt_succ_self q
          case rel => exact ⟨i + 1, by go_num, ⟨by have := HK.out; omega⟩, HL2, ⟨Z1.out.below (by repeat (first | exact Below.refl _ _ | apply below_alloc | apply pw_below_drewN | apply below_drew1))⟩, ⟨Z2.out.below (by repeat (first | exact Below.refl _ _ | apply below_alloc | apply pw_below_drewN | apply below_drew1))⟩, ⟨(by repeat (first | exact HB.out | apply below_alloc | apply pw_below_drewN | apply below_drew1))⟩⟩
        · have er : decide (x < y) = r := by rw [St.nbL, if_pos e] at HL1; exact HL1
          subst er
          have eb : (x == y) = false := beq_eq_false_iff_ne.mpr e
          have eb' : (x != y) = true := bne_iff_ne.mpr e
          clear HL1 e
          go_wp2
          repeat (go_quiet (fail); try go_wp2)
          go_ret
          exact ⟨by first | rfl | simp, (by repeat (first | exact HB.out | apply below_alloc | apply pw_below_drewN | apply below_drew1))⟩
/-- A rule that matches: its declarations, and how much it weighs. -/
structure WS where
  d : List S47
  w0 : Int
  w1 : Int
  w2 : Int
def zWS : WS := ⟨[], 0, 0, 0⟩
/-- Its cells: the declarations lie where they lay in W0. -/
def kW (W0 : World) : Kd WS where
  sz := 5
  E := []
  K := fun _ x cs => ∃ A n c A' c', cs = [.slice A n c, .slice A' x.d.length c', .int .i64 x.w0, .int .i64 x.w1, .int .i64 x.w2] ∧ x.d.length ≤ c' ∧ Kd.C k47 W0 A' x.d.length x.d
  M := fun _ _ _ x cs => ∃ A n c A' c', cs = [.slice A n c, .slice A' x.d.length c', .int .i64 x.w0, .int .i64 x.w1, .int .i64 x.w2] ∧ x.d.length ≤ c' ∧ Kd.C k47 W0 A' x.d.length x.d
  K_len := by
    rintro w x cs ⟨A, n, c, A', c', rfl, _, _⟩
    rfl
  K_one := by
    rintro w x cs ⟨A, n, c, A', c', rfl, _, _⟩ u hu
    simp only [List.mem_cons, List.not_mem_nil, or_false] at hu
    rcases hu with rfl | rfl | rfl | rfl | rfl <;> rfl
  K_below := fun _ h => h
  K_of_M := fun h => h
  M_mono := fun _ h => h
  M_bound := fun h => h
  M_move := fun _ h => h
  M_lower := fun _ h => h
theorem info93 : (Try.prog.info? 93).map (fun i => (i.zero, i.size, i.bytes)) = some (some (.agg #[.slice none 0 0, .slice none 0 0, .int .i64 0, .int .i64 0, .int .i64 0]), 5, 72) := by kernel_rfl
theorem three {w : World} {b t : Nat} {a c x y z u v r : Value} (h : w.heap[b]? = some (.cells #[a, c, x, y, z] t (0, 0))) : (((w.setCell ⟨b, 2, none⟩ u).setCell ⟨b, 3, none⟩ v).setCell ⟨b, 4, none⟩ r).heap[b]? = some (.cells #[a, c, u, v, r] t (0, 0)) := by
  have h1 : (w.setCell ⟨b, 2, none⟩ u).heap[b]? = some (.cells #[a, c, u, y, z] t (0, 0)) := heap_setCell_same w b 2 _ t _ h
  have h2 : ((w.setCell ⟨b, 2, none⟩ u).setCell ⟨b, 3, none⟩ v).heap[b]? = some (.cells #[a, c, u, v, z] t (0, 0)) := heap_setCell_same _ b 3 _ t _ h1
  exact heap_setCell_same _ b 4 _ t _ h2
theorem R_far {α : Type} {d : Kd α} {e base b : Nat} {w : World} {v : Value} {xs : List α} (h : d.R e w base (fun k => k ≠ b) v xs) (j : Nat) (u : Value) : d.R e (w.setCell ⟨b, j, none⟩ u) base (fun k => k ≠ b) v xs :=
  Kd.R_step h (fun k hk _ => heap_setCell_other w ⟨b, j, none⟩ k u hk)
def style_matching.sel (k : Nat) (path : List S56) : List S45 → (Int × Int × Int) × Bool → Option ((Int × Int × Int) × Bool)
  | [], X => some X
  | s :: r, X => (sheet_Match.f k s.f0 path).bind fun m => if m = false then style_matching.sel k path r X else
      (sheet_Weight.f s.f0).bind fun v => style_matching.sel k path r (if X.2 = false ∨ St.nb X.1 v = true then v else X.1, true)
def style_matching.go (k : Nat) (path : List S56) : List S41 → List WS → Option (List WS)
  | [], out => some out
  | x :: r, out => (style_matching.sel k path x.f0 ((0, 0, 0), false)).bind fun X => style_matching.go k path r (if X.2 = true then out ++ [⟨x.f1, X.1.1, X.1.2.1, X.1.2.2⟩] else out)
def style_matching.f (k : Nat) (l : List S41) (path : List S56) : Option (List WS) := if l.length ≤ 100000 then style_matching.go k path l [] else none
set_option maxHeartbeats 8000000 in
set_option maxRecDepth 100000 in
theorem style_matching.calls (W0 : World) (k : Nat) (A0 : Option Addr) (c0 : Nat) (l0 : List (S41)) (A1 : Option Addr) (c1 : Nat) (l1 : List (S56)) (ms : List WS) (w : World) (hW : Below W0.heap.size W0 w) (hr0 : Kd.C k41 W0 A0 l0.length l0) (hc0 : l0.length ≤ c0) (hr1 : Kd.C k56 w A1 l1.length l1) (hc1 : l1.length ≤ c1) (h : style_matching.f k l0 l1 = some ms) :
    Calls Try.prog 35 #[.slice A0 l0.length c0, .slice A1 l1.length c1] w fun e w' => ∃ v0_ : Value, e = .returned v0_ ∧ Kd.R (kW W0) 93 w' w.heap.size (fun _ => True) v0_ ms ∧ Below w.heap.size w w' := by
  unfold style_matching.f at h
  by_cases hn : l0.length ≤ 100000
  rotate_left
  · rw [if_neg hn] at h
    exact absurd h (by simp)
  rw [if_pos hn] at h
  have HN := Aside0.mk hn
  have HR0 := Aside0.mk hr0
  have HW := Aside0.mk hW
  have HC0 := Aside0.mk hc0
  have HR1 := Aside0.mk hr1
  have HC1 := Aside0.mk hc1
  have HB := Aside0.mk (Below.refl w.heap.size w)
  have HG := Aside0.mk h
  clear hW hr0 hc0 hr1 hc1 h hn
  go_enter Try.func35, Try.ntmps35
  go_wp2
  go_loopg [5, 15] l0.length (fun kq v5 v15 w' => ∃ (i : Nat) (out : List WS), v15 = .int .i64 (i : Int) ∧ Aside0 (i + kq = l0.length) ∧ Aside0 (style_matching.go k l1 (l0.drop i) out = some ms) ∧ Aside0 (out.length ≤ i) ∧ Aside0 (Kd.R (kW W0) 93 w' w.heap.size (fun _ => True) v5 out) ∧ Aside0 (Below w.heap.size w w'))
  case atStart => exact ⟨0, [], by first | rfl | simp, ⟨by omega⟩, HG, ⟨Nat.le_refl _⟩, ⟨Kd.R_nil _ _ _ _ _⟩, HB⟩
  case round =>
    clear HG HB
    obtain ⟨i, out, rfl, HK, HG, HLN, HO, HB⟩ := hrel
    cases gk with
    | zero =>
      have e : out = ms := by
        have := HG.out
        rw [List.drop_eq_nil_of_le (by have := HK.out; omega), style_matching.go] at this
        exact Option.some.inj this
      have HO2 := Aside0.mk (e ▸ HO.out)
      have m1 : decide ((i : Int) < (l0.length : Int)) = false := decide_eq_false (by have := HK.out; omega)
      have m2 : (i < l0.length) = False := eq_false (by have := HK.out; omega)
      have m3 : decide (i < l0.length) = false := decide_eq_false (by have := HK.out; omega)
      clear HG HO e
      go_wp2
      go_ret
      exact ⟨_, rfl, HO2.out, (by repeat (first | exact HB.out | apply below_alloc | apply pw_below_drewN | apply below_drew1))⟩
    | succ q =>
      have hi : i < l0.length := by have := HK.out; omega
      have ed : l0.drop i = rd_T41 l0 (i : Int) :: l0.drop (i + 1) := by
        rw [List.drop_eq_getElem_cons hi]
        simp [rd_T41, List.getD_eq_getElem?_getD, hi]
      have H := HG.out
      rw [ed, style_matching.go] at H
      obtain ⟨X, AX0, H⟩ := Option.bind_eq_some_iff.mp H
      have AX := Aside0.mk AX0
      have HG2 := Aside0.mk H
      obtain ⟨ad, A2, c2, A3, c3, ead, hx0, hx1, hl2, hi2, hl3, hi3⟩ := at_T41 HR0.out (i : Int) (by omega) (by omega)
      cases ead
      rw [Int.toNat_natCast] at hx0 hx1
      replace hx0 := pw_cell_below (below_step HW.out HB.out) hx0
      replace hx1 := pw_cell_below (below_step HW.out HB.out) hx1
      obtain ⟨sl, hsl⟩ : ∃ z, (rd_T41 l0 (i : Int)).f0 = z := ⟨_, rfl⟩
      obtain ⟨dl, hdl⟩ : ∃ z, (rd_T41 l0 (i : Int)).f1 = z := ⟨_, rfl⟩
      rw [hsl] at hx0 hl2 hi2
      rw [hdl] at hx1 hl3 hi3
      have AX1 : Aside0 (style_matching.sel k l1 sl ((0, 0, 0), false) = some X) := ⟨by rw [← hsl]; exact AX.out⟩
      have HG3 : Aside0 (style_matching.go k l1 (l0.drop (i + 1)) (if X.2 = true then out ++ [⟨dl, X.1.1, X.1.2.1, X.1.2.2⟩] else out) = some ms) := ⟨by rw [← hdl]; exact HG2.out⟩
      have HL2 := Aside0.mk hl2
      have HI2 := Aside0.mk hi2
      have HL3 := Aside0.mk hl3
      have HI3 := Aside0.mk hi3
      have m1 : decide ((i : Int) < (l0.length : Int)) = true := decide_eq_true (by omega)
      have m2 : ((i : Int) < (l0.length : Int)) = True := eq_true (by omega)
      have m3 : (0 ≤ (i : Int)) = True := eq_true (by omega)
      have m4 : (i < l0.length) = True := eq_true hi
      have m5 : decide (i < l0.length) = true := decide_eq_true hi
      have HI := Aside0.mk hi
      clear hsl hdl AX AX0 HG HG2 H ed hl2 hi2 hl3 hi3 hi
      go_upto_region 6 with (fail)
      clear m1 m2 m3 m4 m5 hx0 hx1
      have z7 : ((wr.alloc (.cells #[.slice A2 sl.length c2, .slice A3 dl.length c3] 41)).alloc (.cells #[.slice A2 sl.length c2, .slice A3 dl.length c3, .int .i64 0, .int .i64 0, .int .i64 0] 93)).cell? ⟨wr.heap.size, 0, none⟩ = some (.slice A2 sl.length c2) := by
        refine (blk_cell (((below_alloc (Below.refl _ _) _).block wr.heap.size (by simp)).trans (heap_alloc_new wr (.cells #[.slice A2 sl.length c2, .slice A3 dl.length c3] 41))) 0).trans rfl
      have z8 : ((wr.alloc (.cells #[.slice A2 sl.length c2, .slice A3 dl.length c3] 41)).alloc (.cells #[.slice A2 sl.length c2, .slice A3 dl.length c3, .int .i64 0, .int .i64 0, .int .i64 0] 93)).heap[wr.heap.size + 1]? = some (.cells #[.slice A2 sl.length c2, .slice A3 dl.length c3, .int .i64 0, .int .i64 0, .int .i64 0] 93 (0, 0)) := by
        have := heap_alloc_new (wr.alloc (.cells #[.slice A2 sl.length c2, .slice A3 dl.length c3] 41)) (.cells #[.slice A2 sl.length c2, .slice A3 dl.length c3, .int .i64 0, .int .i64 0, .int .i64 0] 93)
        rw [show (wr.alloc (.cells #[.slice A2 sl.length c2, .slice A3 dl.length c3] 41)).heap.size = wr.heap.size + 1 by simp] at this
        exact this
      have ho1 : Kd.R (kW W0) 93 ((wr.alloc (.cells #[.slice A2 sl.length c2, .slice A3 dl.length c3] 41)).alloc (.cells #[.slice A2 sl.length c2, .slice A3 dl.length c3, .int .i64 0, .int .i64 0, .int .i64 0] 93)) w.heap.size (fun k_ => k_ ≠ wr.heap.size + 1) u5 out := by
        refine Kd.R_alloc (Kd.R_alloc (Kd.R_mono (Kd.R_bound HO.out) (fun k_ hk_ => ?_)) _) _
        have := hk_.2.2.1
        omega
      have hb1 : Below w.heap.size w ((wr.alloc (.cells #[.slice A2 sl.length c2, .slice A3 dl.length c3] 41)).alloc (.cells #[.slice A2 sl.length c2, .slice A3 dl.length c3, .int .i64 0, .int .i64 0, .int .i64 0] 93)) := below_alloc (below_alloc HB.out _) _
      have HGE : Aside0 (w.heap.size ≤ wr.heap.size + 1) := ⟨by have := HB.out.size; omega⟩
      obtain ⟨b8, hb8⟩ : ∃ z, z = wr.heap.size + 1 := ⟨_, rfl⟩
      rw [← hb8] at z8 ho1 HGE
      rw [← hb8]
      have Z8 := Aside0.mk z8
      have HO1 := Aside0.mk ho1
      have HB1 := Aside0.mk hb1
      clear z8 ho1 hb1 HO HB hb8
      generalize ((wr.alloc (.cells #[.slice A2 sl.length c2, .slice A3 dl.length c3] 41)).alloc (.cells #[.slice A2 sl.length c2, .slice A3 dl.length c3, .int .i64 0, .int .i64 0, .int .i64 0] 93)) = w1 at z7 Z8 HO1 HB1 ⊢
      go_wp2
      clear z7
      go_loopg [9, 24] sl.length (fun kq v9 v24 w' => ∃ (j : Nat) (X1 : (Int × Int × Int) × Bool), v24 = .int .i64 (j : Int) ∧ v9 = .bool X1.2 ∧ Aside0 (j + kq = sl.length) ∧ Aside0 (style_matching.sel k l1 (sl.drop j) X1 = some X) ∧ Aside0 (w'.heap[b8]? = some (.cells #[.slice A2 sl.length c2, .slice A3 dl.length c3, .int .i64 X1.1.1, .int .i64 X1.1.2.1, .int .i64 X1.1.2.2] 93 (0, 0))) ∧ Aside0 (Kd.R (kW W0) 93 w' w.heap.size (fun k_ => k_ ≠ b8) u5 out) ∧ Aside0 (Below w.heap.size w w'))
      case atStart => exact ⟨0, ((0, 0, 0), false), by first | rfl | simp, rfl, ⟨by omega⟩, AX1, Z8, HO1, HB1⟩
      case round =>
        clear AX1 Z8 HO1 HB1
        obtain ⟨j, X1, rfl, rfl, HJ, AS, Z8, HO, HB⟩ := hrel
        cases gk with
        | zero =>
          have e : X1 = X := by
            have := AS.out
            rw [List.drop_eq_nil_of_le (by have := HJ.out; omega), style_matching.sel] at this
            exact Option.some.inj this
          subst e
          have m1 : decide ((j : Int) < (sl.length : Int)) = false := decide_eq_false (by have := HJ.out; omega)
          have m2 : (j < sl.length) = False := eq_false (by have := HJ.out; omega)
          have m3 : decide (j < sl.length) = false := decide_eq_false (by have := HJ.out; omega)
          have p6 : IntKind.i64.wrap ((i : Int) + 1) = (i : Int) + 1 := by have := HI.out; have := HN.out; rw [IntKind.wrap_i64]; omega
          obtain ⟨⟨x0, x1, x2⟩, xb⟩ := X1
          cases xb with
          | false =>
            have HG4 : Aside0 (style_matching.go k l1 (l0.drop (i + 1)) out = some ms) := ⟨HG3.out⟩
            clear HG3 AS
            go_wp2
            go_roundg q
            case measure => exact Nat.lt_succ_self q
            case rel => exact ⟨i + 1, out, by go_num, ⟨by have := HK.out; omega⟩, HG4, ⟨Nat.le_succ_of_le HLN.out⟩, ⟨Kd.R_mono HO.out (fun _ _ => trivial)⟩, HB⟩
          | true =>
            have HG4 : Aside0 (style_matching.go k l1 (l0.drop (i + 1)) (out ++ [⟨dl, x0, x1, x2⟩]) = some ms) := ⟨HG3.out⟩
            have z80 : wr.cell? ⟨b8, 0, none⟩ = some (.slice A2 sl.length c2) := (blk_cell Z8.out 0).trans rfl
            have z81 : wr.cell? ⟨b8, 1, none⟩ = some (.slice A3 dl.length c3) := (blk_cell Z8.out 1).trans rfl
            have z82 : wr.cell? ⟨b8, 2, none⟩ = some (.int .i64 x0) := (blk_cell Z8.out 2).trans rfl
            have z83 : wr.cell? ⟨b8, 3, none⟩ = some (.int .i64 x1) := (blk_cell Z8.out 3).trans rfl
            have z84 : wr.cell? ⟨b8, 4, none⟩ = some (.int .i64 x2) := (blk_cell Z8.out 4).trans rfl
            have HO2 := Aside0.mk (Kd.R_mono HO.out (fun _ _ => trivial) : Kd.R (kW W0) 93 wr w.heap.size (fun _ => True) u5 out)
            have HLL : Aside0 ((out.length + 1) * 72 ≤ 140737488355328) := ⟨by have := HLN.out; have := HI.out; have := HN.out; omega⟩
            clear HG3 AS HO
            go_wp2_with (first | ((with_reducible refine gate_builtin (b := .append) (xs := #[.tmp 46, .tmp 48]) rfl ?_); at_builtin; refine Kd.R_append (kW W0) (w0 := w) w.heap.size rfl (.tmp 46) (.tmp 48) 69 93 (.agg #[.slice none 0 0, .slice none 0 0, .int .i64 0, .int .i64 0, .int .i64 0]) 72 rfl Try.underlying69 info93 rfl (show 0 < 5 by decide) (by omega) _ out ⟨dl, x0, x1, x2⟩ [.slice A2 sl.length c2, .slice A3 dl.length c3, .int .i64 x0, .int .i64 x1, .int .i64 x2] (fun _ => True) (fun _ => False) rfl rfl ?aP (fun _ hk => hk.elim) ?aF ?aO ?aB ?aS ?aL ?_; (case aP => exact ⟨_, _, _, _, _, rfl, HL3.out, HI3.out⟩); (case aB => exact (by repeat (first | (with_reducible first | exact HB.out | apply below_alloc | apply pw_below_drewN | apply below_drew1) | exact HB.out))); (case aF => exact (fun _ _ => trivial)); (case aO => exact (by (with_reducible repeat (first | apply Kd.R_alloc | apply Kd.R_drewN | apply Kd.R_drew)); exact HO2.out)); (case aS => exact HB.out.size); (case aL => exact HLL.out); intro v49 w9 ho hb hg hat; have HO9 := Aside0.mk ho; have HB9 := Aside0.mk hb; clear ho hb hg hat HB HO2))
            go_roundg q
            case measure => exact Nat.lt_succ_self q
            case rel => exact ⟨i + 1, out ++ [⟨dl, x0, x1, x2⟩], by go_num, ⟨by have := HK.out; omega⟩, HG4, ⟨by rw [List.length_append]; have := HLN.out; simp; omega⟩, HO9, HB9⟩
        | succ p =>
          have hj : j < sl.length := by have := HJ.out; omega
          have ed : sl.drop j = rd_T45 sl (j : Int) :: sl.drop (j + 1) := by
            rw [List.drop_eq_getElem_cons hj]
            simp [rd_T45, List.getD_eq_getElem?_getD, hj]
          have H := AS.out
          rw [ed, style_matching.sel] at H
          obtain ⟨m, AM0, H⟩ := Option.bind_eq_some_iff.mp H
          obtain ⟨ad4, A4, c4, ead4, hx4, hl4, hi4⟩ := at_T45 HI2.out (j : Int) (by omega) (by omega)
          cases ead4
          rw [Int.toNat_natCast] at hx4
          replace hx4 := pw_cell_below (below_step HW.out HB.out) hx4
          obtain ⟨ps, hps⟩ : ∃ z, (rd_T45 sl (j : Int)).f0 = z := ⟨_, rfl⟩
          rw [hps] at hx4 hl4 hi4 AM0 H
          have AM := Aside0.mk AM0
          have HH := Aside0.mk H
          have HL4 := Aside0.mk hl4
          have HI4 := Aside0.mk hi4
          have m1 : decide ((j : Int) < (sl.length : Int)) = true := decide_eq_true (by omega)
          have m2 : ((j : Int) < (sl.length : Int)) = True := eq_true (by omega)
          have m3 : (0 ≤ (j : Int)) = True := eq_true (by omega)
          have m4 : (j < sl.length) = True := eq_true hj
          have m5 : decide (j < sl.length) = true := decide_eq_true hj
          have hi4_len : sl.length ≤ 9223372036854775807 := HI2.out.2.1
          clear AM0 H hps hl4 hi4 ed AS hj
          go_upto_region 9 with (fail)
          have HSTEP := fun (w5 : World) (hb : Below (wr.alloc (.cells #[.slice A4 ps.length c4] 45)).heap.size (wr.alloc (.cells #[.slice A4 ps.length c4] 45)) w5) => (below_step (below_alloc (Below.refl wr.heap.size wr) _) hb)
          have HS5 := Aside0.mk HSTEP
          clear HSTEP
          have p6 : IntKind.i64.wrap ((j : Int) + 1) = (j : Int) + 1 := by have := HJ.out; have := hi4_len; rw [IntKind.wrap_i64]; omega
          clear hi4_len
          cases m with
          | false =>
            have HH2 : Aside0 (style_matching.sel k l1 (sl.drop (j + 1)) X1 = some X) := ⟨HH.out⟩
            clear HH
            go_wp2_with (first | (go_at_call 51; (with_reducible refine (sheet_Match.calls k A4 c4 ps A1 c1 l1 false _ (Kd.C_below HI4.out (below_step HW.out (below_alloc HB.out _))) HL4.out (Kd.C_below HR1.out (below_alloc HB.out _)) HC1.out AM.out).mono ?_); rintro e w5 ⟨rfl, hb⟩; have hb5 := HS5.out w5 hb; have nZ_ := Aside0.mk ((hb5.block b8 (blk_lt Z8.out)).trans Z8.out); have nO_ := Aside0.mk (Kd.R_below HO.out hb5); have nB_ := Aside0.mk (below_step HB.out hb5); clear Z8 HO HB; have Z8 := nZ_; have HO := nO_; have HB := nB_; clear nZ_ nO_ nB_;  clear hb hb5))
            go_roundg p
            case measure => exact Nat.lt_succ_self p
            case rel => exact ⟨j + 1, X1, by go_num, rfl, ⟨by have := HJ.out; omega⟩, HH2, Z8, HO, HB⟩
          | true =>
            have H := HH.out
            rw [if_neg (by decide)] at H
            obtain ⟨⟨v0, v1, v2⟩, AV0, H⟩ := Option.bind_eq_some_iff.mp H
            have AV := Aside0.mk AV0
            have HH2 := Aside0.mk H
            clear H AV0 HH
            obtain ⟨⟨x0, x1, x2⟩, xb⟩ := X1
            cases xb with
            | false =>
              have HH3 : Aside0 (style_matching.sel k l1 (sl.drop (j + 1)) ((v0, v1, v2), true) = some X) := ⟨by have := HH2.out; rw [if_pos (.inl rfl)] at this; exact this⟩
              clear HH2
              go_wp2_with (first | (go_at_call 51; (with_reducible refine (sheet_Match.calls k A4 c4 ps A1 c1 l1 true _ (Kd.C_below HI4.out (below_step HW.out (below_alloc HB.out _))) HL4.out (Kd.C_below HR1.out (below_alloc HB.out _)) HC1.out AM.out).mono ?_); rintro e w5 ⟨rfl, hb⟩; have hb5 := HS5.out w5 hb; have nZ_ := Aside0.mk ((hb5.block b8 (blk_lt Z8.out)).trans Z8.out); have nO_ := Aside0.mk (Kd.R_below HO.out hb5); have nB_ := Aside0.mk (below_step HB.out hb5); clear Z8 HO HB; have Z8 := nZ_; have HO := nO_; have HB := nB_; clear nZ_ nO_ nB_; have z11 : w5.cell? ⟨wr.heap.size, 0, none⟩ = some (.slice A4 ps.length c4) := (blk_cell ((hb.block wr.heap.size (by simp)).trans (heap_alloc_new wr (.cells #[.slice A4 ps.length c4] 45))) 0).trans rfl; clear hb hb5) | (go_at_call 52; (with_reducible refine (sheet_Weight.calls A4 c4 ps v0 v1 v2 _ (Kd.C_below HI4.out (below_step HW.out HB.out)) HL4.out AV.out).mono ?_); rintro e w6 ⟨rfl, hb5⟩; have nZ_ := Aside0.mk ((hb5.block b8 (blk_lt Z8.out)).trans Z8.out); have nO_ := Aside0.mk (Kd.R_below HO.out hb5); have nB_ := Aside0.mk (below_step HB.out hb5); clear Z8 HO HB; have Z8 := nZ_; have HO := nO_; have HB := nB_; clear nZ_ nO_ nB_; clear z11 hb5; have za : (w6.alloc (.cells #[.int .i64 v0, .int .i64 v1, .int .i64 v2] 71)).heap[b8]? = some (.cells #[.slice (some ad4) sl.length c2, .slice A3 dl.length c3, .int .i64 x0, .int .i64 x1, .int .i64 x2] 93 (0, 0)) := ((below_alloc (Below.refl _ _) _).block b8 (blk_lt Z8.out)).trans Z8.out; have z82 : (w6.alloc (.cells #[.int .i64 v0, .int .i64 v1, .int .i64 v2] 71)).cell? ⟨b8, 2, none⟩ = some (.int .i64 x0) := (blk_cell za 2).trans rfl; have z83 : (w6.alloc (.cells #[.int .i64 v0, .int .i64 v1, .int .i64 v2] 71)).cell? ⟨b8, 3, none⟩ = some (.int .i64 x1) := (blk_cell za 3).trans rfl; have z84 : (w6.alloc (.cells #[.int .i64 v0, .int .i64 v1, .int .i64 v2] 71)).cell? ⟨b8, 4, none⟩ = some (.int .i64 x2) := (blk_cell za 4).trans rfl; have f82 := blk_frozen za 2; have f83 := blk_frozen za 3; have f84 := blk_frozen za 4; clear za))
              go_roundg p
              case measure => exact Nat.lt_succ_self p
              case rel => exact ⟨j + 1, ((v0, v1, v2), true), by go_num, rfl, ⟨by have := HJ.out; omega⟩, HH3, ⟨three (((below_alloc (Below.refl _ _) _).block b8 (blk_lt Z8.out)).trans Z8.out)⟩, ⟨R_far (R_far (R_far (Kd.R_alloc HO.out _) _ _) _ _) _ _⟩, ⟨below_set (below_set (below_set (below_alloc HB.out _) HGE.out) HGE.out) HGE.out⟩⟩
            | true =>
              obtain ⟨n_, hn_⟩ : ∃ n_, St.nb (x0, x1, x2) (v0, v1, v2) = n_ := ⟨_, rfl⟩
              have AN : Aside0 (style_notBelow.f x0 x1 x2 v0 v1 v2 = some n_) := ⟨congrArg some hn_⟩
              cases n_ with
              | true =>
                have HH3 : Aside0 (style_matching.sel k l1 (sl.drop (j + 1)) ((v0, v1, v2), true) = some X) := ⟨by have := HH2.out; rw [if_pos (.inr hn_)] at this; exact this⟩
                clear HH2 hn_
                go_wp2_with (first | (go_at_call 51; (with_reducible refine (sheet_Match.calls k A4 c4 ps A1 c1 l1 true _ (Kd.C_below HI4.out (below_step HW.out (below_alloc HB.out _))) HL4.out (Kd.C_below HR1.out (below_alloc HB.out _)) HC1.out AM.out).mono ?_); rintro e w5 ⟨rfl, hb⟩; have hb5 := HS5.out w5 hb; have nZ_ := Aside0.mk ((hb5.block b8 (blk_lt Z8.out)).trans Z8.out); have nO_ := Aside0.mk (Kd.R_below HO.out hb5); have nB_ := Aside0.mk (below_step HB.out hb5); clear Z8 HO HB; have Z8 := nZ_; have HO := nO_; have HB := nB_; clear nZ_ nO_ nB_; have z11 : w5.cell? ⟨wr.heap.size, 0, none⟩ = some (.slice A4 ps.length c4) := (blk_cell ((hb.block wr.heap.size (by simp)).trans (heap_alloc_new wr (.cells #[.slice A4 ps.length c4] 45))) 0).trans rfl; clear hb hb5) | (go_at_call 52; (with_reducible refine (sheet_Weight.calls A4 c4 ps v0 v1 v2 _ (Kd.C_below HI4.out (below_step HW.out HB.out)) HL4.out AV.out).mono ?_); rintro e w6 ⟨rfl, hb5⟩; have nZ_ := Aside0.mk ((hb5.block b8 (blk_lt Z8.out)).trans Z8.out); have nO_ := Aside0.mk (Kd.R_below HO.out hb5); have nB_ := Aside0.mk (below_step HB.out hb5); clear Z8 HO HB; have Z8 := nZ_; have HO := nO_; have HB := nB_; clear nZ_ nO_ nB_; clear z11 hb5; have za : (w6.alloc (.cells #[.int .i64 v0, .int .i64 v1, .int .i64 v2] 71)).heap[b8]? = some (.cells #[.slice (some ad4) sl.length c2, .slice A3 dl.length c3, .int .i64 x0, .int .i64 x1, .int .i64 x2] 93 (0, 0)) := ((below_alloc (Below.refl _ _) _).block b8 (blk_lt Z8.out)).trans Z8.out; have z82 : (w6.alloc (.cells #[.int .i64 v0, .int .i64 v1, .int .i64 v2] 71)).cell? ⟨b8, 2, none⟩ = some (.int .i64 x0) := (blk_cell za 2).trans rfl; have z83 : (w6.alloc (.cells #[.int .i64 v0, .int .i64 v1, .int .i64 v2] 71)).cell? ⟨b8, 3, none⟩ = some (.int .i64 x1) := (blk_cell za 3).trans rfl; have z84 : (w6.alloc (.cells #[.int .i64 v0, .int .i64 v1, .int .i64 v2] 71)).cell? ⟨b8, 4, none⟩ = some (.int .i64 x2) := (blk_cell za 4).trans rfl; have f82 := blk_frozen za 2; have f83 := blk_frozen za 3; have f84 := blk_frozen za 4; clear za) | (go_at_call 50; (with_reducible refine (style_notBelow.calls x0 x1 x2 v0 v1 v2 _ _ AN.out).mono ?_); rintro e w7 ⟨rfl, hb⟩; have hb5 := below_step (below_alloc (Below.refl w6.heap.size w6) _) hb; have zc := (hb.block w6.heap.size (by simp)).trans (heap_alloc_new w6 (.cells #[.int .i64 v0, .int .i64 v1, .int .i64 v2] 71)); have zc0 : w7.cell? ⟨w6.heap.size, 0, none⟩ = some (.int .i64 v0) := (blk_cell zc 0).trans rfl; have zc1 : w7.cell? ⟨w6.heap.size, 1, none⟩ = some (.int .i64 v1) := (blk_cell zc 1).trans rfl; have zc2 : w7.cell? ⟨w6.heap.size, 2, none⟩ = some (.int .i64 v2) := (blk_cell zc 2).trans rfl; clear zc z82 z83 z84 f82 f83 f84; have nZ_ := Aside0.mk ((hb5.block b8 (blk_lt Z8.out)).trans Z8.out); have nO_ := Aside0.mk (Kd.R_below HO.out hb5); have nB_ := Aside0.mk (below_step HB.out hb5); clear Z8 HO HB; have Z8 := nZ_; have HO := nO_; have HB := nB_; clear nZ_ nO_ nB_; clear hb hb5; have z82 : w7.cell? ⟨b8, 2, none⟩ = some (.int .i64 x0) := (blk_cell Z8.out 2).trans rfl; have z83 : w7.cell? ⟨b8, 3, none⟩ = some (.int .i64 x1) := (blk_cell Z8.out 3).trans rfl; have z84 : w7.cell? ⟨b8, 4, none⟩ = some (.int .i64 x2) := (blk_cell Z8.out 4).trans rfl; have f82 := blk_frozen Z8.out 2; have f83 := blk_frozen Z8.out 3; have f84 := blk_frozen Z8.out 4))
                go_roundg p
                case measure => exact Nat.lt_succ_self p
                case rel => exact ⟨j + 1, ((v0, v1, v2), true), by go_num, rfl, ⟨by have := HJ.out; omega⟩, HH3, ⟨three Z8.out⟩, ⟨R_far (R_far (R_far HO.out _ _) _ _) _ _⟩, ⟨below_set (below_set (below_set HB.out HGE.out) HGE.out) HGE.out⟩⟩
              | false =>
                have HH3 : Aside0 (style_matching.sel k l1 (sl.drop (j + 1)) ((x0, x1, x2), true) = some X) := ⟨by have := HH2.out; rw [if_neg (fun z => z.elim (fun y => by simp at y) (fun y => by rw [hn_] at y; simp at y))] at this; exact this⟩
                clear HH2 hn_
                go_wp2_with (first | (go_at_call 51; (with_reducible refine (sheet_Match.calls k A4 c4 ps A1 c1 l1 true _ (Kd.C_below HI4.out (below_step HW.out (below_alloc HB.out _))) HL4.out (Kd.C_below HR1.out (below_alloc HB.out _)) HC1.out AM.out).mono ?_); rintro e w5 ⟨rfl, hb⟩; have hb5 := HS5.out w5 hb; have nZ_ := Aside0.mk ((hb5.block b8 (blk_lt Z8.out)).trans Z8.out); have nO_ := Aside0.mk (Kd.R_below HO.out hb5); have nB_ := Aside0.mk (below_step HB.out hb5); clear Z8 HO HB; have Z8 := nZ_; have HO := nO_; have HB := nB_; clear nZ_ nO_ nB_; have z11 : w5.cell? ⟨wr.heap.size, 0, none⟩ = some (.slice A4 ps.length c4) := (blk_cell ((hb.block wr.heap.size (by simp)).trans (heap_alloc_new wr (.cells #[.slice A4 ps.length c4] 45))) 0).trans rfl; clear hb hb5) | (go_at_call 52; (with_reducible refine (sheet_Weight.calls A4 c4 ps v0 v1 v2 _ (Kd.C_below HI4.out (below_step HW.out HB.out)) HL4.out AV.out).mono ?_); rintro e w6 ⟨rfl, hb5⟩; have nZ_ := Aside0.mk ((hb5.block b8 (blk_lt Z8.out)).trans Z8.out); have nO_ := Aside0.mk (Kd.R_below HO.out hb5); have nB_ := Aside0.mk (below_step HB.out hb5); clear Z8 HO HB; have Z8 := nZ_; have HO := nO_; have HB := nB_; clear nZ_ nO_ nB_; clear z11 hb5; have za : (w6.alloc (.cells #[.int .i64 v0, .int .i64 v1, .int .i64 v2] 71)).heap[b8]? = some (.cells #[.slice (some ad4) sl.length c2, .slice A3 dl.length c3, .int .i64 x0, .int .i64 x1, .int .i64 x2] 93 (0, 0)) := ((below_alloc (Below.refl _ _) _).block b8 (blk_lt Z8.out)).trans Z8.out; have z82 : (w6.alloc (.cells #[.int .i64 v0, .int .i64 v1, .int .i64 v2] 71)).cell? ⟨b8, 2, none⟩ = some (.int .i64 x0) := (blk_cell za 2).trans rfl; have z83 : (w6.alloc (.cells #[.int .i64 v0, .int .i64 v1, .int .i64 v2] 71)).cell? ⟨b8, 3, none⟩ = some (.int .i64 x1) := (blk_cell za 3).trans rfl; have z84 : (w6.alloc (.cells #[.int .i64 v0, .int .i64 v1, .int .i64 v2] 71)).cell? ⟨b8, 4, none⟩ = some (.int .i64 x2) := (blk_cell za 4).trans rfl; have f82 := blk_frozen za 2; have f83 := blk_frozen za 3; have f84 := blk_frozen za 4; clear za) | (go_at_call 50; (with_reducible refine (style_notBelow.calls x0 x1 x2 v0 v1 v2 _ _ AN.out).mono ?_); rintro e w7 ⟨rfl, hb⟩; have hb5 := below_step (below_alloc (Below.refl w6.heap.size w6) _) hb; have zc := (hb.block w6.heap.size (by simp)).trans (heap_alloc_new w6 (.cells #[.int .i64 v0, .int .i64 v1, .int .i64 v2] 71)); have zc0 : w7.cell? ⟨w6.heap.size, 0, none⟩ = some (.int .i64 v0) := (blk_cell zc 0).trans rfl; have zc1 : w7.cell? ⟨w6.heap.size, 1, none⟩ = some (.int .i64 v1) := (blk_cell zc 1).trans rfl; have zc2 : w7.cell? ⟨w6.heap.size, 2, none⟩ = some (.int .i64 v2) := (blk_cell zc 2).trans rfl; clear zc z82 z83 z84 f82 f83 f84; have nZ_ := Aside0.mk ((hb5.block b8 (blk_lt Z8.out)).trans Z8.out); have nO_ := Aside0.mk (Kd.R_below HO.out hb5); have nB_ := Aside0.mk (below_step HB.out hb5); clear Z8 HO HB; have Z8 := nZ_; have HO := nO_; have HB := nB_; clear nZ_ nO_ nB_; clear hb hb5; have z82 : w7.cell? ⟨b8, 2, none⟩ = some (.int .i64 x0) := (blk_cell Z8.out 2).trans rfl; have z83 : w7.cell? ⟨b8, 3, none⟩ = some (.int .i64 x1) := (blk_cell Z8.out 3).trans rfl; have z84 : w7.cell? ⟨b8, 4, none⟩ = some (.int .i64 x2) := (blk_cell Z8.out 4).trans rfl; have f82 := blk_frozen Z8.out 2; have f83 := blk_frozen Z8.out 3; have f84 := blk_frozen Z8.out 4))
                go_roundg p
                case measure => exact Nat.lt_succ_self p
                case rel => exact ⟨j + 1, ((x0, x1, x2), true), by go_num, rfl, ⟨by have := HJ.out; omega⟩, HH3, Z8, HO, HB⟩
/-- A contest: has one won, its value, how much it weighs. -/
structure CS where
  won : Bool
  v : Int
  b0 : Int
  b1 : Int
  b2 : Int
def style_winner.decls (prop : Int) (x : Int × Int × Int) : List S47 → CS → CS
  | [], c => c
  | d :: r, c => style_winner.decls prop x r (if d.f0 = prop ∧ (c.won = false ∨ St.nb (c.b0, c.b1, c.b2) x = true) then ⟨true, d.f1, x.1, x.2.1, x.2.2⟩ else c)
def style_winner.go (prop : Int) : List WS → CS → CS
  | [], c => c
  | x :: r, c => style_winner.go prop r (style_winner.decls prop (x.w0, x.w1, x.w2) x.d c)
def style_winner.win (ms : List WS) (prop : Int) : CS := style_winner.go prop ms ⟨false, 0, 0, 0, 0⟩
theorem at_WS {W0 w : World} {A : Option Addr} {n : Nat} {xs : List WS} (h : Kd.C (kW W0) w A n xs) (i : Nat) (h1 : i < n) : ∃ ad As ns cs Ad cd, A = some ad ∧ w.cell? (ad.add (i * 5)) = some (.slice As ns cs) ∧ w.cell? ⟨(ad.add (i * 5)).block, (ad.add (i * 5)).off + 1, none⟩ = some (.slice Ad (xs.getD i zWS).d.length cd) ∧ w.cell? ⟨(ad.add (i * 5)).block, (ad.add (i * 5)).off + 2, none⟩ = some (.int .i64 (xs.getD i zWS).w0) ∧ w.cell? ⟨(ad.add (i * 5)).block, (ad.add (i * 5)).off + 3, none⟩ = some (.int .i64 (xs.getD i zWS).w1) ∧ w.cell? ⟨(ad.add (i * 5)).block, (ad.add (i * 5)).off + 4, none⟩ = some (.int .i64 (xs.getD i zWS).w2) ∧ (xs.getD i zWS).d.length ≤ cd ∧ Kd.C k47 W0 Ad (xs.getD i zWS).d.length (xs.getD i zWS).d := by
  obtain ⟨ad, c, e, _, hK, hc0⟩ := Kd.C_get h zWS (i : Int) (by omega) (by omega)
  rw [Int.toNat_natCast] at hK hc0
  have hc : ∀ j u, c[j]? = some u → w.cell? (ad.add (i * 5 + j)) = some u := hc0
  obtain ⟨As, ns, cs, Ad, cd, rfl, l1, g1⟩ := hK
  exact ⟨ad, As, ns, cs, Ad, cd, e, hc 0 _ rfl, by rw [← add_field _ _ 1 (by omega)]; exact hc 1 _ rfl, by rw [← add_field _ _ 2 (by omega)]; exact hc 2 _ rfl, by rw [← add_field _ _ 3 (by omega)]; exact hc 3 _ rfl, by rw [← add_field _ _ 4 (by omega)]; exact hc 4 _ rfl, l1, g1⟩
theorem drew_heap {w : World} {b : Nat} {o : Option Obj} (h : w.heap[b]? = o) : w.drew.heap[b]? = o := h
theorem five {w : World} {b t : Nat} {f a1 a2 a3 a4 a5 u1 u2 u3 u4 u5 : Value} (h : w.heap[b]? = some (.cells #[f, a1, a2, a3, a4, a5] t (0, 0))) : (((((w.setCell ⟨b, 1, none⟩ u1).setCell ⟨b, 2, none⟩ u2).setCell ⟨b, 3, none⟩ u3).setCell ⟨b, 4, none⟩ u4).setCell ⟨b, 5, none⟩ u5).drew.heap[b]? = some (.cells #[f, u1, u2, u3, u4, u5] t (0, 0)) := by
  have h1 : (w.setCell ⟨b, 1, none⟩ u1).heap[b]? = some (.cells #[f, u1, a2, a3, a4, a5] t (0, 0)) := heap_setCell_same w b 1 _ t _ h
  have h2 : ((w.setCell ⟨b, 1, none⟩ u1).setCell ⟨b, 2, none⟩ u2).heap[b]? = some (.cells #[f, u1, u2, a3, a4, a5] t (0, 0)) := heap_setCell_same _ b 2 _ t _ h1
  have h3 : (((w.setCell ⟨b, 1, none⟩ u1).setCell ⟨b, 2, none⟩ u2).setCell ⟨b, 3, none⟩ u3).heap[b]? = some (.cells #[f, u1, u2, u3, a4, a5] t (0, 0)) := heap_setCell_same _ b 3 _ t _ h2
  have h4 : ((((w.setCell ⟨b, 1, none⟩ u1).setCell ⟨b, 2, none⟩ u2).setCell ⟨b, 3, none⟩ u3).setCell ⟨b, 4, none⟩ u4).heap[b]? = some (.cells #[f, u1, u2, u3, u4, a5] t (0, 0)) := heap_setCell_same _ b 4 _ t _ h3
  have h5 : (((((w.setCell ⟨b, 1, none⟩ u1).setCell ⟨b, 2, none⟩ u2).setCell ⟨b, 3, none⟩ u3).setCell ⟨b, 4, none⟩ u4).setCell ⟨b, 5, none⟩ u5).heap[b]? = some (.cells #[f, u1, u2, u3, u4, u5] t (0, 0)) := heap_setCell_same _ b 5 _ t _ h4
  exact drew_heap h5
theorem five_far {w : World} {b k : Nat} {u1 u2 u3 u4 u5 : Value} {cs : Array Value} {t : Nat} (hne : k ≠ b) (h : w.heap[k]? = some (.cells cs t (0, 0))) : (((((w.setCell ⟨b, 1, none⟩ u1).setCell ⟨b, 2, none⟩ u2).setCell ⟨b, 3, none⟩ u3).setCell ⟨b, 4, none⟩ u4).setCell ⟨b, 5, none⟩ u5).drew.heap[k]? = some (.cells cs t (0, 0)) :=
  drew_heap (blk_far (blk_far (blk_far (blk_far (blk_far h hne _) hne _) hne _) hne _) hne _)
theorem five_below {w w0 : World} {b : Nat} {u1 u2 u3 u4 u5 : Value} (h : Below w0.heap.size w0 w) (hb : w0.heap.size ≤ b) : Below w0.heap.size w0 (((((w.setCell ⟨b, 1, none⟩ u1).setCell ⟨b, 2, none⟩ u2).setCell ⟨b, 3, none⟩ u3).setCell ⟨b, 4, none⟩ u4).setCell ⟨b, 5, none⟩ u5).drew :=
  below_drew1 (below_set (below_set (below_set (below_set (below_set h hb) hb) hb) hb) hb)
set_option maxHeartbeats 8000000 in
set_option maxRecDepth 100000 in
theorem style_winner.calls (W0 : World) (A0 : Option Addr) (c0 : Nat) (ms : List WS) (prop : Int) (w : World) (hW : Below W0.heap.size W0 w) (hr0 : Kd.C (kW W0) w A0 ms.length ms) (hc0 : ms.length ≤ c0) :
    Calls Try.prog 34 #[.slice A0 ms.length c0, .int .i64 prop] w fun e w' => e = .returned (.tuple #[.int .i64 (style_winner.win ms prop).v, .bool (style_winner.win ms prop).won]) ∧ Below w.heap.size w w' := by
  obtain ⟨R, hR⟩ : ∃ R, style_winner.win ms prop = R := ⟨_, rfl⟩
  rw [hR]
  have hml : ms.length ≤ 9223372036854775807 := hr0.2.1
  have HML := Aside0.mk hml
  have HW := Aside0.mk hW
  have HR0 := Aside0.mk hr0
  have HC0 := Aside0.mk hc0
  have HB := Aside0.mk (Below.refl w.heap.size w)
  have HG := Aside0.mk (show style_winner.go prop (ms.drop 0) ⟨false, 0, 0, 0, 0⟩ = R from hR)
  clear hW hr0 hc0 hR hml
  go_enter Try.func34, Try.ntmps34
  go_wp2
  have HGE : Aside0 (w.heap.size ≤ w.heap.size) := ⟨Nat.le_refl _⟩
  have Z6 : Aside0 ((w.alloc (.cells #[.func (.func 50) #[] #[], .bool false, .int .i64 0, .int .i64 0, .int .i64 0, .int .i64 0] 91)).heap[w.heap.size]? = some (.cells #[.func (.func 50) #[] #[], .bool false, .int .i64 0, .int .i64 0, .int .i64 0, .int .i64 0] 91 (0, 0))) := ⟨heap_alloc_new w _⟩
  have HB1 : Aside0 (Below w.heap.size w (w.alloc (.cells #[.func (.func 50) #[] #[], .bool false, .int .i64 0, .int .i64 0, .int .i64 0, .int .i64 0] 91))) := ⟨below_alloc HB.out _⟩
  obtain ⟨b6, hb6⟩ : ∃ z, z = w.heap.size := ⟨_, rfl⟩
  have HGE : Aside0 (w.heap.size ≤ b6) := ⟨by omega⟩
  rw [← hb6] at Z6 ⊢
  clear HB hb6
  generalize (w.alloc (.cells #[.func (.func 50) #[] #[], .bool false, .int .i64 0, .int .i64 0, .int .i64 0, .int .i64 0] 91)) = w1 at Z6 HB1 ⊢
  go_loopg [14] ms.length (fun kq v14 w' => ∃ (i : Nat) (c : CS), v14 = .int .i64 (i : Int) ∧ Aside0 (i + kq = ms.length) ∧ Aside0 (style_winner.go prop (ms.drop i) c = R) ∧ Aside0 (w'.heap[b6]? = some (.cells #[.func (.func 50) #[] #[], .bool c.won, .int .i64 c.v, .int .i64 c.b0, .int .i64 c.b1, .int .i64 c.b2] 91 (0, 0))) ∧ Aside0 (Below w.heap.size w w'))
  case atStart => exact ⟨0, ⟨false, 0, 0, 0, 0⟩, by first | rfl | simp, ⟨by omega⟩, HG, Z6, HB1⟩
  case round =>
    clear HG Z6 HB1
    obtain ⟨i, c, rfl, HK, HG, Z6, HB⟩ := hrel
    cases gk with
    | zero =>
      have e : c = R := by
        have := HG.out
        rw [List.drop_eq_nil_of_le (by have := HK.out; omega), style_winner.go] at this
        exact this
      subst e
      have m1 : decide ((i : Int) < (ms.length : Int)) = false := decide_eq_false (by have := HK.out; omega)
      have m2 : (i < ms.length) = False := eq_false (by have := HK.out; omega)
      have m3 : decide (i < ms.length) = false := decide_eq_false (by have := HK.out; omega)
      have z61 : wr.cell? ⟨b6, 1, none⟩ = some (.bool c.won) := (blk_cell Z6.out 1).trans rfl
      have z62 : wr.cell? ⟨b6, 2, none⟩ = some (.int .i64 c.v) := (blk_cell Z6.out 2).trans rfl
      clear HG Z6
      go_wp2
      repeat (go_quiet (fail); try go_wp2)
      go_ret2
      exact ⟨rfl, (by repeat (first | (with_reducible first | exact HB.out | apply below_alloc | apply pw_below_drewN | apply below_drew1) | exact HB.out))⟩
    | succ q =>
      have hi : i < ms.length := by have := HK.out; omega
      have H := HG.out
      rw [List.drop_eq_getElem_cons hi, style_winner.go] at H
      have eg : ms.getD i zWS = ms[i] := by simp [List.getD_eq_getElem?_getD, hi]
      obtain ⟨ad, As, ns, cs, Ad, cd, ead, hx0, hx1, hx2, hx3, hx4, hl5, hi5⟩ := at_WS HR0.out i hi
      rw [eg] at hx1 hx2 hx3 hx4 hl5 hi5
      obtain ⟨⟨dl, y0, y1, y2⟩, hx⟩ : ∃ x, ms[i] = x := ⟨_, rfl⟩
      rw [hx] at hx1 hx2 hx3 hx4 hl5 hi5 H
      dsimp only at hx1 hx2 hx3 hx4 hl5 hi5 H
      cases ead
      replace hx0 := pw_cell_below HB.out hx0
      replace hx1 := pw_cell_below HB.out hx1
      replace hx2 := pw_cell_below HB.out hx2
      replace hx3 := pw_cell_below HB.out hx3
      replace hx4 := pw_cell_below HB.out hx4
      have HG2 := Aside0.mk H
      have HI5 := Aside0.mk hi5
      have HI := Aside0.mk hi
      have m1 : decide ((i : Int) < (ms.length : Int)) = true := decide_eq_true (by omega)
      have m2 : ((i : Int) < (ms.length : Int)) = True := eq_true (by omega)
      have m3 : (0 ≤ (i : Int)) = True := eq_true (by omega)
      have m4 : (i < ms.length) = True := eq_true hi
      have m5 : decide (i < ms.length) = true := decide_eq_true hi
      clear H eg hx hl5 hi5 HG hi
      obtain ⟨R2, hR2⟩ : ∃ z, style_winner.decls prop (y0, y1, y2) dl c = z := ⟨_, rfl⟩
      have HG3 : Aside0 (style_winner.go prop (ms.drop (i + 1)) R2 = R) := ⟨by rw [← hR2]; exact HG2.out⟩
      have HD : Aside0 (style_winner.decls prop (y0, y1, y2) (dl.drop 0) c = R2) := ⟨hR2⟩
      clear hR2 HG2
      go_upto_region 5 with (fail)
      clear m1 m2 m3 m4 m5 hx0 hx1 hx2 hx3 hx4
      have z8 : Aside0 ((wr.alloc (.cells #[.slice As ns cs, .slice Ad dl.length cd, .int .i64 y0, .int .i64 y1, .int .i64 y2] 93)).heap[wr.heap.size]? = some (.cells #[.slice As ns cs, .slice Ad dl.length cd, .int .i64 y0, .int .i64 y1, .int .i64 y2] 93 (0, 0))) := ⟨heap_alloc_new wr _⟩
      have Z6n : Aside0 ((wr.alloc (.cells #[.slice As ns cs, .slice Ad dl.length cd, .int .i64 y0, .int .i64 y1, .int .i64 y2] 93)).heap[b6]? = some (.cells #[.func (.func 50) #[] #[], .bool c.won, .int .i64 c.v, .int .i64 c.b0, .int .i64 c.b1, .int .i64 c.b2] 91 (0, 0))) := ⟨((below_alloc (Below.refl _ _) _).block b6 (blk_lt Z6.out)).trans Z6.out⟩
      have hne : b6 ≠ wr.heap.size := Nat.ne_of_lt (blk_lt Z6.out)
      have HBn : Aside0 (Below w.heap.size w (wr.alloc (.cells #[.slice As ns cs, .slice Ad dl.length cd, .int .i64 y0, .int .i64 y1, .int .i64 y2] 93))) := ⟨below_alloc HB.out _⟩
      obtain ⟨b8, hb8⟩ : ∃ z, z = wr.heap.size := ⟨_, rfl⟩
      rw [← hb8] at z8 hne ⊢
      have HNE := Aside0.mk hne
      clear Z6 HB hb8 hne
      generalize (wr.alloc (.cells #[.slice As ns cs, .slice Ad dl.length cd, .int .i64 y0, .int .i64 y1, .int .i64 y2] 93)) = w2 at z8 Z6n HBn ⊢
      have z81 : w2.cell? ⟨b8, 1, none⟩ = some (.slice Ad dl.length cd) := (blk_cell z8.out 1).trans rfl
      go_wp2
      clear z81
      go_loopg [22] dl.length (fun kq v22 w' => ∃ (j : Nat) (c : CS), v22 = .int .i64 (j : Int) ∧ Aside0 (j + kq = dl.length) ∧ Aside0 (style_winner.decls prop (y0, y1, y2) (dl.drop j) c = R2) ∧ Aside0 (w'.heap[b6]? = some (.cells #[.func (.func 50) #[] #[], .bool c.won, .int .i64 c.v, .int .i64 c.b0, .int .i64 c.b1, .int .i64 c.b2] 91 (0, 0))) ∧ Aside0 (w'.heap[b8]? = some (.cells #[.slice As ns cs, .slice Ad dl.length cd, .int .i64 y0, .int .i64 y1, .int .i64 y2] 93 (0, 0))) ∧ Aside0 (Below w.heap.size w w'))
      case atStart => exact ⟨0, c, by first | rfl | simp, ⟨by omega⟩, HD, Z6n, z8, HBn⟩
      case round =>
        clear HD Z6n z8 HBn
        clear c
        obtain ⟨j, c, rfl, HJ, HD, Z6, Z8, HB⟩ := hrel
        cases gk with
        | zero =>
          have e : c = R2 := by
            have := HD.out
            rw [List.drop_eq_nil_of_le (by have := HJ.out; omega), style_winner.decls] at this
            exact this
          subst e
          have m1 : decide ((j : Int) < (dl.length : Int)) = false := decide_eq_false (by have := HJ.out; omega)
          have m2 : (j < dl.length) = False := eq_false (by have := HJ.out; omega)
          have m3 : decide (j < dl.length) = false := decide_eq_false (by have := HJ.out; omega)
          have p6 : IntKind.i64.wrap ((i : Int) + 1) = (i : Int) + 1 := by have := HI.out; have := HML.out; rw [IntKind.wrap_i64]; omega
          clear HD
          go_wp2
          go_roundg q
          case measure => exact Nat.lt_succ_self q
          case rel => exact ⟨i + 1, c, by go_num, ⟨by have := HK.out; omega⟩, HG3, Z6, HB⟩
        | succ p =>
          have hj : j < dl.length := by have := HJ.out; omega
          have ed : dl.drop j = rd_T47 dl (j : Int) :: dl.drop (j + 1) := by
            rw [List.drop_eq_getElem_cons hj]
            simp [rd_T47, List.getD_eq_getElem?_getD, hj]
          have H := HD.out
          rw [ed, style_winner.decls] at H
          obtain ⟨adn, eadn, hd0, hd1⟩ := at_T47 HI5.out (j : Int) (by omega) (by omega)
          cases eadn
          rw [Int.toNat_natCast] at hd0 hd1
          replace hd0 := pw_cell_below (below_step HW.out HB.out) hd0
          replace hd1 := pw_cell_below (below_step HW.out HB.out) hd1
          obtain ⟨⟨dp, dv⟩, hd⟩ : ∃ x, rd_T47 dl (j : Int) = x := ⟨_, rfl⟩
          rw [hd] at hd0 hd1 H
          dsimp only at hd0 hd1 H
          have hlen : dl.length ≤ 9223372036854775807 := HI5.out.2.1
          have HH := Aside0.mk H
          have p6 : IntKind.i64.wrap ((j : Int) + 1) = (j : Int) + 1 := by rw [IntKind.wrap_i64]; omega
          have m1 : decide ((j : Int) < (dl.length : Int)) = true := decide_eq_true (by omega)
          have m2 : ((j : Int) < (dl.length : Int)) = True := eq_true (by omega)
          have m3 : (0 ≤ (j : Int)) = True := eq_true (by omega)
          have m4 : (j < dl.length) = True := eq_true hj
          have m5 : decide (j < dl.length) = true := decide_eq_true hj
          clear H hd ed HD hj hlen
          obtain ⟨cw, cv, c0', c1', c2'⟩ := c
          by_cases e1 : dp = prop
          rotate_left
          · have e1b : (dp == prop) = false := beq_eq_false_iff_ne.mpr e1
            have HH2 : Aside0 (style_winner.decls prop (y0, y1, y2) (dl.drop (j + 1)) ⟨cw, cv, c0', c1', c2'⟩ = R2) := ⟨by have := HH.out; rw [if_neg (fun z => e1 z.1)] at this; exact this⟩
            clear HH e1
            go_wp2
            go_roundg p
            case measure => exact Nat.lt_succ_self p
            case rel => exact ⟨j + 1, ⟨cw, cv, c0', c1', c2'⟩, by go_num, ⟨by have := HJ.out; omega⟩, HH2, ⟨((below_alloc (Below.refl _ _) _).block b6 (blk_lt Z6.out)).trans Z6.out⟩, ⟨((below_alloc (Below.refl _ _) _).block b8 (blk_lt Z8.out)).trans Z8.out⟩, ⟨(by repeat (first | (with_reducible first | exact HB.out | apply below_alloc | apply pw_below_drewN | apply below_drew1) | exact HB.out))⟩⟩
          subst e1
          go_upto_region 8 with (fail)
          clear m1 m2 m3 m4 m5 hd0 hd1
          have z10 : (wr.alloc (.cells #[.int .i64 dp, .int .i64 dv] 47)).heap[wr.heap.size]? = some (.cells #[.int .i64 dp, .int .i64 dv] 47 (0, 0)) := heap_alloc_new wr _
          have z6 : (wr.alloc (.cells #[.int .i64 dp, .int .i64 dv] 47)).heap[b6]? = some (.cells #[.func (.func 50) #[] #[], .bool cw, .int .i64 cv, .int .i64 c0', .int .i64 c1', .int .i64 c2'] 91 (0, 0)) := ((below_alloc (Below.refl _ _) _).block b6 (blk_lt Z6.out)).trans Z6.out
          have z8 : (wr.alloc (.cells #[.int .i64 dp, .int .i64 dv] 47)).heap[b8]? = some (.cells #[.slice As ns cs, .slice (some adn) dl.length cd, .int .i64 y0, .int .i64 y1, .int .i64 y2] 93 (0, 0)) := ((below_alloc (Below.refl _ _) _).block b8 (blk_lt Z8.out)).trans Z8.out
          have hb := below_alloc HB.out (.cells #[.int .i64 dp, .int .i64 dv] 47)
          obtain ⟨b10, hb10⟩ : ∃ z, z = wr.heap.size := ⟨_, rfl⟩
          have hne1 : b6 ≠ wr.heap.size := Nat.ne_of_lt (blk_lt Z6.out)
          rw [← hb10] at z10 hne1 ⊢
          have HNE10 := Aside0.mk hne1
          clear Z6 Z8 HB hb10 hne1
          have Z10 := Aside0.mk z10
          have Z6 := Aside0.mk z6
          have Z8 := Aside0.mk z8
          have HB := Aside0.mk hb
          clear z10 z6 z8 hb
          generalize (wr.alloc (.cells #[.int .i64 dp, .int .i64 dv] 47)) = w3 at Z10 Z6 Z8 HB ⊢
          obtain ⟨n_, hn_⟩ : ∃ n_, St.nb (c0', c1', c2') (y0, y1, y2) = n_ := ⟨_, rfl⟩
          have AN : Aside0 (style_notBelow.f c0' c1' c2' y0 y1 y2 = some n_) := ⟨congrArg some hn_⟩
          have hne6 := HNE10.out
          have hne6' := Ne.symm HNE10.out
          have hne8 := HNE.out
          have hne8' := Ne.symm HNE.out
          have q0 : w3.cell? ⟨b6, 0, none⟩ = some (.func (.func 50) #[] #[]) := (blk_cell Z6.out 0).trans rfl; have q1 : w3.cell? ⟨b6, 1, none⟩ = some (.bool cw) := (blk_cell Z6.out 1).trans rfl; have q2 : w3.cell? ⟨b6, 2, none⟩ = some (.int .i64 cv) := (blk_cell Z6.out 2).trans rfl; have q3 : w3.cell? ⟨b6, 3, none⟩ = some (.int .i64 c0') := (blk_cell Z6.out 3).trans rfl; have q4 : w3.cell? ⟨b6, 4, none⟩ = some (.int .i64 c1') := (blk_cell Z6.out 4).trans rfl; have q5 : w3.cell? ⟨b6, 5, none⟩ = some (.int .i64 c2') := (blk_cell Z6.out 5).trans rfl; have f1 := blk_frozen Z6.out 1; have f2 := blk_frozen Z6.out 2; have f3 := blk_frozen Z6.out 3; have f4 := blk_frozen Z6.out 4; have f5 := blk_frozen Z6.out 5; have s2 : w3.cell? ⟨b8, 2, none⟩ = some (.int .i64 y0) := (blk_cell Z8.out 2).trans rfl; have s3 : w3.cell? ⟨b8, 3, none⟩ = some (.int .i64 y1) := (blk_cell Z8.out 3).trans rfl; have s4 : w3.cell? ⟨b8, 4, none⟩ = some (.int .i64 y2) := (blk_cell Z8.out 4).trans rfl; have t0 : w3.cell? ⟨b10, 0, none⟩ = some (.int .i64 dp) := (blk_cell Z10.out 0).trans rfl; have t1 : w3.cell? ⟨b10, 1, none⟩ = some (.int .i64 dv) := (blk_cell Z10.out 1).trans rfl
          cases cw with
          | false =>
            have HH2 : Aside0 (style_winner.decls dp (y0, y1, y2) (dl.drop (j + 1)) ⟨true, dv, y0, y1, y2⟩ = R2) := ⟨by have := HH.out; rw [if_pos ⟨rfl, .inl rfl⟩] at this; exact this⟩
            clear HH hn_ AN
            go_wp2
            go_region_held3 (fun w' => w'.cell? ⟨b10, 1, none⟩ = some (.int .i64 dv) ∧ w'.cell? ⟨b8, 2, none⟩ = some (.int .i64 y0) ∧ w'.cell? ⟨b8, 3, none⟩ = some (.int .i64 y1) ∧ w'.cell? ⟨b8, 4, none⟩ = some (.int .i64 y2)) (simp [*, World.cell?_alloc_some, World.cell?_setCell_far, World.cell?_setCell_other]) (fail)
            go_wp2
            go_roundg p
            case measure => exact Nat.lt_succ_self p
            case rel => exact ⟨j + 1, ⟨true, dv, y0, y1, y2⟩, by go_num, ⟨by have := HJ.out; omega⟩, HH2, ⟨five Z6.out⟩, ⟨five_far (Ne.symm HNE.out) Z8.out⟩, ⟨five_below HB.out HGE.out⟩⟩
          | true =>
            cases n_ with
            | true =>
              have HH2 : Aside0 (style_winner.decls dp (y0, y1, y2) (dl.drop (j + 1)) ⟨true, dv, y0, y1, y2⟩ = R2) := ⟨by have := HH.out; rw [if_pos ⟨rfl, .inr hn_⟩] at this; exact this⟩
              clear HH hn_
              go_wp2_with (first | (go_at_call 50; (with_reducible refine (style_notBelow.calls c0' c1' c2' y0 y1 y2 _ _ AN.out).mono ?_); rintro e w5 ⟨rfl, hb⟩; clear q0 q1 q2 q3 q4 q5 f1 f2 f3 f4 f5 s2 s3 s4 t0 t1; have nZ_ := Aside0.mk ((hb.block b6 (blk_lt Z6.out)).trans Z6.out); have nY_ := Aside0.mk ((hb.block b8 (blk_lt Z8.out)).trans Z8.out); have nX_ := Aside0.mk ((hb.block b10 (blk_lt Z10.out)).trans Z10.out); have nB_ := Aside0.mk (below_step HB.out hb); clear Z6 Z8 Z10 HB; have Z6 := nZ_; have Z8 := nY_; have Z10 := nX_; have HB := nB_; clear nZ_ nY_ nX_ nB_; clear hb; have q0 : w5.cell? ⟨b6, 0, none⟩ = some (.func (.func 50) #[] #[]) := (blk_cell Z6.out 0).trans rfl; have q1 : w5.cell? ⟨b6, 1, none⟩ = some (.bool true) := (blk_cell Z6.out 1).trans rfl; have q2 : w5.cell? ⟨b6, 2, none⟩ = some (.int .i64 cv) := (blk_cell Z6.out 2).trans rfl; have q3 : w5.cell? ⟨b6, 3, none⟩ = some (.int .i64 c0') := (blk_cell Z6.out 3).trans rfl; have q4 : w5.cell? ⟨b6, 4, none⟩ = some (.int .i64 c1') := (blk_cell Z6.out 4).trans rfl; have q5 : w5.cell? ⟨b6, 5, none⟩ = some (.int .i64 c2') := (blk_cell Z6.out 5).trans rfl; have f1 := blk_frozen Z6.out 1; have f2 := blk_frozen Z6.out 2; have f3 := blk_frozen Z6.out 3; have f4 := blk_frozen Z6.out 4; have f5 := blk_frozen Z6.out 5; have s2 : w5.cell? ⟨b8, 2, none⟩ = some (.int .i64 y0) := (blk_cell Z8.out 2).trans rfl; have s3 : w5.cell? ⟨b8, 3, none⟩ = some (.int .i64 y1) := (blk_cell Z8.out 3).trans rfl; have s4 : w5.cell? ⟨b8, 4, none⟩ = some (.int .i64 y2) := (blk_cell Z8.out 4).trans rfl; have t0 : w5.cell? ⟨b10, 0, none⟩ = some (.int .i64 dp) := (blk_cell Z10.out 0).trans rfl; have t1 : w5.cell? ⟨b10, 1, none⟩ = some (.int .i64 dv) := (blk_cell Z10.out 1).trans rfl))
              go_region_held3 (fun w' => w'.cell? ⟨b10, 1, none⟩ = some (.int .i64 dv) ∧ w'.cell? ⟨b8, 2, none⟩ = some (.int .i64 y0) ∧ w'.cell? ⟨b8, 3, none⟩ = some (.int .i64 y1) ∧ w'.cell? ⟨b8, 4, none⟩ = some (.int .i64 y2)) (simp [*, World.cell?_alloc_some, World.cell?_setCell_far, World.cell?_setCell_other]) (fail)
              go_wp2
              go_roundg p
              case measure => exact Nat.lt_succ_self p
              case rel => exact ⟨j + 1, ⟨true, dv, y0, y1, y2⟩, by go_num, ⟨by have := HJ.out; omega⟩, HH2, ⟨five Z6.out⟩, ⟨five_far (Ne.symm HNE.out) Z8.out⟩, ⟨five_below HB.out HGE.out⟩⟩
            | false =>
              have HH2 : Aside0 (style_winner.decls dp (y0, y1, y2) (dl.drop (j + 1)) ⟨true, cv, c0', c1', c2'⟩ = R2) := ⟨by have := HH.out; rw [if_neg (fun z => z.2.elim (fun y => by simp at y) (fun y => by rw [hn_] at y; simp at y))] at this; exact this⟩
              clear HH hn_
              go_wp2_with (first | (go_at_call 50; (with_reducible refine (style_notBelow.calls c0' c1' c2' y0 y1 y2 _ _ AN.out).mono ?_); rintro e w5 ⟨rfl, hb⟩; clear q0 q1 q2 q3 q4 q5 f1 f2 f3 f4 f5 s2 s3 s4 t0 t1; have nZ_ := Aside0.mk ((hb.block b6 (blk_lt Z6.out)).trans Z6.out); have nY_ := Aside0.mk ((hb.block b8 (blk_lt Z8.out)).trans Z8.out); have nX_ := Aside0.mk ((hb.block b10 (blk_lt Z10.out)).trans Z10.out); have nB_ := Aside0.mk (below_step HB.out hb); clear Z6 Z8 Z10 HB; have Z6 := nZ_; have Z8 := nY_; have Z10 := nX_; have HB := nB_; clear nZ_ nY_ nX_ nB_; clear hb; have q0 : w5.cell? ⟨b6, 0, none⟩ = some (.func (.func 50) #[] #[]) := (blk_cell Z6.out 0).trans rfl; have q1 : w5.cell? ⟨b6, 1, none⟩ = some (.bool true) := (blk_cell Z6.out 1).trans rfl; have q2 : w5.cell? ⟨b6, 2, none⟩ = some (.int .i64 cv) := (blk_cell Z6.out 2).trans rfl; have q3 : w5.cell? ⟨b6, 3, none⟩ = some (.int .i64 c0') := (blk_cell Z6.out 3).trans rfl; have q4 : w5.cell? ⟨b6, 4, none⟩ = some (.int .i64 c1') := (blk_cell Z6.out 4).trans rfl; have q5 : w5.cell? ⟨b6, 5, none⟩ = some (.int .i64 c2') := (blk_cell Z6.out 5).trans rfl; have f1 := blk_frozen Z6.out 1; have f2 := blk_frozen Z6.out 2; have f3 := blk_frozen Z6.out 3; have f4 := blk_frozen Z6.out 4; have f5 := blk_frozen Z6.out 5; have s2 : w5.cell? ⟨b8, 2, none⟩ = some (.int .i64 y0) := (blk_cell Z8.out 2).trans rfl; have s3 : w5.cell? ⟨b8, 3, none⟩ = some (.int .i64 y1) := (blk_cell Z8.out 3).trans rfl; have s4 : w5.cell? ⟨b8, 4, none⟩ = some (.int .i64 y2) := (blk_cell Z8.out 4).trans rfl; have t0 : w5.cell? ⟨b10, 0, none⟩ = some (.int .i64 dp) := (blk_cell Z10.out 0).trans rfl; have t1 : w5.cell? ⟨b10, 1, none⟩ = some (.int .i64 dv) := (blk_cell Z10.out 1).trans rfl))
              go_roundg p
              case measure => exact Nat.lt_succ_self p
              case rel => exact ⟨j + 1, ⟨true, cv, c0', c1', c2'⟩, by go_num, ⟨by have := HJ.out; omega⟩, HH2, Z6, Z8, HB⟩
theorem style_matching.sel_mono (k : Nat) (path : List S56) : ∀ (l : List S45) (X : (Int × Int × Int) × Bool), LeO (style_matching.sel k path l X) (style_matching.sel (k + 1) path l X)
  | [], X => LeO.refl _
  | s :: r, X => by
    rw [style_matching.sel, style_matching.sel]
    exact LeO.bind (sheet_Match.mono _ _ _) (fun m => LeO.ite (style_matching.sel_mono k path r X) (LeO.bind (LeO.refl _) (fun v => style_matching.sel_mono k path r _)))
theorem style_matching.go_mono (k : Nat) (path : List S56) : ∀ (l : List S41) (out : List WS), LeO (style_matching.go k path l out) (style_matching.go (k + 1) path l out)
  | [], out => LeO.refl _
  | x :: r, out => by
    rw [style_matching.go, style_matching.go]
    exact LeO.bind (style_matching.sel_mono k path _ _) (fun X => style_matching.go_mono k path r _)
theorem style_matching.mono : ∀ a0 a1 k, LeO (style_matching.f k a0 a1) (style_matching.f (k + 1) a0 a1) := by
  intro a0 a1 k
  unfold style_matching.f
  exact LeO.ite (style_matching.go_mono k a1 a0 []) (LeO.refl _)
def style_Winner.f (k : Nat) (l : List S41) (path : List S56) (prop : Int) : Option (Int × Bool) := (style_matching.f k l path).bind fun ms => some ((style_winner.win ms prop).v, (style_winner.win ms prop).won)
theorem style_Winner.mono : ∀ a0 a1 a2 k, LeO (style_Winner.f k a0 a1 a2) (style_Winner.f (k + 1) a0 a1 a2) := by
  intro a0 a1 a2 k
  unfold style_Winner.f
  exact LeO.bind (style_matching.mono _ _ _) (fun _ => LeO.refl _)
set_option maxHeartbeats 8000000 in
set_option maxRecDepth 100000 in
theorem style_Winner.calls (k : Nat) (A0 : Option Addr) (c0 : Nat) (l0 : List (S41)) (A1 : Option Addr) (c1 : Nat) (l1 : List (S56)) (a2 : Int) (r1 : Int) (r2 : Bool) (w : World) (hr0 : Kd.C k41 w A0 l0.length l0) (hc0 : l0.length ≤ c0) (hr1 : Kd.C k56 w A1 l1.length l1) (hc1 : l1.length ≤ c1) (h : style_Winner.f k l0 l1 a2 = some (r1, r2)) :
    Calls Try.prog 12 #[.slice A0 l0.length c0, .slice A1 l1.length c1, .int .i64 a2] w fun e w' => e = .returned (.tuple #[.int .i64 r1, .bool r2]) ∧ Below w.heap.size w w' := by
  have HR0 := Aside0.mk hr0
  have HC0 := Aside0.mk hc0
  have HR1 := Aside0.mk hr1
  have HC1 := Aside0.mk hc1
  have HB := Aside0.mk (Below.refl w.heap.size w)
  clear hr0 hc0 hr1 hc1
  unfold style_Winner.f at h
  obtain ⟨ms, AM0, H⟩ := Option.bind_eq_some_iff.mp h
  have AM := Aside0.mk AM0
  simp only [Option.some.injEq, Prod.mk.injEq] at H
  have HH := Aside0.mk H
  clear H h AM0
  go_enter Try.func12, Try.ntmps12
  go_wp2_with (first | (go_at_call 35; (with_reducible refine (style_matching.calls w k A0 c0 l0 A1 c1 l1 ms _ HB.out HR0.out HC0.out (Kd.C_below HR1.out HB.out) HC1.out AM.out).mono ?_); rintro e w5 ⟨v5, rfl, ho, hb⟩; obtain ⟨A7, c7, e7⟩ := Kd.R_slice ho; subst e7; have HO := Aside0.mk ho; have nB_ := Aside0.mk (below_step HB.out hb); clear HB; have HB := nB_; clear nB_ ho hb) | (go_at_call 34; (with_reducible refine (style_winner.calls w A7 c7 ms a2 _ HB.out (Kd.R_reads' HO.out).2.2 (Kd.R_reads' HO.out).2.1).mono ?_); rintro e w6 ⟨rfl, hb⟩; have nB_ := Aside0.mk (below_step HB.out hb); clear HB; have HB := nB_; clear nB_ hb))
  go_ret2
  exact ⟨by have h_ := HH.out; simp [h_.1, h_.2], (by repeat (first | (with_reducible first | exact HB.out | apply below_alloc | apply pw_below_drewN | apply below_drew1) | exact HB.out))⟩

/-! ### style_First: function 18 -/
def style_First.f  : Option (Int × Int × Int × Int × Int × Int × Int × Int × Int) := some (0, 655360, 786432, 0, 0, 0, 0, 0, 1)
set_option maxHeartbeats 8000000 in
set_option maxRecDepth 100000 in
theorem style_First.calls  (r1 : Int) (r2 : Int) (r3 : Int) (r4 : Int) (r5 : Int) (r6 : Int) (r7 : Int) (r8 : Int) (r9 : Int) (w : World) (h : style_First.f  = some (r1, r2, r3, r4, r5, r6, r7, r8, r9)) :
    Calls Try.prog 18 #[] w fun e w' => e = .returned (.agg #[.int .i64 r1, .int .i64 r2, .int .i64 r3, .int .i64 r4, .int .i64 r5, .int .i64 r6, .int .i64 r7, .int .i64 r8, .int .i64 r9]) ∧ Below w.heap.size w w' := by
  have hu33 := Try.underlying33
  have HB := Aside0.mk (Below.refl w.heap.size w)
  have H : (some (0, 655360, 786432, 0, 0, 0, 0, 0, 1)) = some (r1, r2, r3, r4, r5, r6, r7, r8, r9) := h
  clear h
  simp only [Option.some.injEq, Prod.mk.injEq] at H
  obtain ⟨rfl, rfl, rfl, rfl, rfl, rfl, rfl, rfl, rfl⟩ := H
  go_enter Try.func18, Try.ntmps18
  go_wp2_with (first | ((with_reducible refine gate_dst (N := 0) rfl ?_); refine box_event ?hg (N := 0) ?hd (cs := #[.int .i64 0, .int .i64 0, .int .i64 0, .int .i64 0, .int .i64 0, .int .i64 0, .int .i64 0, .int .i64 0, .int .i64 0]) (t := 33) ?hr ?_; (case hd => rfl); (case hg => rfl); (case hr => first | (go_simp; done) | (go_simp; rfl)); intro gb107 hg w1 hbox hb; have n0_ := Aside0.mk (below_step (by repeat (first | (with_reducible first | exact HB.out | apply below_alloc | apply pw_below_drewN | apply below_drew1) | exact HB.out)) hb); have n1_ := Aside0.mk (hbox); have n2_ := Aside0.mk ((by rw [hg]; exact (below_size (by repeat (first | (with_reducible first | exact HB.out | apply below_alloc | apply pw_below_drewN | apply below_drew1) | exact HB.out))) : w.heap.size ≤ gb107)); have n3_ := Aside0.mk ((by rw [hg]; exact (below_size (by repeat (first | (with_reducible first | exact HB.out | apply below_alloc | apply pw_below_drewN | apply below_drew1) | exact HB.out))) : w.heap.size ≤ gb107)); clear HB; have HB := n0_; have BK107 := n1_; have GW107 := n2_; have GE107 := n3_; clear n0_ n1_ n2_ n3_; clear hb hbox hg; have hcz2_0 : w1.cell? ⟨gb107, 0, none⟩ = some (.int .i64 0) := (blk_cell BK107.out 0).trans rfl; have hcz2_1 : w1.cell? ⟨gb107, 1, none⟩ = some (.int .i64 0) := (blk_cell BK107.out 1).trans rfl; have hcz2_2 : w1.cell? ⟨gb107, 2, none⟩ = some (.int .i64 0) := (blk_cell BK107.out 2).trans rfl; have hcz2_3 : w1.cell? ⟨gb107, 3, none⟩ = some (.int .i64 0) := (blk_cell BK107.out 3).trans rfl; have hcz2_4 : w1.cell? ⟨gb107, 4, none⟩ = some (.int .i64 0) := (blk_cell BK107.out 4).trans rfl; have hcz2_5 : w1.cell? ⟨gb107, 5, none⟩ = some (.int .i64 0) := (blk_cell BK107.out 5).trans rfl; have hcz2_6 : w1.cell? ⟨gb107, 6, none⟩ = some (.int .i64 0) := (blk_cell BK107.out 6).trans rfl; have hcz2_7 : w1.cell? ⟨gb107, 7, none⟩ = some (.int .i64 0) := (blk_cell BK107.out 7).trans rfl; have hcz2_8 : w1.cell? ⟨gb107, 8, none⟩ = some (.int .i64 0) := (blk_cell BK107.out 8).trans rfl; have hfz2_0 := blk_frozen BK107.out 0; have hfz2_1 := blk_frozen BK107.out 1; have hfz2_2 := blk_frozen BK107.out 2; have hfz2_3 := blk_frozen BK107.out 3; have hfz2_4 := blk_frozen BK107.out 4; have hfz2_5 := blk_frozen BK107.out 5; have hfz2_6 := blk_frozen BK107.out 6; have hfz2_7 := blk_frozen BK107.out 7; have hfz2_8 := blk_frozen BK107.out 8))
  refine bodyPost_ret (results_cell_row rfl _ _ gb107 33 #[.int .i64 0, .int .i64 655360, .int .i64 786432, .int .i64 0, .int .i64 0, .int .i64 0, .int .i64 0, .int .i64 0, .int .i64 1] (0, 0) _ rfl (by (with_reducible repeat (first | refine blk_drewN ?_ _ | refine blk_drew ?_ | refine blk_alloc ?_ _)); refine blk_put (cs := #[.int .i64 0, .int .i64 655360, .int .i64 786432, .int .i64 0, .int .i64 0, .int .i64 0, .int .i64 0, .int .i64 0, .int .i64 0]) ?_ 8 _ rfl; (with_reducible repeat (first | refine blk_drewN ?_ _ | refine blk_drew ?_ | refine blk_alloc ?_ _)); refine blk_put (cs := #[.int .i64 0, .int .i64 655360, .int .i64 786432, .int .i64 0, .int .i64 0, .int .i64 0, .int .i64 0, .int .i64 0, .int .i64 0]) ?_ 7 _ rfl; (with_reducible repeat (first | refine blk_drewN ?_ _ | refine blk_drew ?_ | refine blk_alloc ?_ _)); refine blk_put (cs := #[.int .i64 0, .int .i64 655360, .int .i64 786432, .int .i64 0, .int .i64 0, .int .i64 0, .int .i64 0, .int .i64 0, .int .i64 0]) ?_ 6 _ rfl; (with_reducible repeat (first | refine blk_drewN ?_ _ | refine blk_drew ?_ | refine blk_alloc ?_ _)); refine blk_put (cs := #[.int .i64 0, .int .i64 655360, .int .i64 786432, .int .i64 0, .int .i64 0, .int .i64 0, .int .i64 0, .int .i64 0, .int .i64 0]) ?_ 5 _ rfl; (with_reducible repeat (first | refine blk_drewN ?_ _ | refine blk_drew ?_ | refine blk_alloc ?_ _)); refine blk_put (cs := #[.int .i64 0, .int .i64 655360, .int .i64 786432, .int .i64 0, .int .i64 0, .int .i64 0, .int .i64 0, .int .i64 0, .int .i64 0]) ?_ 4 _ rfl; (with_reducible repeat (first | refine blk_drewN ?_ _ | refine blk_drew ?_ | refine blk_alloc ?_ _)); refine blk_put (cs := #[.int .i64 0, .int .i64 655360, .int .i64 786432, .int .i64 0, .int .i64 0, .int .i64 0, .int .i64 0, .int .i64 0, .int .i64 0]) ?_ 3 _ rfl; (with_reducible repeat (first | refine blk_drewN ?_ _ | refine blk_drew ?_ | refine blk_alloc ?_ _)); refine blk_put (cs := #[.int .i64 0, .int .i64 655360, .int .i64 0, .int .i64 0, .int .i64 0, .int .i64 0, .int .i64 0, .int .i64 0, .int .i64 0]) ?_ 2 _ rfl; (with_reducible repeat (first | refine blk_drewN ?_ _ | refine blk_drew ?_ | refine blk_alloc ?_ _)); refine blk_put (cs := #[.int .i64 0, .int .i64 0, .int .i64 0, .int .i64 0, .int .i64 0, .int .i64 0, .int .i64 0, .int .i64 0, .int .i64 0]) ?_ 1 _ rfl; (with_reducible repeat (first | refine blk_drewN ?_ _ | refine blk_drew ?_ | refine blk_alloc ?_ _)); refine blk_put (cs := #[.int .i64 0, .int .i64 0, .int .i64 0, .int .i64 0, .int .i64 0, .int .i64 0, .int .i64 0, .int .i64 0, .int .i64 0]) ?_ 0 _ rfl; (with_reducible repeat (first | refine blk_drewN ?_ _ | refine blk_drew ?_ | refine blk_alloc ?_ _)); exact BK107.out) Try.underlying33 rfl (by kernel_rfl)) rfl ?_
  exact ⟨by first | rfl | (simp [errW_none, errW_some] <;> rfl) | (simp [*, errW_none, errW_some] <;> rfl), by repeat (first | (with_reducible first | exact HB.out | apply below_alloc | apply pw_below_drewN | apply below_drew1 | refine below_set ?_ GE107.out) | exact HB.out)⟩

/-! ### style_inherited: function 39 -/
def style_inherited.f (a0 : Int) : Option (Bool) := if a0 = 5 then (some false) else (if a0 = 6 then (some false) else (some (a0 != 7)))
set_option maxHeartbeats 8000000 in
set_option maxRecDepth 100000 in
theorem style_inherited.calls (a0 : Int) (r : Bool) (w : World) (h : style_inherited.f a0 = some r) :
    Calls Try.prog 39 #[.int .i64 a0] w fun e w' => e = .returned (.bool r) ∧ Drawn0 w w' := by
  have H : (if a0 = 5 then (some false) else (if a0 = 6 then (some false) else (some (a0 != 7)))) = some r := h
  clear h
  by_cases c2 : a0 = 5
  · rw [if_pos c2] at H
    have c2b0 : (a0 == 5) = true := beq_iff_eq.mpr c2
    have c2b1 : (a0 != 5) = false := bne_eq_false_iff_eq.mpr c2
    clear c2
    obtain rfl := Option.some.inj H
    go_enter Try.func39, Try.ntmps39
    go_wp2
    go_ret
    exact ⟨by first | rfl | (simp; done) | (simp [*]; done), by repeat (first | exact Drawn0.refl _ | apply Drawn0.step)⟩
  · rw [if_neg c2] at H
    have c2b0 : (a0 == 5) = false := beq_eq_false_iff_ne.mpr c2
    have c2b1 : (a0 != 5) = true := bne_iff_ne.mpr c2
    by_cases c3 : a0 = 6
    · rw [if_pos c3] at H
      have c3b0 : (a0 == 6) = true := beq_iff_eq.mpr c3
      have c3b1 : (a0 != 6) = false := bne_eq_false_iff_eq.mpr c3
      clear c3
      obtain rfl := Option.some.inj H
      go_enter Try.func39, Try.ntmps39
      go_wp2
      go_ret
      exact ⟨by first | rfl | (simp; done) | (simp [*]; done), by repeat (first | exact Drawn0.refl _ | apply Drawn0.step)⟩
    · rw [if_neg c3] at H
      have c3b0 : (a0 == 6) = false := beq_eq_false_iff_ne.mpr c3
      have c3b1 : (a0 != 6) = true := bne_iff_ne.mpr c3
      obtain rfl := Option.some.inj H
      go_enter Try.func39, Try.ntmps39
      go_wp2
      go_ret
      exact ⟨by first | rfl | (simp; done) | (simp [*]; done), by repeat (first | exact Drawn0.refl _ | apply Drawn0.step)⟩

/-! ### style_Of: function 16 -/
def style_Of.loop (ms : List WS) (P : List Int) : Nat → Nat → List Int → List Int
  | 0, _, S => S
  | c + 1, p, S => style_Of.loop ms P c (p + 1) (if (style_winner.win ms (p : Int)).won = true then S.set p (style_winner.win ms (p : Int)).v else if St.inh p = true then S.set p (P.getD p 0) else S)
def style_Of.f (k : Nat) (l : List S41) (path : List S56) (a2_0 a2_1 a2_2 a2_3 a2_4 a2_5 a2_6 a2_7 a2_8 : Int) : Option (Int × Int × Int × Int × Int × Int × Int × Int × Int) := (style_matching.f k l path).bind fun ms => St.tup9 (style_Of.loop ms [a2_0, a2_1, a2_2, a2_3, a2_4, a2_5, a2_6, a2_7, a2_8] 9 0 [0, 655360, 786432, 0, 0, 0, 0, 0, 1])
theorem style_Of.mono : ∀ a0 a1 a2_0 a2_1 a2_2 a2_3 a2_4 a2_5 a2_6 a2_7 a2_8 k, LeO (style_Of.f k a0 a1 a2_0 a2_1 a2_2 a2_3 a2_4 a2_5 a2_6 a2_7 a2_8) (style_Of.f (k + 1) a0 a1 a2_0 a2_1 a2_2 a2_3 a2_4 a2_5 a2_6 a2_7 a2_8) := by
  intro a0 a1 a2_0 a2_1 a2_2 a2_3 a2_4 a2_5 a2_6 a2_7 a2_8 k
  unfold style_Of.f
  exact LeO.bind (style_matching.mono _ _ _) (fun _ => LeO.refl _)
theorem style_Of.inh_f : ∀ p : Nat, p < 9 → style_inherited.f (p : Int) = some (St.inh p)
  | 0, _ => rfl
  | 1, _ => rfl
  | 2, _ => rfl
  | 3, _ => rfl
  | 4, _ => rfl
  | 5, _ => rfl
  | 6, _ => rfl
  | 7, _ => rfl
  | 8, _ => rfl
  | n + 9, h => by omega
set_option maxHeartbeats 8000000 in
set_option maxRecDepth 100000 in
theorem style_Of.calls (k : Nat) (A0 : Option Addr) (c0 : Nat) (l0 : List (S41)) (A1 : Option Addr) (c1 : Nat) (l1 : List (S56)) (a2_0 a2_1 a2_2 a2_3 a2_4 a2_5 a2_6 a2_7 a2_8 : Int) (r1 r2 r3 r4 r5 r6 r7 r8 r9 : Int) (w : World) (hr0 : Kd.C k41 w A0 l0.length l0) (hc0 : l0.length ≤ c0) (hr1 : Kd.C k56 w A1 l1.length l1) (hc1 : l1.length ≤ c1) (h : style_Of.f k l0 l1 a2_0 a2_1 a2_2 a2_3 a2_4 a2_5 a2_6 a2_7 a2_8 = some (r1, r2, r3, r4, r5, r6, r7, r8, r9)) :
    Calls Try.prog 16 #[.slice A0 l0.length c0, .slice A1 l1.length c1, .agg #[.int .i64 a2_0, .int .i64 a2_1, .int .i64 a2_2, .int .i64 a2_3, .int .i64 a2_4, .int .i64 a2_5, .int .i64 a2_6, .int .i64 a2_7, .int .i64 a2_8]] w fun e w' => e = .returned (.agg #[.int .i64 r1, .int .i64 r2, .int .i64 r3, .int .i64 r4, .int .i64 r5, .int .i64 r6, .int .i64 r7, .int .i64 r8, .int .i64 r9]) ∧ Below w.heap.size w w' := by
  have HR0 := Aside0.mk hr0
  have HC0 := Aside0.mk hc0
  have HR1 := Aside0.mk hr1
  have HC1 := Aside0.mk hc1
  clear hr0 hc0 hr1 hc1
  unfold style_Of.f at h
  obtain ⟨ms, AM0, H⟩ := Option.bind_eq_some_iff.mp h
  have AM := Aside0.mk AM0
  have HF0 := Aside0.mk (show style_Of.loop ms [a2_0, a2_1, a2_2, a2_3, a2_4, a2_5, a2_6, a2_7, a2_8] 9 0 [0, 655360, 786432, 0, 0, 0, 0, 0, 1] = [r1, r2, r3, r4, r5, r6, r7, r8, r9] from St.tup9_some H)
  clear h AM0 H
  have z5 : ((w.alloc (.cells #[.int .i64 a2_0, .int .i64 a2_1, .int .i64 a2_2, .int .i64 a2_3, .int .i64 a2_4, .int .i64 a2_5, .int .i64 a2_6, .int .i64 a2_7, .int .i64 a2_8] 33)).alloc (.cells #[.int .i64 0, .int .i64 0, .int .i64 0, .int .i64 0, .int .i64 0, .int .i64 0, .int .i64 0, .int .i64 0, .int .i64 0] 33)).heap[w.heap.size]? = some (.cells #[.int .i64 a2_0, .int .i64 a2_1, .int .i64 a2_2, .int .i64 a2_3, .int .i64 a2_4, .int .i64 a2_5, .int .i64 a2_6, .int .i64 a2_7, .int .i64 a2_8] 33 (0, 0)) := ((below_alloc (Below.refl _ _) _).block w.heap.size (by simp)).trans (heap_alloc_new w _)
  have z6 : ((w.alloc (.cells #[.int .i64 a2_0, .int .i64 a2_1, .int .i64 a2_2, .int .i64 a2_3, .int .i64 a2_4, .int .i64 a2_5, .int .i64 a2_6, .int .i64 a2_7, .int .i64 a2_8] 33)).alloc (.cells #[.int .i64 0, .int .i64 0, .int .i64 0, .int .i64 0, .int .i64 0, .int .i64 0, .int .i64 0, .int .i64 0, .int .i64 0] 33)).heap[w.heap.size + 1]? = some (.cells #[.int .i64 0, .int .i64 0, .int .i64 0, .int .i64 0, .int .i64 0, .int .i64 0, .int .i64 0, .int .i64 0, .int .i64 0] 33 (0, 0)) := by
    have := heap_alloc_new (w.alloc (.cells #[.int .i64 a2_0, .int .i64 a2_1, .int .i64 a2_2, .int .i64 a2_3, .int .i64 a2_4, .int .i64 a2_5, .int .i64 a2_6, .int .i64 a2_7, .int .i64 a2_8] 33)) (.cells #[.int .i64 0, .int .i64 0, .int .i64 0, .int .i64 0, .int .i64 0, .int .i64 0, .int .i64 0, .int .i64 0, .int .i64 0] 33)
    rw [show (w.alloc (.cells #[.int .i64 a2_0, .int .i64 a2_1, .int .i64 a2_2, .int .i64 a2_3, .int .i64 a2_4, .int .i64 a2_5, .int .i64 a2_6, .int .i64 a2_7, .int .i64 a2_8] 33)).heap.size = w.heap.size + 1 by simp] at this
    exact this
  have Z5 := Aside0.mk z5
  have Z6 := Aside0.mk z6
  have HB := Aside0.mk (below_alloc (below_alloc (Below.refl w.heap.size w) (.cells #[.int .i64 a2_0, .int .i64 a2_1, .int .i64 a2_2, .int .i64 a2_3, .int .i64 a2_4, .int .i64 a2_5, .int .i64 a2_6, .int .i64 a2_7, .int .i64 a2_8] 33)) (.cells #[.int .i64 0, .int .i64 0, .int .i64 0, .int .i64 0, .int .i64 0, .int .i64 0, .int .i64 0, .int .i64 0, .int .i64 0] 33))
  clear z5 z6
  go_enter Try.func16, Try.ntmps16
  go_upto_region 1 with (fail)
  obtain ⟨b5, hb5⟩ : ∃ z, z = w.heap.size := ⟨_, rfl⟩
  obtain ⟨b6, hb6⟩ : ∃ z, z = w.heap.size + 1 := ⟨_, rfl⟩
  have HG5 : Aside0 (w.heap.size ≤ b5) := ⟨by omega⟩
  have HG6 : Aside0 (w.heap.size ≤ b6) := ⟨by omega⟩
  rw [← hb5] at Z5
  rw [← hb6] at Z6
  rw [← hb6, ← hb5]
  clear hb5 hb6
  generalize ((w.alloc (.cells #[.int .i64 a2_0, .int .i64 a2_1, .int .i64 a2_2, .int .i64 a2_3, .int .i64 a2_4, .int .i64 a2_5, .int .i64 a2_6, .int .i64 a2_7, .int .i64 a2_8] 33)).alloc (.cells #[.int .i64 0, .int .i64 0, .int .i64 0, .int .i64 0, .int .i64 0, .int .i64 0, .int .i64 0, .int .i64 0, .int .i64 0] 33)) = w1 at Z5 Z6 HB ⊢
  go_upto_region 2 with (first | (go_at_call 35; (with_reducible refine (style_matching.calls w k A0 c0 l0 A1 c1 l1 ms _ HB.out HR0.out HC0.out (Kd.C_below HR1.out HB.out) HC1.out AM.out).mono ?_); rintro e w5 ⟨v5, rfl, ho, hb⟩; obtain ⟨A7, c7, e7⟩ := Kd.R_slice ho; subst e7; have HO := Aside0.mk (Kd.R_lower ho (below_size HB.out)); have n5_ := Aside0.mk ((hb.block b5 (blk_lt Z5.out)).trans Z5.out); have n6_ := Aside0.mk ((hb.block b6 (blk_lt Z6.out)).trans Z6.out); have nB_ := Aside0.mk (below_step HB.out hb); clear Z5 Z6 HB; have Z5 := n5_; have Z6 := n6_; have HB := nB_; clear n5_ n6_ nB_; clear ho hb) | (go_at_call 18; (with_reducible refine (style_First.calls 0 655360 786432 0 0 0 0 0 1 _ rfl).mono ?_); rintro e w7 ⟨rfl, hb⟩; have nO_ := Aside0.mk (Kd.R_below HO.out hb); clear HO; have HO := nO_; clear nO_; have n5_ := Aside0.mk ((hb.block b5 (blk_lt Z5.out)).trans Z5.out); have n6_ := Aside0.mk ((hb.block b6 (blk_lt Z6.out)).trans Z6.out); have nB_ := Aside0.mk (below_step HB.out hb); clear Z5 Z6 HB; have Z5 := n5_; have Z6 := n6_; have HB := nB_; clear n5_ n6_ nB_; clear hb))
  have z8 : (w7.alloc (.cells #[.int .i64 0, .int .i64 655360, .int .i64 786432, .int .i64 0, .int .i64 0, .int .i64 0, .int .i64 0, .int .i64 0, .int .i64 1] 33)).heap[w7.heap.size]? = some (.cells #[.int .i64 0, .int .i64 655360, .int .i64 786432, .int .i64 0, .int .i64 0, .int .i64 0, .int .i64 0, .int .i64 0, .int .i64 1] 33 (0, 0)) := heap_alloc_new w7 _
  have hz5 := ((below_alloc (Below.refl _ _) (.cells #[.int .i64 0, .int .i64 655360, .int .i64 786432, .int .i64 0, .int .i64 0, .int .i64 0, .int .i64 0, .int .i64 0, .int .i64 1] 33)).block b5 (blk_lt Z5.out)).trans Z5.out
  have hz6 := ((below_alloc (Below.refl _ _) (.cells #[.int .i64 0, .int .i64 655360, .int .i64 786432, .int .i64 0, .int .i64 0, .int .i64 0, .int .i64 0, .int .i64 0, .int .i64 1] 33)).block b6 (blk_lt Z6.out)).trans Z6.out
  have hnb := below_alloc HB.out (.cells #[.int .i64 0, .int .i64 655360, .int .i64 786432, .int .i64 0, .int .i64 0, .int .i64 0, .int .i64 0, .int .i64 0, .int .i64 1] 33)
  have hn5 : b5 ≠ w7.heap.size := Nat.ne_of_lt (blk_lt Z5.out)
  have hn6 : b6 ≠ w7.heap.size := Nat.ne_of_lt (blk_lt Z6.out)
  have hg8 : w.heap.size ≤ w7.heap.size := HB.out.size
  have ho8 : Kd.R (kW w) 93 (w7.alloc (.cells #[.int .i64 0, .int .i64 655360, .int .i64 786432, .int .i64 0, .int .i64 0, .int .i64 0, .int .i64 0, .int .i64 0, .int .i64 1] 33)) w.heap.size (fun k_ => k_ ≠ w7.heap.size) (.slice A7 ms.length c7) ms := Kd.R_alloc (Kd.R_mono (Kd.R_bound HO.out) (fun k_ hk_ => Nat.ne_of_lt hk_.2.2.1)) _
  clear HO
  obtain ⟨b8, hb8⟩ : ∃ z, z = w7.heap.size := ⟨_, rfl⟩
  rw [← hb8] at z8 hn5 hn6 hg8 ho8
  rw [← hb8]
  clear Z5 Z6 HB hb8
  have HN5 := Aside0.mk hn5
  have HN6 := Aside0.mk hn6
  have HG8 := Aside0.mk hg8
  have HO := Aside0.mk ho8
  clear ho8
  have Z5 : Aside0 (St.Arr (w7.alloc (.cells #[.int .i64 0, .int .i64 655360, .int .i64 786432, .int .i64 0, .int .i64 0, .int .i64 0, .int .i64 0, .int .i64 0, .int .i64 1] 33)) b5 33 [a2_0, a2_1, a2_2, a2_3, a2_4, a2_5, a2_6, a2_7, a2_8]) := ⟨hz5⟩
  have Z6 : Aside0 (St.Arr (w7.alloc (.cells #[.int .i64 0, .int .i64 655360, .int .i64 786432, .int .i64 0, .int .i64 0, .int .i64 0, .int .i64 0, .int .i64 0, .int .i64 1] 33)) b6 33 [0, 0, 0, 0, 0, 0, 0, 0, 0]) := ⟨hz6⟩
  have Z8 : Aside0 (St.Arr (w7.alloc (.cells #[.int .i64 0, .int .i64 655360, .int .i64 786432, .int .i64 0, .int .i64 0, .int .i64 0, .int .i64 0, .int .i64 0, .int .i64 1] 33)) b8 33 [0, 655360, 786432, 0, 0, 0, 0, 0, 1]) := ⟨z8⟩
  have HB := Aside0.mk hnb
  clear hz5 hz6 z8 hnb hn5 hn6 hg8
  generalize w7.alloc (.cells #[.int .i64 0, .int .i64 655360, .int .i64 786432, .int .i64 0, .int .i64 0, .int .i64 0, .int .i64 0, .int .i64 0, .int .i64 1] 33) = w2 at Z5 Z6 Z8 HB HO ⊢
  have HLP : Aside0 (([a2_0, a2_1, a2_2, a2_3, a2_4, a2_5, a2_6, a2_7, a2_8] : List Int).length = 9) := ⟨rfl⟩
  have HLS : Aside0 (([0, 655360, 786432, 0, 0, 0, 0, 0, 1] : List Int).length = 9) := ⟨rfl⟩
  have HF : Aside0 (style_Of.loop ms [a2_0, a2_1, a2_2, a2_3, a2_4, a2_5, a2_6, a2_7, a2_8] 9 0 [0, 655360, 786432, 0, 0, 0, 0, 0, 1] = [r1, r2, r3, r4, r5, r6, r7, r8, r9]) := HF0
  obtain ⟨P, hP⟩ : ∃ P : List Int, [a2_0, a2_1, a2_2, a2_3, a2_4, a2_5, a2_6, a2_7, a2_8] = P := ⟨_, rfl⟩
  obtain ⟨S0, hS0⟩ : ∃ S : List Int, [0, 655360, 786432, 0, 0, 0, 0, 0, 1] = S := ⟨_, rfl⟩
  rw [hP] at Z5 HLP HF
  rw [hS0] at Z8 HLS HF
  clear hP hS0 HF0
  go_wp2
  go_loopg [16] 9 (fun kq v16 w' => ∃ (p : Nat) (S : List Int), v16 = .int .i64 (p : Int) ∧ Aside0 (p + kq = 9) ∧ Aside0 (S.length = 9) ∧ Aside0 (style_Of.loop ms P kq p S = [r1, r2, r3, r4, r5, r6, r7, r8, r9]) ∧ Aside0 (St.Arr w' b5 33 P) ∧ Aside0 (St.Arr w' b6 33 [0, 0, 0, 0, 0, 0, 0, 0, 0]) ∧ Aside0 (St.Arr w' b8 33 S) ∧ Aside0 (Below w.heap.size w w') ∧ Aside0 (Kd.R (kW w) 93 w' w.heap.size (fun k_ => k_ ≠ b8) (.slice A7 ms.length c7) ms))
  case atStart => exact ⟨0, S0, by first | rfl | simp, ⟨rfl⟩, HLS, HF, Z5, Z6, Z8, HB, HO⟩
  case round =>
    clear HLS HF Z5 Z6 Z8 HB HO S0
    obtain ⟨p, S, rfl, HK, HLS, HF, Z5, Z6, Z8, HB, HO⟩ := hrel
    cases gk with
    | zero =>
      have hp : p = 9 := HK.out
      subst hp
      have e : S = [r1, r2, r3, r4, r5, r6, r7, r8, r9] := by
        have := HF.out
        unfold style_Of.loop at this
        first | exact this | exact Option.some.inj this
      subst e
      obtain ⟨c0_, c1_, c2_, c3_, c4_, c5_, c6_, c7_, c8_⟩ := Z8.out.nine
      obtain ⟨d0_, d1_, d2_, d3_, d4_, d5_, d6_, d7_, d8_⟩ := Z6.out.nine
      have f0_ := Z6.out.frozen 0
      have f1_ := Z6.out.frozen 1
      have f2_ := Z6.out.frozen 2
      have f3_ := Z6.out.frozen 3
      have f4_ := Z6.out.frozen 4
      have f5_ := Z6.out.frozen 5
      have f6_ := Z6.out.frozen 6
      have f7_ := Z6.out.frozen 7
      have f8_ := Z6.out.frozen 8
      clear HF HLS
      go_wp2
      refine bodyPost_ret (results_cell_row rfl _ _ b6 33 #[.int .i64 r1, .int .i64 r2, .int .i64 r3, .int .i64 r4, .int .i64 r5, .int .i64 r6, .int .i64 r7, .int .i64 r8, .int .i64 r9] (0, 0) _ rfl (Z6.out.set9 rfl r1 r2 r3 r4 r5 r6 r7 r8 r9) Try.underlying33 rfl (by kernel_rfl)) rfl ?_
      exact ⟨rfl, below_set (below_set (below_set (below_set (below_set (below_set (below_set (below_set (below_set HB.out HG6.out) HG6.out) HG6.out) HG6.out) HG6.out) HG6.out) HG6.out) HG6.out) HG6.out⟩
    | succ q =>
      have hp : p < 9 := by have := HK.out; omega
      have H := HF.out
      rw [style_Of.loop] at H
      obtain ⟨⟨vo, vv, z0_, z1_, z2_⟩, hcs⟩ : ∃ z, style_winner.win ms (p : Int) = z := ⟨_, rfl⟩
      rw [hcs] at H
      dsimp only at H
      have HWV : Aside0 ((style_winner.win ms (p : Int)).v = vv ∧ (style_winner.win ms (p : Int)).won = vo) := ⟨by rw [hcs]; exact ⟨rfl, rfl⟩⟩
      clear hcs
      have HH := Aside0.mk H
      have p1 : ((p : Int) < 9) = True := eq_true (by omega)
      have p2 : (0 ≤ (p : Int)) = True := eq_true (by omega)
      have p3 : decide ((p : Int) < 9) = true := decide_eq_true (by omega)
      have p4 : (p < 9) = True := eq_true hp
      have p5 : decide (p < 9) = true := decide_eq_true hp
      have p6 : IntKind.i64.wrap ((p : Int) + 1) = (p : Int) + 1 := by rw [IntKind.wrap_i64]; omega
      have HI := Aside0.mk (style_Of.inh_f p hp)
      have HP := Aside0.mk hp
      clear H HF hp
      cases vo with
      | true =>
        have HH2 : Aside0 (style_Of.loop ms P q (p + 1) (S.set p vv) = [r1, r2, r3, r4, r5, r6, r7, r8, r9]) := ⟨by have := HH.out; first | exact this | (rw [if_pos rfl] at this; exact this)⟩
        clear HH
        go_wp2_with (first | (go_at_call 34; (with_reducible refine (style_winner.calls w A7 c7 ms (p : Int) _ HB.out (Kd.R_reads' HO.out).2.2 (Kd.R_reads' HO.out).2.1).mono ?_); rw [HWV.out.1, HWV.out.2]; rintro e w8 ⟨rfl, hb⟩; have nO_ := Aside0.mk (Kd.R_below HO.out hb); clear HO; have HO := nO_; clear nO_; have n5_ := Aside0.mk (Z5.out.below hb); have n6_ := Aside0.mk (Z6.out.below hb); have n8_ := Aside0.mk (Z8.out.below hb); have nB_ := Aside0.mk (below_step HB.out hb); clear Z5 Z6 Z8 HB; have Z5 := n5_; have Z6 := n6_; have Z8 := n8_; have HB := nB_; clear n5_ n6_ n8_ nB_; clear hb; have x8 := Z8.out.cell p (by rw [HLS.out]; exact HP.out); have f8 := Z8.out.frozen p))
        go_roundg q
        case measure => exact Nat.lt_succ_self q
        case rel => exact ⟨p + 1, S.set p vv, by go_num, ⟨by have := HK.out; omega⟩, ⟨by rw [List.length_set]; exact HLS.out⟩, HH2, ⟨Z5.out.other HN5.out p _⟩, ⟨Z6.out.other HN6.out p _⟩, ⟨Z8.out.set p vv⟩, ⟨below_set HB.out HG8.out⟩, ⟨R_far HO.out p _⟩⟩
      | false =>
        obtain ⟨ih, hih⟩ : ∃ z, St.inh p = z := ⟨_, rfl⟩
        have HI2 : Aside0 (style_inherited.f (p : Int) = some ih) := ⟨by rw [← hih]; exact HI.out⟩
        cases ih with
        | true =>
          have HH2 : Aside0 (style_Of.loop ms P q (p + 1) (S.set p (P.getD p 0)) = [r1, r2, r3, r4, r5, r6, r7, r8, r9]) := ⟨by have := HH.out; rw [hih] at this; first | exact this | (rw [if_neg (by decide), if_pos rfl] at this; exact this)⟩
          clear HH hih
          go_wp2_with (first | (go_at_call 34; (with_reducible refine (style_winner.calls w A7 c7 ms (p : Int) _ HB.out (Kd.R_reads' HO.out).2.2 (Kd.R_reads' HO.out).2.1).mono ?_); rw [HWV.out.1, HWV.out.2]; rintro e w8 ⟨rfl, hb⟩; have nO_ := Aside0.mk (Kd.R_below HO.out hb); clear HO; have HO := nO_; clear nO_; have n5_ := Aside0.mk (Z5.out.below hb); have n6_ := Aside0.mk (Z6.out.below hb); have n8_ := Aside0.mk (Z8.out.below hb); have nB_ := Aside0.mk (below_step HB.out hb); clear Z5 Z6 Z8 HB; have Z5 := n5_; have Z6 := n6_; have Z8 := n8_; have HB := nB_; clear n5_ n6_ n8_ nB_; clear hb; have x8 := Z8.out.cell p (by rw [HLS.out]; exact HP.out); have f8 := Z8.out.frozen p; have x5 := Z5.out.cell p (by rw [HLP.out]; exact HP.out)) | (go_at_call 39; (with_reducible refine (style_inherited.calls (p : Int) _ _ HI2.out).mono ?_); rintro e w9 ⟨rfl, nd, rfl⟩; have hb := pw_below_drewN (Below.refl w8.heap.size w8) nd; have nO_ := Aside0.mk (Kd.R_below HO.out hb); clear HO; have HO := nO_; clear nO_; have n5_ := Aside0.mk (Z5.out.below hb); have n6_ := Aside0.mk (Z6.out.below hb); have n8_ := Aside0.mk (Z8.out.below hb); have nB_ := Aside0.mk (below_step HB.out hb); clear Z5 Z6 Z8 HB; have Z5 := n5_; have Z6 := n6_; have Z8 := n8_; have HB := nB_; clear n5_ n6_ n8_ nB_; clear hb))
          go_roundg q
          case measure => exact Nat.lt_succ_self q
          case rel => exact ⟨p + 1, S.set p (P.getD p 0), by go_num, ⟨by have := HK.out; omega⟩, ⟨by rw [List.length_set]; exact HLS.out⟩, HH2, ⟨Z5.out.other HN5.out p _⟩, ⟨Z6.out.other HN6.out p _⟩, ⟨Z8.out.set p _⟩, ⟨below_set HB.out HG8.out⟩, ⟨R_far HO.out p _⟩⟩
        | false =>
          have HH2 : Aside0 (style_Of.loop ms P q (p + 1) (S) = [r1, r2, r3, r4, r5, r6, r7, r8, r9]) := ⟨by have := HH.out; rw [hih] at this; first | exact this | (rw [if_neg (by decide), if_neg (by decide)] at this; exact this)⟩
          clear HH hih
          go_wp2_with (first | (go_at_call 34; (with_reducible refine (style_winner.calls w A7 c7 ms (p : Int) _ HB.out (Kd.R_reads' HO.out).2.2 (Kd.R_reads' HO.out).2.1).mono ?_); rw [HWV.out.1, HWV.out.2]; rintro e w8 ⟨rfl, hb⟩; have nO_ := Aside0.mk (Kd.R_below HO.out hb); clear HO; have HO := nO_; clear nO_; have n5_ := Aside0.mk (Z5.out.below hb); have n6_ := Aside0.mk (Z6.out.below hb); have n8_ := Aside0.mk (Z8.out.below hb); have nB_ := Aside0.mk (below_step HB.out hb); clear Z5 Z6 Z8 HB; have Z5 := n5_; have Z6 := n6_; have Z8 := n8_; have HB := nB_; clear n5_ n6_ n8_ nB_; clear hb; have x8 := Z8.out.cell p (by rw [HLS.out]; exact HP.out); have f8 := Z8.out.frozen p; have x5 := Z5.out.cell p (by rw [HLP.out]; exact HP.out)) | (go_at_call 39; (with_reducible refine (style_inherited.calls (p : Int) _ _ HI2.out).mono ?_); rintro e w9 ⟨rfl, nd, rfl⟩; have hb := pw_below_drewN (Below.refl w8.heap.size w8) nd; have nO_ := Aside0.mk (Kd.R_below HO.out hb); clear HO; have HO := nO_; clear nO_; have n5_ := Aside0.mk (Z5.out.below hb); have n6_ := Aside0.mk (Z6.out.below hb); have n8_ := Aside0.mk (Z8.out.below hb); have nB_ := Aside0.mk (below_step HB.out hb); clear Z5 Z6 Z8 HB; have Z5 := n5_; have Z6 := n6_; have Z8 := n8_; have HB := nB_; clear n5_ n6_ n8_ nB_; clear hb))
          go_roundg q
          case measure => exact Nat.lt_succ_self q
          case rel => exact ⟨p + 1, S, by go_num, ⟨by have := HK.out; omega⟩, HLS, HH2, Z5, Z6, Z8, HB, HO⟩

/-! ### colophonlaw20_rule: function 32 -/
def colophonlaw20_rule.f (a0 : ByteArray) (a1 : Int) (a2 : Int) : Option ((List (S45)) × (List (S47))) := some ((([(⟨(([(⟨a0, (⟨#[]⟩ : ByteArray), ([] : List ByteArray), false⟩ : S78)] : List (S78)))⟩ : S45)] : List (S45))), (([(⟨a1, a2⟩ : S47)] : List (S47))))
set_option maxHeartbeats 8000000 in
set_option maxRecDepth 100000 in
theorem colophonlaw20_rule.calls (a0 : ByteArray) (a1 : Int) (a2 : Int) (r1 : List (S45)) (r2 : List (S47)) (w : World) (h : colophonlaw20_rule.f a0 a1 a2 = some (r1, r2)) :
    Calls Try.prog 32 #[.string a0, .int .i64 a1, .int .i64 a2] w fun e w' => ∃ v0_ v1_ : Value, e = .returned (.agg #[v0_, v1_]) ∧ Kd.N k45 45 w' w.heap.size (fun k_ => (w.heap.size ≤ k_) ∧ some k_ ≠ (v1_ : Value).ownBlock) v0_ r1 ∧ Kd.R k47 47 w' w.heap.size (fun k_ => (w.heap.size ≤ k_)) v1_ r2 ∧ Below w.heap.size w w' := by
  have hu41 := Try.underlying41
  have hu78 := Try.underlying78
  have hu45 := Try.underlying45
  have hu47 := Try.underlying47
  have HB := Aside0.mk (Below.refl w.heap.size w)
  have H : (some ((([(⟨(([(⟨a0, (⟨#[]⟩ : ByteArray), ([] : List ByteArray), false⟩ : S78)] : List (S78)))⟩ : S45)] : List (S45))), (([(⟨a1, a2⟩ : S47)] : List (S47))))) = some (r1, r2) := h
  clear h
  obtain ⟨y109, hy109⟩ : ∃ y_ : List (S78), y_ = (([(⟨a0, (⟨#[]⟩ : ByteArray), ([] : List ByteArray), false⟩ : S78)] : List (S78))) := ⟨_, rfl⟩
  replace H : (some ((([(⟨y109⟩ : S45)] : List (S45))), (([(⟨a1, a2⟩ : S47)] : List (S47))))) = some (r1, r2) := by first | (rw [hy109]; with_reducible exact H) | (have H2_ := (Option.bind_some _ _).symm.trans H; rw [hy109]; with_reducible exact H2_) | (have H2_ := (Option.bind_some _ _).symm.trans H; with_reducible exact H2_) | with_reducible exact H | (rw [hy109]; exact H) | exact H
  have Ny109 := Aside0.mk hy109
  clear hy109
  obtain ⟨y112, hy112⟩ : ∃ y_ : List (S45), y_ = (([(⟨y109⟩ : S45)] : List (S45))) := ⟨_, rfl⟩
  replace H : (some (y112, (([(⟨a1, a2⟩ : S47)] : List (S47))))) = some (r1, r2) := by first | (rw [hy112]; with_reducible exact H) | (have H2_ := (Option.bind_some _ _).symm.trans H; rw [hy112]; with_reducible exact H2_) | (have H2_ := (Option.bind_some _ _).symm.trans H; with_reducible exact H2_) | with_reducible exact H | (rw [hy112]; exact H) | exact H
  have Ny112 := Aside0.mk hy112
  clear hy112
  obtain ⟨y115, hy115⟩ : ∃ y_ : List (S47), y_ = (([(⟨a1, a2⟩ : S47)] : List (S47))) := ⟨_, rfl⟩
  replace H : (some (y112, y115)) = some (r1, r2) := by first | (rw [hy115]; with_reducible exact H) | (have H2_ := (Option.bind_some _ _).symm.trans H; rw [hy115]; with_reducible exact H2_) | (have H2_ := (Option.bind_some _ _).symm.trans H; with_reducible exact H2_) | with_reducible exact H | (rw [hy115]; exact H) | exact H
  have Ny115 := Aside0.mk hy115
  clear hy115
  simp only [Option.some.injEq, Prod.mk.injEq] at H
  obtain ⟨rfl, rfl⟩ := H
  go_enter Try.func32, Try.ntmps32
  go_wp2_with (first | ((with_reducible refine gate_dst (N := 6) rfl ?_); refine box_event ?hg (N := 6) ?hd (cs := #[.slice none 0 0, .slice none 0 0]) (t := 41) ?hr ?_; (case hd => rfl); (case hg => rfl); (case hr => first | (go_simp; done) | (go_simp; rfl)); intro gb108 hg w4 hbox hb; have n0_ := Aside0.mk (below_step (by repeat (first | (with_reducible first | exact HB.out | apply below_alloc | apply pw_below_drewN | apply below_drew1) | exact HB.out)) hb); have n1_ := Aside0.mk (hbox); have n2_ := Aside0.mk ((by rw [hg]; exact (below_size (by repeat (first | (with_reducible first | exact HB.out | apply below_alloc | apply pw_below_drewN | apply below_drew1) | exact HB.out))) : w.heap.size ≤ gb108)); have n3_ := Aside0.mk ((by rw [hg]; exact (below_size (by repeat (first | (with_reducible first | exact HB.out | apply below_alloc | apply pw_below_drewN | apply below_drew1) | exact HB.out))) : w.heap.size ≤ gb108)); clear HB; have HB := n0_; have BK108 := n1_; have GW108 := n2_; have GE108 := n3_; clear n0_ n1_ n2_ n3_; clear hb hbox hg) | ((with_reducible refine gate_dst (N := 9) rfl ?_); refine Kd.N_lit k78 _ 78 ?hg (N' := 9) ?hd (xs := ([(⟨a0, (⟨#[]⟩ : ByteArray), ([] : List ByteArray), false⟩ : S78)] : List (S78))) (inner := [.string a0, .string (⟨#[]⟩ : ByteArray), .slice none 0 0, .bool false]) (ok := (fun k_ => (w.heap.size ≤ k_) ∧ k_ ≠ gb108)) (okp := (fun k_ => (w.heap.size ≤ k_) ∧ k_ ≠ gb108)) ?hr ?hp (fun _ hk => hk) ((show ∀ k_, w4.heap.size ≤ k_ → (fun k_ => (w.heap.size ≤ k_) ∧ k_ ≠ gb108) k_ from fun k_ hk => ⟨(Nat.le_trans (below_size (by repeat (first | (with_reducible first | exact HB.out | apply below_alloc | apply pw_below_drewN | apply below_drew1 | refine below_set ?_ GE108.out) | exact HB.out))) hk), Kd.freshB (g := gb108) (o := .cells #[.slice none 0 0, .slice none 0 0] 41 (0, 0)) (by (with_reducible repeat (first | refine blk_drewN ?_ _ | refine blk_drew ?_ | refine blk_alloc ?_ _)); exact BK108.out) k_ hk⟩) _ (Nat.le_refl _)) (Below.refl _ _) (Nat.le_refl _) (by simp) ?_; (case hd => rfl); (case hg => rfl); (case hr => first | (go_simp; done) | (go_simp; rfl)); (case hp => exact (Reps.c4 (show Kd.FK k78 _ _ (⟨a0, (⟨#[]⟩ : ByteArray), ([] : List ByteArray), false⟩ : S78) [.string a0, .string (⟨#[]⟩ : ByteArray), .slice none 0 0, .bool false] from (k78_mkF _ _ (⟨a0, (⟨#[]⟩ : ByteArray), ([] : List ByteArray), false⟩ : S78) (Nat.le_refl _) (Kd.F_nil _ _ _))) (Reps.none _ _))); intro v110 w5 ho6 hb hg_ hnew_; clear hg_ hnew_; (first | rw [← Ny109.out] at ho6 | (simp only [Int.reduceToNat] at ho6; rw [← Ny109.out] at ho6)); have n0_ := Aside0.mk (Kd.N_lower ho6 (below_size (by repeat (first | (with_reducible first | exact HB.out | apply below_alloc | apply pw_below_drewN | apply below_drew1 | refine below_set ?_ GE108.out) | exact HB.out)))); have n1_ := Aside0.mk (blk_below (g := gb108) (o := .cells #[.slice none 0 0, .slice none 0 0] 41 (0, 0)) (by (with_reducible repeat (first | refine blk_drewN ?_ _ | refine blk_drew ?_ | refine blk_alloc ?_ _)); exact BK108.out) hb); have n2_ := Aside0.mk (below_step (by repeat (first | (with_reducible first | exact HB.out | apply below_alloc | apply pw_below_drewN | apply below_drew1 | refine below_set ?_ GE108.out) | exact HB.out)) hb); clear BK108; clear HB; have HO111 := n0_; have BK108 := n1_; have HB := n2_; clear n0_ n1_ n2_; clear hb ho6; obtain ⟨Ao7, co7, eo7⟩ := Kd.N_slice HO111.out; subst eo7) | ((with_reducible refine gate_dst (N := 11) rfl ?_); refine Kd.N_lit k45 _ 45 ?hg (N' := 11) ?hd (xs := ([(⟨y109⟩ : S45)] : List (S45))) (inner := [.slice Ao7 y109.length co7]) (ok := (fun k_ => (w.heap.size ≤ k_) ∧ k_ ≠ gb108)) (okp := (fun k_ => (w.heap.size ≤ k_) ∧ k_ ≠ gb108)) ?hr ?hp (fun _ hk => hk) ((show ∀ k_, w5.heap.size ≤ k_ → (fun k_ => (w.heap.size ≤ k_) ∧ k_ ≠ gb108) k_ from fun k_ hk => ⟨(Nat.le_trans (below_size (by repeat (first | (with_reducible first | exact HB.out | apply below_alloc | apply pw_below_drewN | apply below_drew1 | refine below_set ?_ GE108.out) | exact HB.out))) hk), Kd.freshB (g := gb108) (o := .cells #[.slice none 0 0, .slice none 0 0] 41 (0, 0)) (by (with_reducible repeat (first | refine blk_drewN ?_ _ | refine blk_drew ?_ | refine blk_alloc ?_ _)); exact BK108.out) k_ hk⟩) _ (Nat.le_refl _)) (Below.refl _ _) (Nat.le_refl _) (by simp) ?_; (case hd => rfl); (case hg => rfl); (case hr => first | (go_simp; done) | (go_simp; rfl)); (case hp => exact (Reps.one (show Kd.FK k45 _ _ (⟨y109⟩ : S45) [.slice Ao7 y109.length co7] from (k45_mkF _ _ (⟨y109⟩ : S45) (Kd.N_reads' (Kd.N_mono (ok' := (fun k_ => (w.heap.size ≤ k_) ∧ k_ ≠ gb108)) (HO111.out) (fun k_ hk => ⟨hk.1, hk.2⟩))).2.1 (Kd.N_F (Kd.N_mono (ok' := (fun k_ => (w.heap.size ≤ k_) ∧ k_ ≠ gb108)) (HO111.out) (fun k_ hk => ⟨hk.1, hk.2⟩))))) (Reps.none _ _))); intro v113 w8 ho9 hb hg_ hnew_; clear hg_ hnew_; (first | rw [← Ny112.out] at ho9 | (simp only [Int.reduceToNat] at ho9; rw [← Ny112.out] at ho9)); have n0_ := Aside0.mk (Kd.N_lower ho9 (below_size (by repeat (first | (with_reducible first | exact HB.out | apply below_alloc | apply pw_below_drewN | apply below_drew1 | refine below_set ?_ GE108.out) | exact HB.out)))); have n1_ := Aside0.mk (blk_below (g := gb108) (o := .cells #[.slice none 0 0, .slice none 0 0] 41 (0, 0)) (by (with_reducible repeat (first | refine blk_drewN ?_ _ | refine blk_drew ?_ | refine blk_alloc ?_ _)); exact BK108.out) hb); have n2_ := Aside0.mk (below_step (by repeat (first | (with_reducible first | exact HB.out | apply below_alloc | apply pw_below_drewN | apply below_drew1 | refine below_set ?_ GE108.out) | exact HB.out)) hb); clear BK108; clear HB; clear HO111; have HO114 := n0_; have BK108 := n1_; have HB := n2_; clear n0_ n1_ n2_; clear hb ho9) | ((with_reducible refine gate_dst (N := 15) rfl ?_); refine Kd.R_lit k47 _ 47 ?hg (N := 15) ?hd (xs := ([(⟨a1, a2⟩ : S47)] : List (S47))) (inner := [.int .i64 a1, .int .i64 a2]) (ok := fun _ => True) (okp := fun _ => True) ?hr ?hp (fun _ hk => hk) trivial (Below.refl _ _) (Nat.le_refl _) (by simp) ?_; (case hd => rfl); (case hg => rfl); (case hr => first | (go_simp; done) | (go_simp; rfl)); (case hp => exact (Reps.c2 (show Kd.M k47 _ _ _ (⟨a1, a2⟩ : S47) [.int .i64 a1, .int .i64 a2] from (k47_mkM _ _ _ (⟨a1, a2⟩ : S47) )) (Reps.none _ _))); intro v116 w10 ho11 hb hg_ hnew_; clear hg_ hnew_; (first | rw [← Ny115.out] at ho11 | (simp only [Int.reduceToNat] at ho11; rw [← Ny115.out] at ho11)); have n0_ := Aside0.mk (Kd.N_elder' (by (with_reducible repeat (first | apply Kd.N_alloc | apply Kd.N_drewN | apply Kd.N_drew)); exact HO114.out) (Kd.R_base ho11) hb); have n1_ := Aside0.mk (Kd.R_lower (Kd.R_newM (M := fun k_ => (w.heap.size ≤ k_)) ho11 (below_size (by repeat (first | (with_reducible first | exact HB.out | apply below_alloc | apply pw_below_drewN | apply below_drew1 | refine below_set ?_ GE108.out) | exact HB.out))) (fun k_ h_ => h_)) (below_size (by repeat (first | (with_reducible first | exact HB.out | apply below_alloc | apply pw_below_drewN | apply below_drew1 | refine below_set ?_ GE108.out) | exact HB.out)))); have n2_ := Aside0.mk (blk_below (g := gb108) (o := .cells #[.slice none 0 0, .slice none 0 0] 41 (0, 0)) (by (with_reducible repeat (first | refine blk_drewN ?_ _ | refine blk_drew ?_ | refine blk_alloc ?_ _)); exact BK108.out) hb); have n3_ := Aside0.mk (below_step (by repeat (first | (with_reducible first | exact HB.out | apply below_alloc | apply pw_below_drewN | apply below_drew1 | refine below_set ?_ GE108.out) | exact HB.out)) hb); clear HO114; clear BK108; clear HB; have HO114 := n0_; have HO117 := n1_; have BK108 := n2_; have HB := n3_; clear n0_ n1_ n2_ n3_; clear hb ho11; obtain ⟨Ao12, co12, eo12⟩ := Kd.R_slice HO117.out; subst eo12; obtain ⟨Ao13, co13, eo13⟩ := Kd.N_slice HO114.out; subst eo13; have hcz14_0 : w10.cell? ⟨gb108, 0, none⟩ = some (.slice none 0 0) := (blk_cell BK108.out 0).trans rfl; have hcz14_1 : w10.cell? ⟨gb108, 1, none⟩ = some (.slice none 0 0) := (blk_cell BK108.out 1).trans rfl; have hfz14_0 := blk_frozen BK108.out 0; have hfz14_1 := blk_frozen BK108.out 1))
  refine bodyPost_ret (results_cell_row rfl _ _ gb108 41 #[.slice Ao13 y112.length co13, .slice Ao12 y115.length co12] (0, 0) _ rfl (by (with_reducible repeat (first | refine blk_drewN ?_ _ | refine blk_drew ?_ | refine blk_alloc ?_ _)); refine blk_put (cs := #[.slice Ao13 y112.length co13, .slice none 0 0]) ?_ 1 _ rfl; (with_reducible repeat (first | refine blk_drewN ?_ _ | refine blk_drew ?_ | refine blk_alloc ?_ _)); refine blk_put (cs := #[.slice none 0 0, .slice none 0 0]) ?_ 0 _ rfl; (with_reducible repeat (first | refine blk_drewN ?_ _ | refine blk_drew ?_ | refine blk_alloc ?_ _)); exact BK108.out) Try.underlying41 rfl (by kernel_rfl)) rfl ?_
  exact ⟨_, _, by first | rfl | (simp [errW_none, errW_some] <;> rfl) | (simp [*, errW_none, errW_some] <;> rfl), by (with_reducible repeat (first | apply Kd.N_alloc | apply Kd.N_drewN | apply Kd.N_drew)); exact Kd.N_mono (Kd.N_far (p := ⟨gb108, 1, none⟩) (Kd.N_far (p := ⟨gb108, 0, none⟩) (Kd.N_mono HO114.out (fun k_ hk => (⟨hk, hk.1.2⟩ : _ ∧ k_ ≠ gb108))) (fun _ hk => hk.2) (.slice Ao13 y112.length co13)) (fun _ hk => hk.2) (.slice Ao12 y115.length co12)) (fun _ hk => ⟨hk.1.1.1, hk.1.2⟩), by (with_reducible repeat (first | apply Kd.R_alloc | apply Kd.R_drewN | apply Kd.R_drew)); exact Kd.R_mono (Kd.R_far (p := ⟨gb108, 1, none⟩) (Kd.R_far (p := ⟨gb108, 0, none⟩) (Kd.R_types HO117.out BK108.out (by decide)) (fun _ hk => hk.2) (.slice Ao13 y112.length co13)) (fun _ hk => hk.2) (.slice Ao12 y115.length co12)) (fun _ hk => hk.1.1), by repeat (first | (with_reducible first | exact HB.out | apply below_alloc | apply pw_below_drewN | apply below_drew1 | refine below_set ?_ GE108.out) | exact HB.out)⟩

end Go.Proofs.Ytpembifnjlekdaa.PStyleAll
