-- Written by a copy of the print that this session has turned (wip/tools/patchprint.py): arrays as records.
import Derived.Test.YtogjeababinnlaaPPagesFlowx0
import Derived.Test.YtogjeababinnlaaPPagesFlowx2
namespace Go.Proofs.Ytogjeababinnlaa.PPagesFlow
open Go.RowKit Go.Proofs.YtogjeababinnlaaW.PrintWords Go.Proofs.YtogjeababinnlaaW.PrintLast Go.Proofs.YtogjeababinnlaaW.PrintMore
attribute [local go_sem] max2_int min2_int max_two min_two max_three min_three max_four min_four   -- for this text's walks alone
set_option linter.unusedVariables false
set_option linter.unusedSimpArgs false

/-! ### pages_ready: function 36 -/
/-- The height of all that stands ahead of item j. -/
def pages_ready.H (l : List S43) (j : Nat) : Int := (l.take j).foldl (fun a x => wrap64 (a + x.f1)) 0
/-- The first box from place i on; behind the last: none. -/
def pages_ready.F : List S43 → Nat → Int
  | [], i => i
  | x :: r, i => if x.f0 = 1 then i else pages_ready.F r (i + 1)
/-- The first forced break from place i on. -/
def pages_ready.M : List S43 → Nat → Int
  | [], i => i
  | x :: r, i => if x.f0 = 3 ∧ x.f3 = -10000 then i else pages_ready.M r (i + 1)
def pages_ready.hs (l : List S43) : List Int := (List.range (l.length + 1)).map (pages_ready.H l)
def pages_ready.fs (l : List S43) : List Int := (List.range (l.length + 1)).map fun j => pages_ready.F (l.drop j) j
def pages_ready.ms (l : List S43) : List Int := (List.range (l.length + 1)).map fun j => pages_ready.M (l.drop j) j
theorem pages_ready.H_succ (l : List S43) (j : Nat) (h : j < l.length) : pages_ready.H l (j + 1) = wrap64 (pages_ready.H l j + (rd_T43 l (j : Int)).f1) := by
  unfold pages_ready.H
  rw [List.take_add_one, List.getElem?_eq_getElem h, List.foldl_append]
  simp [rd_T43, List.getD_eq_getElem?_getD, h]
theorem pages_ready.row_eq (X : List Int) (n : Nat) (f : Nat → Int) (hl : X.length = n + 1) (h : ∀ j, j ≤ n → rd X (j : Int) = f j) : X = (List.range (n + 1)).map f := by
  apply List.ext_getElem
  · simp [hl]
  · intro j h1 h2
    have := h j (by omega)
    simp [rd, List.getD_eq_getElem?_getD, h1] at this
    simpa using this
theorem pages_ready.rd_set (X : List Int) (i j : Nat) (v : Int) (h : i < X.length) : rd (X.set i v) (j : Int) = if j = i then v else rd X (j : Int) := by
  unfold rd
  rw [Int.toNat_natCast, List.getD_eq_getElem?_getD, List.getElem?_set]
  by_cases e : i = j
  · subst e; simp [h]
  · rw [if_neg e, if_neg (Ne.symm e), List.getD_eq_getElem?_getD]
theorem pages_ready.drop_rd (l : List S43) (j : Nat) (h : j < l.length) : l.drop j = rd_T43 l (j : Int) :: l.drop (j + 1) := by
  rw [List.drop_eq_getElem_cons h]
  simp [rd_T43, List.getD_eq_getElem?_getD, h]
theorem pages_ready.F_step (l : List S43) (j : Nat) (h : j < l.length) : pages_ready.F (l.drop j) j = if (rd_T43 l (j : Int)).f0 = 1 then (j : Int) else pages_ready.F (l.drop (j + 1)) (j + 1) := by
  rw [pages_ready.drop_rd l j h]
  rfl
theorem pages_ready.M_step (l : List S43) (j : Nat) (h : j < l.length) : pages_ready.M (l.drop j) j = if (rd_T43 l (j : Int)).f0 = 3 ∧ (rd_T43 l (j : Int)).f3 = -10000 then (j : Int) else pages_ready.M (l.drop (j + 1)) (j + 1) := by
  rw [pages_ready.drop_rd l j h]
  rfl
theorem pages_forced.val (a b c d : Int) : pages_forced.f a b c d = some (decide (a = 3 ∧ d = -10000)) := by
  unfold pages_forced.f
  by_cases h : a = 3
  · rw [if_pos h]; simp [h]; rfl
  · rw [if_neg h]; simp [h]
set_option maxHeartbeats 8000000 in
set_option maxRecDepth 100000 in
theorem pages_ready.calls (A0 : Option Addr) (c0 : Nat) (l0 : List (S43)) (w : World) (hr0 : Kd.C k43 w A0 l0.length l0) (hc0 : l0.length ≤ c0) (hlen : l0.length ≤ 5000) :
    Calls Try.prog 36 #[.slice A0 l0.length c0] w fun e w' => ∃ g : Nat, e = .returned (.pointer (some ⟨g, 0, none⟩)) ∧ Pg.Col k43 w' g l0 (pages_ready.hs l0) (pages_ready.fs l0) (pages_ready.ms l0) ∧ Below w.heap.size w w' := by
  have HR0 := Aside0.mk hr0
  have HLEN := Aside0.mk hlen
  have HC0 := Aside0.mk hc0
  clear hr0 hc0
  have hu43 := Try.underlying43
  have hmk : ∀ w : World, (Instr.makeSlice 26 (.int .i64 ((l0.length : Int) + 1)) (.int .i64 ((l0.length : Int) + 1))).run Try.prog w = .ok (.slice (some ⟨w.heap.size, 0, none⟩) (l0.length + 1) (l0.length + 1)) (w.alloc (.cells ((Pg.zeros (l0.length + 1)).map (Value.int .i64)).toArray 3)) := by
    intro w
    obtain ⟨i, hi, he⟩ := Option.map_eq_some_iff.1 info3
    simp only [Prod.mk.injEq] at he
    obtain ⟨e1, e2, e3⟩ := he
    have := run_make (P := Try.prog) w 26 3 i (.int .i64 0) Try.underlying26 hi e1 .i64 .i64 ((l0.length : Int) + 1) ((l0.length : Int) + 1) (by omega) (by omega) (by rw [e3]; omega) (by omega)
    rw [this, e2, Pg.made_zeros]
    have e4 : ((l0.length : Int) + 1).toNat = l0.length + 1 := by omega
    rw [e4]
  have hw1 : IntKind.i64.wrap ((l0.length : Int) + 1) = (l0.length : Int) + 1 := by rw [IntKind.wrap_i64]; omega
  clear hlen
  go_enter Try.func36, Try.ntmps36
  go_upto_region 2 with (fail)
  go_cut [4] (fun v4 wc => ∃ (g b1 b2 b3 : Nat), v4 = .pointer (some ⟨g, 0, none⟩) ∧ Aside0 (Pg.Made w wc A0 l0.length c0 (l0.length + 1) g b1 b2 b3 (Pg.zeros (l0.length + 1)) (Pg.zeros (l0.length + 1)) (Pg.zeros (l0.length + 1))))
  case first =>
    go_region
    all_goals (go_wp2; go_meet; case rel => first | exact ⟨_, _, _, _, rfl, ⟨(Pg.Made.start (Below.refl _ _) (l0.length + 1) A0 l0.length c0 0 1 2 (by decide)).drew⟩⟩ | exact ⟨_, _, _, _, rfl, ⟨(Pg.Made.start (Below.refl _ _) (l0.length + 1) A0 l0.length c0 0 2 1 (by decide)).drew⟩⟩ | exact ⟨_, _, _, _, rfl, ⟨(Pg.Made.start (Below.refl _ _) (l0.length + 1) A0 l0.length c0 1 0 2 (by decide)).drew⟩⟩ | exact ⟨_, _, _, _, rfl, ⟨(Pg.Made.start (Below.refl _ _) (l0.length + 1) A0 l0.length c0 1 2 0 (by decide)).drew⟩⟩ | exact ⟨_, _, _, _, rfl, ⟨(Pg.Made.start (Below.refl _ _) (l0.length + 1) A0 l0.length c0 2 0 1 (by decide)).drew⟩⟩ | exact ⟨_, _, _, _, rfl, ⟨(Pg.Made.start (Below.refl _ _) (l0.length + 1) A0 l0.length c0 2 1 0 (by decide)).drew⟩⟩)
  case rest =>
    obtain ⟨g, b1, b2, b3, rfl, HM⟩ := hcut
    clear hmk
    go_wp2
    go_loopg [24] (l0.length) (fun kq v24 w' => ∃ (i : Nat) (X1 : List Int), v24 = .int .i64 (i : Int) ∧ Aside0 (i + kq = l0.length) ∧ Aside0 (∀ j : Nat, j ≤ i → rd X1 (j : Int) = pages_ready.H l0 j) ∧ Aside0 (Pg.Made w w' A0 l0.length c0 (l0.length + 1) g b1 b2 b3 X1 (Pg.zeros (l0.length + 1)) (Pg.zeros (l0.length + 1))))
    case atStart =>
      refine ⟨0, Pg.zeros (l0.length + 1), rfl, ⟨by omega⟩, ⟨fun j hj => ?_⟩, HM⟩
      obtain rfl : j = 0 := by omega
      rfl
    case round =>
      obtain ⟨i, X1, rfl, HK, HP, HM⟩ := hrel
      by_cases c1 : i < l0.length
      · have c1b0 : decide ((i : Int) < (l0.length : Int)) = true := decide_eq_true (by omega)
        have hb := HM.out.hb
        have hn := HLEN.out
        obtain ⟨ad, ead, hx0, hx1, hx2, hx3⟩ := at_T43 HR0.out (i : Int) (by omega) (by omega)
        cases ead
        replace hx0 := pw_cell_below hb hx0
        replace hx1 := pw_cell_below hb hx1
        replace hx2 := pw_cell_below hb hx2
        replace hx3 := pw_cell_below hb hx3
        simp only [Int.toNat_natCast] at hx0 hx1 hx2 hx3
        clear hb
        have q3 : ((i : Int) < (l0.length : Int) + 1) = True := eq_true (by omega)
        have q1 : ((i : Int) + 1 < (l0.length : Int) + 1) = True := eq_true (by omega)
        have q2 : (0 ≤ (i : Int) + 1) = True := eq_true (by omega)
        have hw2 : IntKind.i64.wrap ((i : Int) + 1) = (i : Int) + 1 := by rw [IntKind.wrap_i64]; omega
        have ei : ((i : Int) + 1).toNat = i + 1 := by omega
        clear hn
        go_wp2
        clear hx0 hx1 hx2 hx3
        generalize hW : wr.alloc (Obj.cells #[.int .i64 (rd_T43 l0 (i : Int)).f0, .int .i64 (rd_T43 l0 (i : Int)).f1, .int .i64 (rd_T43 l0 (i : Int)).f2, .int .i64 (rd_T43 l0 (i : Int)).f3] 43) = W
        have HMW := Aside0.mk (HM.out.alloc (Obj.cells #[.int .i64 (rd_T43 l0 (i : Int)).f0, .int .i64 (rd_T43 l0 (i : Int)).f1, .int .i64 (rd_T43 l0 (i : Int)).f2, .int .i64 (rd_T43 l0 (i : Int)).f3] 43))
        have hx : W.cell? ⟨wr.heap.size, 1, none⟩ = some (.int .i64 (rd_T43 l0 (i : Int)).f1) := by rw [← hW]; exact (blk_cell (heap_alloc_new wr _) 1)
        rw [hW] at HMW
        have nb : wr.heap.size ≠ b1 := Nat.ne_of_gt HM.out.2.1.lt
        have nb' : b1 ≠ wr.heap.size := Ne.symm nb
        have ni : i ≠ i + 1 := by omega
        clear hW HM
        obtain ⟨hg, hr1, hr2, hr3, hl1, hl2, hl3, hd, hge, hb⟩ := HMW.out
        obtain ⟨z0, z1, z2, z3⟩ := Pg.cell4 hg
        have y0 := hr1.cell (i : Int) (by omega) (by omega)
        have y1 := hr1.cell ((i : Int) + 1) (by omega) (by omega)
        have f1 := hr1.frozen (i + 1)
        rw [ei] at y1
        rw [Int.toNat_natCast] at y0
        have d4 := hd.2.2.2.1
        have d4' := Ne.symm d4
        clear hg hr1 hr2 hr3 hl1 hl2 hl3 hd hge hb z0 z2 z3
        go_region_held3 (fun w' => w'.cell? ⟨g, 1, none⟩ = some (.slice (some ⟨b1, 0, none⟩) (l0.length + 1) (l0.length + 1)) ∧ w'.cell? ⟨b1, i, none⟩ = some (.int .i64 (rd X1 (i : Int))) ∧ w'.cell? ⟨wr.heap.size, 1, none⟩ = some (.int .i64 (rd_T43 l0 (i : Int)).f1)) (simp [*, World.cell?_alloc_some, World.cell?_setCell_far, World.cell?_setCell_other]) (fail)
        go_wp2
        go_roundg (gk - 1)
        case measure => have := HK.out; omega
        case rel =>
          obtain ⟨hg, hr1, hr2, hr3, hl1, hl2, hl3, hd, hge, hb⟩ := HMW.out
          have hn := HK.out
          refine ⟨i + 1, X1.set (i + 1) (wrap64 (rd X1 (i : Int) + (rd_T43 l0 (i : Int)).f1)), by first | rfl | simp, ⟨by omega⟩, ⟨fun j hj => ?_⟩, ⟨(HMW.out.set1 (i + 1) _).drew⟩⟩
          rw [pages_ready.rd_set _ _ _ _ (by omega)]
          by_cases e : j = i + 1
          · rw [if_pos e, e, pages_ready.H_succ l0 i (by omega), HP.out i (by omega)]
          · rw [if_neg e]
            exact HP.out j (by omega)
      · have c1b0 : decide ((i : Int) < (l0.length : Int)) = false := decide_eq_false (by omega)
        have hin : i = l0.length := by have := HK.out; omega
        subst hin
        clear c1
        obtain ⟨hg, hr1, hr2, hr3, hl1, hl2, hl3, hd, hge, hb⟩ := HM.out
        obtain ⟨z0, z1, z2, z3⟩ := Pg.cell4 hg
        have y2 := hr2.cell (l0.length : Int) (by omega) (by omega)
        have y3 := hr3.cell (l0.length : Int) (by omega) (by omega)
        have f2 := hr2.frozen l0.length
        have f3 := hr3.frozen l0.length
        rw [Int.toNat_natCast] at y2 y3
        have d23 : b2 ≠ b3 := hd.2.2.1
        have d32 : b3 ≠ b2 := Ne.symm d23
        have dg2 : g ≠ b2 := hd.2.2.2.2.1
        have dg3 : g ≠ b3 := hd.2.2.2.2.2
        have dg2' := Ne.symm dg2
        have dg3' := Ne.symm dg3
        have q1 : ((l0.length : Int) < (l0.length : Int) + 1) = True := eq_true (by omega)
        clear hg hr1 hr2 hr3 hl1 hl2 hl3 hd hge hb z0 z1
        go_wp2
        go_region_held3 (fun w' => w'.cell? ⟨g, 2, none⟩ = some (.slice (some ⟨b2, 0, none⟩) (l0.length + 1) (l0.length + 1)) ∧ w'.cell? ⟨g, 3, none⟩ = some (.slice (some ⟨b3, 0, none⟩) (l0.length + 1) (l0.length + 1))) (simp [*, World.cell?_alloc_some, World.cell?_setCell_far, World.cell?_setCell_other]) (fail)
        have HM1 := Aside0.mk ((HM.out.set2 l0.length (l0.length : Int)).set3 l0.length (l0.length : Int)).drew
        generalize hW1 : World.drew (World.setCell (World.setCell wr ⟨b2, l0.length, none⟩ (.int .i64 (l0.length : Int))) ⟨b3, l0.length, none⟩ (.int .i64 (l0.length : Int))) = W1 at HM1 ⊢
        clear hW1 z2 z3 y2 y3 f2 f3 HM HK
        have hw3 : IntKind.i64.wrap ((l0.length : Int) - 1) = (l0.length : Int) - 1 := by have := HLEN.out; rw [IntKind.wrap_i64]; omega
        go_wp2
        go_loopg [7] (l0.length) (fun kq v7 w' => ∃ (x7 : Int) (X2 X3 : List Int), v7 = .int .i64 x7 ∧ Aside0 (x7 + 1 = (kq : Int) ∧ kq ≤ l0.length) ∧ Aside0 (∀ j : Nat, kq ≤ j → j ≤ l0.length → rd X2 (j : Int) = pages_ready.F (l0.drop j) j ∧ rd X3 (j : Int) = pages_ready.M (l0.drop j) j) ∧ Aside0 (Pg.Made w w' A0 l0.length c0 (l0.length + 1) g b1 b2 b3 X1 X2 X3))
        case atStart =>
          refine ⟨(l0.length : Int) - 1, _, _, by first | rfl | simp, ⟨by omega⟩, ⟨fun j hj hj2 => ?_⟩, HM1⟩
          obtain rfl : j = l0.length := by omega
          have hz : (Pg.zeros (l0.length + 1)).length = l0.length + 1 := by simp [Pg.zeros]
          rw [pages_ready.rd_set _ _ _ _ (by omega), if_pos rfl, List.drop_length]
          exact ⟨rfl, rfl⟩
        case round =>
          clear HM1
          obtain ⟨x7, X2, X3, rfl, HK, HQ, HM⟩ := hrel
          cases gk with
          | zero =>
            obtain rfl : x7 = -1 := by have := HK.out; omega
            go_wp2
            go_ret
            obtain ⟨hg, hr1, hr2, hr3, hl1, hl2, hl3, hd, hge, hb⟩ := HM.out
            have hn := HLEN.out
            have e1 := pages_ready.row_eq X1 l0.length (pages_ready.H l0) hl1 (fun j hj => HP.out j hj)
            have e2 := pages_ready.row_eq X2 l0.length (fun j => pages_ready.F (l0.drop j) j) hl2 (fun j hj => (HQ.out j (Nat.zero_le _) hj).1)
            have e3 := pages_ready.row_eq X3 l0.length (fun j => pages_ready.M (l0.drop j) j) hl3 (fun j hj => (HQ.out j (Nat.zero_le _) hj).2)
            have k1 := hr1.C (by omega)
            have k2 := hr2.C (by omega)
            have k3 := hr3.C (by omega)
            refine ⟨g, rfl, ?_, hb⟩
            show Pg.Col k43 _ g l0 ((List.range (l0.length + 1)).map (pages_ready.H l0)) ((List.range (l0.length + 1)).map fun j => pages_ready.F (l0.drop j) j) ((List.range (l0.length + 1)).map fun j => pages_ready.M (l0.drop j) j)
            rw [← e1, ← e2, ← e3]
            refine ⟨A0, c0, some ⟨b1, 0, none⟩, l0.length + 1, some ⟨b2, 0, none⟩, l0.length + 1, some ⟨b3, 0, none⟩, l0.length + 1, ?_, Kd.C_below HR0.out hb, k1, k2, k3⟩
            rw [hl1, hl2, hl3]
            exact hg
          | succ q =>
            obtain rfl : x7 = (q : Int) := by have := HK.out; omega
            have hn := HLEN.out
            have hqn := HK.out.2
            have c2b0 : decide (0 ≤ (q : Int)) = true := decide_eq_true (by omega)
            obtain ⟨hg, hr1, hr2, hr3, hl1, hl2, hl3, hd, hge, hb⟩ := HM.out
            obtain ⟨z0, z1, z2, z3⟩ := Pg.cell4 hg
            have ei : ((q : Int) + 1).toNat = q + 1 := by omega
            have hw2 : IntKind.i64.wrap ((q : Int) + 1) = (q : Int) + 1 := by rw [IntKind.wrap_i64]; omega
            have y2 := hr2.cell (q : Int) (by omega) (by omega)
            have y3 := hr3.cell (q : Int) (by omega) (by omega)
            have y2' := hr2.cell ((q : Int) + 1) (by omega) (by omega)
            have y3' := hr3.cell ((q : Int) + 1) (by omega) (by omega)
            rw [Int.toNat_natCast] at y2 y3
            rw [ei] at y2' y3'
            have f2 := hr2.frozen q
            have f3 := hr3.frozen q
            have p1 : (0 ≤ (q : Int) + 1) = True := eq_true (by omega)
            have p2 : ((q : Int) + 1 < (l0.length : Int) + 1) = True := eq_true (by omega)
            have p3 : ((q : Int) < (l0.length : Int) + 1) = True := eq_true (by omega)
            clear hg hr1 hr2 hr3 hl1 hl2 hl3 hd hge hb z0 z1 hn hqn
            go_wp2
            go_region_held3 (fun w' => w'.cell? ⟨g, 2, none⟩ = some (.slice (some ⟨b2, 0, none⟩) (l0.length + 1) (l0.length + 1)) ∧ w'.cell? ⟨g, 3, none⟩ = some (.slice (some ⟨b3, 0, none⟩) (l0.length + 1) (l0.length + 1)) ∧ w'.cell? ⟨b2, q + 1, none⟩ = some (.int .i64 (rd X2 ((q : Int) + 1))) ∧ w'.cell? ⟨b3, q + 1, none⟩ = some (.int .i64 (rd X3 ((q : Int) + 1)))) (simp [*, World.cell?_alloc_some, World.cell?_setCell_far, World.cell?_setCell_other]) (fail)
            have HM1 := Aside0.mk ((HM.out.set2 q (rd X2 ((q : Int) + 1))).set3 q (rd X3 ((q : Int) + 1))).drew
            generalize hW1 : World.drew (World.setCell (World.setCell wr ⟨b2, q, none⟩ (.int .i64 (rd X2 ((q : Int) + 1)))) ⟨b3, q, none⟩ (.int .i64 (rd X3 ((q : Int) + 1)))) = W2 at HM1 ⊢
            have hl2 := HM.out.2.2.2.2.2.1
            have hl3 := HM.out.2.2.2.2.2.2.1
            have hqn := HK.out.2
            have HX2 : Aside0 (∀ j : Nat, q ≤ j → j ≤ l0.length → rd (X2.set q (rd X2 ((q : Int) + 1))) (j : Int) = if j = q then pages_ready.F (l0.drop (q + 1)) (q + 1) else pages_ready.F (l0.drop j) j) := ⟨by
              intro j h1 h2
              rw [pages_ready.rd_set _ _ _ _ (by omega)]
              by_cases e : j = q
              · rw [if_pos e, if_pos e]
                exact (HQ.out (q + 1) (Nat.le_refl _) (by omega)).1
              · rw [if_neg e, if_neg e]
                exact (HQ.out j (by omega) h2).1⟩
            have HX3 : Aside0 (∀ j : Nat, q ≤ j → j ≤ l0.length → rd (X3.set q (rd X3 ((q : Int) + 1))) (j : Int) = if j = q then pages_ready.M (l0.drop (q + 1)) (q + 1) else pages_ready.M (l0.drop j) j) := ⟨by
              intro j h1 h2
              rw [pages_ready.rd_set _ _ _ _ (by omega)]
              by_cases e : j = q
              · rw [if_pos e, if_pos e]
                exact (HQ.out (q + 1) (Nat.le_refl _) (by omega)).2
              · rw [if_neg e, if_neg e]
                exact (HQ.out j (by omega) h2).2⟩
            have HN2 := Aside0.mk (show (X2.set q (rd X2 ((q : Int) + 1))).length = l0.length + 1 by rw [List.length_set]; exact hl2)
            have HN3 := Aside0.mk (show (X3.set q (rd X3 ((q : Int) + 1))).length = l0.length + 1 by rw [List.length_set]; exact hl3)
            generalize X2.set q (rd X2 ((q : Int) + 1)) = Y2 at HM1 HX2 HN2
            generalize X3.set q (rd X3 ((q : Int) + 1)) = Y3 at HM1 HX3 HN3
            clear hW1 hl2 hl3 hqn z2 z3 y2 y3 y2' y3' f2 f3 HM HQ c2b0
            have hqn : q < l0.length := HK.out.2
            have HQN := Aside0.mk hqn
            have p4 : ((q : Int) < (l0.length : Int)) = True := eq_true (by omega)
            have p5 : (0 ≤ (q : Int)) = True := eq_true (by omega)
            obtain ⟨ad, ead, hx0, hx1, hx2, hx3⟩ := at_T43 HR0.out (q : Int) (by omega) (by omega)
            cases ead
            simp only [Int.toNat_natCast] at hx0 hx1 hx2 hx3
            have HXS := Aside0.mk (And.intro hx0 (And.intro hx1 (And.intro hx2 hx3)))
            clear hx0 hx1 hx2 hx3 hqn
            have hx0 := pw_cell_below HM1.out.hb HXS.out.1
            go_upto_if 100 with (fail)
            clear hx0
            go_cut [7] (fun v7 wc => v7 = .int .i64 (q : Int) ∧ ∃ Z2 : List Int, Aside0 (∀ j : Nat, q ≤ j → j ≤ l0.length → rd Z2 (j : Int) = pages_ready.F (l0.drop j) j) ∧ Aside0 (Pg.Made w wc (some ad) l0.length c0 (l0.length + 1) g b1 b2 b3 X1 Z2 Y3))
            case first =>
              by_cases ck : (rd_T43 l0 (q : Int)).f0 = 1
              · have ckb : ((rd_T43 l0 (q : Int)).f0 == 1) = true := beq_iff_eq.mpr ck
                obtain ⟨hg, hr1, hr2, hr3, hl1, hl2, hl3, hd, hge, hb⟩ := HM1.out
                obtain ⟨z0, z1, z2, z3⟩ := Pg.cell4 hg
                have y2 := hr2.cell (q : Int) (by omega) (by have := HN2.out; have := HQN.out; omega)
                rw [Int.toNat_natCast] at y2
                have f2 := hr2.frozen q
                have CK := Aside0.mk ck
                clear hg hr1 hr2 hr3 hl1 hl2 hl3 hd hge hb z0 z1 z3 ck
                go_wp2
                go_meet
                case rel =>
                  refine ⟨rfl, Y2.set q (q : Int), ⟨fun j h1 h2 => ?_⟩, ⟨HM1.out.set2 q (q : Int)⟩⟩
                  rw [pages_ready.rd_set _ _ _ _ (by have := HN2.out; have := HQN.out; omega)]
                  by_cases e : j = q
                  · rw [if_pos e, e, pages_ready.F_step l0 q HQN.out, if_pos CK.out]
                  · rw [if_neg e, HX2.out j h1 h2, if_neg e]
              · have ckb : ((rd_T43 l0 (q : Int)).f0 == 1) = false := beq_eq_false_iff_ne.mpr ck
                have CK := Aside0.mk ck
                clear ck
                go_wp2
                go_meet
                case rel =>
                  refine ⟨rfl, Y2, ⟨fun j h1 h2 => ?_⟩, HM1⟩
                  rw [HX2.out j h1 h2]
                  by_cases e : j = q
                  · rw [if_pos e, e, pages_ready.F_step l0 q HQN.out, if_neg CK.out]
                  · rw [if_neg e]
            case rest =>
              obtain ⟨rfl, Z2, HZ2, HM2⟩ := hcut
              clear HM1 HX2
              have hb1 := HM2.out.hb
              have hx0 := pw_cell_below hb1 HXS.out.1
              have hx1 := pw_cell_below hb1 HXS.out.2.1
              have hx2 := pw_cell_below hb1 HXS.out.2.2.1
              have hx3 := pw_cell_below hb1 HXS.out.2.2.2
              have hw4 : IntKind.i64.wrap ((q : Int) - 1) = (q : Int) - 1 := by have := HLEN.out; have := HQN.out; rw [IntKind.wrap_i64]; omega
              clear hb1
              by_cases ck : (rd_T43 l0 (q : Int)).f0 = 3 ∧ (rd_T43 l0 (q : Int)).f3 = -10000
              · have CV := Aside0.mk ((pages_forced.val (rd_T43 l0 (q : Int)).f0 (rd_T43 l0 (q : Int)).f1 (rd_T43 l0 (q : Int)).f2 (rd_T43 l0 (q : Int)).f3).trans (congrArg some (decide_eq_true ck)))
                have CK := Aside0.mk ck
                clear ck
                go_wp2_with (first | (go_at_call 48; (refine (pages_forced.calls _ _ _ _ true _ CV.out).mono ?_); rintro e w6 ⟨rfl, hb6⟩; have HM3 := Aside0.mk (HM2.out.below hb6); (obtain ⟨hg, hr1, hr2, hr3, hl1, hl2, hl3, hd, hge, hb⟩ := HM3.out); (obtain ⟨z0, z1, z2, z3⟩ := Pg.cell4 hg); have y3 := hr3.cell (q : Int) (by omega) (by have := HN3.out; have := HQN.out; omega); rw [Int.toNat_natCast] at y3; have f3 := hr3.frozen q; clear hg hr1 hr2 hr3 hl1 hl2 hl3 hd hge hb z0 z1 z2 hx0 hx1 hx2 hx3 hb6 HM2))
                go_roundg q
                case measure => exact Nat.lt_succ_self q
                case rel =>
                  refine ⟨(q : Int) - 1, Z2, Y3.set q (q : Int), by first | rfl | simp, ⟨by have := HQN.out; omega⟩, ⟨fun j h1 h2 => ⟨HZ2.out j h1 h2, ?_⟩⟩, ⟨HM3.out.set3 q (q : Int)⟩⟩
                  rw [pages_ready.rd_set _ _ _ _ (by have := HN3.out; have := HQN.out; omega)]
                  by_cases e : j = q
                  · rw [if_pos e, e, pages_ready.M_step l0 q HQN.out, if_pos CK.out]
                  · rw [if_neg e, HX3.out j h1 h2, if_neg e]
              · have CV := Aside0.mk ((pages_forced.val (rd_T43 l0 (q : Int)).f0 (rd_T43 l0 (q : Int)).f1 (rd_T43 l0 (q : Int)).f2 (rd_T43 l0 (q : Int)).f3).trans (congrArg some (decide_eq_false ck)))
                have CK := Aside0.mk ck
                clear ck
                go_wp2_with (first | (go_at_call 48; (refine (pages_forced.calls _ _ _ _ false _ CV.out).mono ?_); rintro e w6 ⟨rfl, hb6⟩; have HM3 := Aside0.mk (HM2.out.below hb6); clear hx0 hx1 hx2 hx3 hb6 HM2))
                go_roundg q
                case measure => exact Nat.lt_succ_self q
                case rel =>
                  refine ⟨(q : Int) - 1, Z2, Y3, by first | rfl | simp, ⟨by have := HQN.out; omega⟩, ⟨fun j h1 h2 => ⟨HZ2.out j h1 h2, ?_⟩⟩, HM3⟩
                  rw [HX3.out j h1 h2]
                  by_cases e : j = q
                  · rw [if_pos e, e, pages_ready.M_step l0 q HQN.out, if_neg CK.out]
                  · rw [if_neg e]

/-! ### pages_column_legal: function 37 -/
def pages_column_legal.f (s0_0 : List (S43)) (s0_1 : List Int) (s0_2 : List Int) (s0_3 : List Int) (a1 : Int) : Option (Bool) := if 0 ≤ a1 then (if a1 < (s0_0.length : Int) then (if ((rd_T43 s0_0 a1).f0) = 3 then (some (decide (((rd_T43 s0_0 a1).f3) < 10000))) else (some false)) else (some false)) else (some false)
set_option maxHeartbeats 8000000 in
set_option maxRecDepth 100000 in
theorem pages_column_legal.calls (g : Nat) (s0_0 : List (S43)) (s0_1 : List Int) (s0_2 : List Int) (s0_3 : List Int) (a1 : Int) (r : Bool) (w : World) (hI : Pg.Col k43 w g s0_0 s0_1 s0_2 s0_3) (h : pages_column_legal.f s0_0 s0_1 s0_2 s0_3 a1 = some r) :
    Calls Try.prog 37 #[.pointer (some ⟨g, 0, none⟩), .int .i64 a1] w fun e w' => e = .returned (.bool r) ∧ Below w.heap.size w w' := by
  have HI0 := Aside0.mk hI
  clear hI
  have HB := Aside0.mk (Below.refl w.heap.size w)
  have H : (if 0 ≤ a1 then (if a1 < (s0_0.length : Int) then (if ((rd_T43 s0_0 a1).f0) = 3 then (some (decide (((rd_T43 s0_0 a1).f3) < 10000))) else (some false)) else (some false)) else (some false)) = some r := h
  clear h
  by_cases c3 : 0 ≤ a1
  · rw [if_pos c3] at H
    have c3b0 : decide (0 ≤ a1) = true := decide_eq_true c3
    clear c3
    by_cases c4 : a1 < (s0_0.length : Int)
    · rw [if_pos c4] at H
      have c4b0 : decide (a1 < (s0_0.length : Int)) = true := decide_eq_true c4
      clear c4
      by_cases c5 : ((rd_T43 s0_0 a1).f0) = 3
      · rw [if_pos c5] at H
        have c5b0 : (((rd_T43 s0_0 a1).f0) == 3) = true := beq_iff_eq.mpr c5
        have c5b1 : (((rd_T43 s0_0 a1).f0) != 3) = false := bne_eq_false_iff_eq.mpr c5
        clear c5
        obtain rfl := Option.some.inj H
        obtain ⟨ASz6_0, cSz6_0, ASz6_1, cSz6_1, ASz6_2, cSz6_2, ASz6_3, cSz6_3, HGz6, HSz6_0, HSz6_1, HSz6_2, HSz6_3⟩ := HI0.out
        obtain ⟨hcz6_0, hcz6_1, hcz6_2, hcz6_3⟩ := Pg.cell4 HGz6
        clear HGz6
        have p137 : 0 ≤ (a1 : Int) := of_decide_eq_true (by first | (with_reducible assumption) | assumption)
        have q137 : a1 < (s0_0.length : Int) := of_decide_eq_true (by first | (with_reducible assumption) | assumption)
        obtain ⟨ad137, e137, hx137_0, hx137_1, hx137_2, hx137_3⟩ := at_T43 HSz6_0 a1 p137 q137
        cases e137
        replace p137 := eq_true p137
        replace q137 := eq_true q137
        have p138 : 0 ≤ (a1 : Int) := of_decide_eq_true (by first | (with_reducible assumption) | assumption)
        have q138 : a1 < (s0_0.length : Int) := of_decide_eq_true (by first | (with_reducible assumption) | assumption)
        obtain ⟨ad138, e138, hx138_0, hx138_1, hx138_2, hx138_3⟩ := at_T43 HSz6_0 a1 p138 q138
        obtain rfl : ad137 = ad138 := (by injection e138)
        replace p138 := eq_true p138
        replace q138 := eq_true q138
        go_enter Try.func37, Try.ntmps37
        go_wp2
        go_ret
        exact ⟨by first | rfl | (simp [errW_none, errW_some] <;> rfl) | (simp [*, errW_none, errW_some] <;> rfl), by repeat (first | (with_reducible first | exact HB.out | apply below_alloc | apply pw_below_drewN | apply below_drew1) | exact HB.out)⟩
      · rw [if_neg c5] at H
        have c5b0 : (((rd_T43 s0_0 a1).f0) == 3) = false := beq_eq_false_iff_ne.mpr c5
        have c5b1 : (((rd_T43 s0_0 a1).f0) != 3) = true := bne_iff_ne.mpr c5
        obtain rfl := Option.some.inj H
        obtain ⟨ASz7_0, cSz7_0, ASz7_1, cSz7_1, ASz7_2, cSz7_2, ASz7_3, cSz7_3, HGz7, HSz7_0, HSz7_1, HSz7_2, HSz7_3⟩ := HI0.out
        obtain ⟨hcz7_0, hcz7_1, hcz7_2, hcz7_3⟩ := Pg.cell4 HGz7
        clear HGz7
        have p137 : 0 ≤ (a1 : Int) := of_decide_eq_true (by first | (with_reducible assumption) | assumption)
        have q137 : a1 < (s0_0.length : Int) := of_decide_eq_true (by first | (with_reducible assumption) | assumption)
        obtain ⟨ad137, e137, hx137_0, hx137_1, hx137_2, hx137_3⟩ := at_T43 HSz7_0 a1 p137 q137
        cases e137
        replace p137 := eq_true p137
        replace q137 := eq_true q137
        go_enter Try.func37, Try.ntmps37
        go_wp2
        go_ret
        exact ⟨by first | rfl | (simp [errW_none, errW_some] <;> rfl) | (simp [*, errW_none, errW_some] <;> rfl), by repeat (first | (with_reducible first | exact HB.out | apply below_alloc | apply pw_below_drewN | apply below_drew1) | exact HB.out)⟩
    · rw [if_neg c4] at H
      have c4b0 : decide (a1 < (s0_0.length : Int)) = false := decide_eq_false c4
      clear c4
      obtain rfl := Option.some.inj H
      obtain ⟨ASz8_0, cSz8_0, ASz8_1, cSz8_1, ASz8_2, cSz8_2, ASz8_3, cSz8_3, HGz8, HSz8_0, HSz8_1, HSz8_2, HSz8_3⟩ := HI0.out
      obtain ⟨hcz8_0, hcz8_1, hcz8_2, hcz8_3⟩ := Pg.cell4 HGz8
      clear HGz8
      go_enter Try.func37, Try.ntmps37
      go_wp2
      go_ret
      exact ⟨by first | rfl | (simp [errW_none, errW_some] <;> rfl) | (simp [*, errW_none, errW_some] <;> rfl), by repeat (first | (with_reducible first | exact HB.out | apply below_alloc | apply pw_below_drewN | apply below_drew1) | exact HB.out)⟩
  · rw [if_neg c3] at H
    have c3b0 : decide (0 ≤ a1) = false := decide_eq_false c3
    clear c3
    obtain rfl := Option.some.inj H
    go_enter Try.func37, Try.ntmps37
    go_wp2
    go_ret
    exact ⟨by first | rfl | (simp [errW_none, errW_some] <;> rfl) | (simp [*, errW_none, errW_some] <;> rfl), by repeat (first | (with_reducible first | exact HB.out | apply below_alloc | apply pw_below_drewN | apply below_drew1) | exact HB.out)⟩

/-! ### pages_column_page: function 43 -/
def pages_column_page.f (s0_0 : List (S43)) (s0_1 : List Int) (s0_2 : List Int) (s0_3 : List Int) (a1 : Int) (a2 : Int) : Option (Int) := if 0 ≤ (wrap64 (a1 + 1)) then (if (wrap64 (a1 + 1)) < (s0_2.length : Int) then (if (rd s0_2 (wrap64 (a1 + 1))) ≥ a2 then (some 0) else (if 0 ≤ a2 then (if a2 < (s0_1.length : Int) then (if 0 ≤ (rd s0_2 (wrap64 (a1 + 1))) then (if (rd s0_2 (wrap64 (a1 + 1))) < (s0_1.length : Int) then (if (rd s0_2 (wrap64 (a1 + 1))) < (s0_0.length : Int) then (some (wrap64 ((wrap64 ((rd s0_1 a2) - (rd s0_1 (rd s0_2 (wrap64 (a1 + 1)))))) + ((rd_T43 s0_0 (rd s0_2 (wrap64 (a1 + 1)))).f2)))) else (none)) else (none)) else (none)) else (none)) else (none))) else (none)) else (none)
set_option maxHeartbeats 8000000 in
set_option maxRecDepth 100000 in
theorem pages_column_page.calls (g : Nat) (s0_0 : List (S43)) (s0_1 : List Int) (s0_2 : List Int) (s0_3 : List Int) (a1 : Int) (a2 : Int) (r : Int) (w : World) (hI : Pg.Col k43 w g s0_0 s0_1 s0_2 s0_3) (h : pages_column_page.f s0_0 s0_1 s0_2 s0_3 a1 a2 = some r) :
    Calls Try.prog 43 #[.pointer (some ⟨g, 0, none⟩), .int .i64 a1, .int .i64 a2] w fun e w' => e = .returned (.int .i64 r) ∧ Below w.heap.size w w' := by
  have HI0 := Aside0.mk hI
  clear hI
  have HB := Aside0.mk (Below.refl w.heap.size w)
  have H : (if 0 ≤ (wrap64 (a1 + 1)) then (if (wrap64 (a1 + 1)) < (s0_2.length : Int) then (if (rd s0_2 (wrap64 (a1 + 1))) ≥ a2 then (some 0) else (if 0 ≤ a2 then (if a2 < (s0_1.length : Int) then (if 0 ≤ (rd s0_2 (wrap64 (a1 + 1))) then (if (rd s0_2 (wrap64 (a1 + 1))) < (s0_1.length : Int) then (if (rd s0_2 (wrap64 (a1 + 1))) < (s0_0.length : Int) then (some (wrap64 ((wrap64 ((rd s0_1 a2) - (rd s0_1 (rd s0_2 (wrap64 (a1 + 1)))))) + ((rd_T43 s0_0 (rd s0_2 (wrap64 (a1 + 1)))).f2)))) else (none)) else (none)) else (none)) else (none)) else (none))) else (none)) else (none)) = some r := h
  clear h
  obtain ⟨ji4, hji4⟩ : ∃ j_ : Int, (wrap64 (a1 + 1)) = j_ := ⟨_, rfl⟩
  replace H : (if 0 ≤ (ji4) then (if (ji4) < (s0_2.length : Int) then (if (rd s0_2 (ji4)) ≥ a2 then (some 0) else (if 0 ≤ a2 then (if a2 < (s0_1.length : Int) then (if 0 ≤ (rd s0_2 (ji4)) then (if (rd s0_2 (ji4)) < (s0_1.length : Int) then (if (rd s0_2 (ji4)) < (s0_0.length : Int) then (some (wrap64 ((wrap64 ((rd s0_1 a2) - (rd s0_1 (rd s0_2 (ji4))))) + ((rd_T43 s0_0 (rd s0_2 (ji4))).f2)))) else (none)) else (none)) else (none)) else (none)) else (none))) else (none)) else (none)) = some r := by first | (rw [hji4] at H; exact H) | (simp only [hji4] at H ⊢; exact H)
  have hji4w : (IntKind.i64.wrap (a1 + 1)) = ji4 := (i64_w _).trans hji4
  by_cases c5 : 0 ≤ (ji4)
  · rw [if_pos c5] at H
    have c5b0 : decide (0 ≤ (ji4)) = true := decide_eq_true c5
    clear c5
    by_cases c6 : (ji4) < (s0_2.length : Int)
    · rw [if_pos c6] at H
      have c6b0 : decide ((ji4) < (s0_2.length : Int)) = true := decide_eq_true c6
      clear c6
      by_cases c7 : (rd s0_2 (ji4)) ≥ a2
      · rw [if_pos c7] at H
        have c7b0 : decide (a2 ≤ (rd s0_2 (ji4))) = true := decide_eq_true c7
        clear c7
        obtain rfl := Option.some.inj H
        obtain ⟨ASz8_0, cSz8_0, ASz8_1, cSz8_1, ASz8_2, cSz8_2, ASz8_3, cSz8_3, HGz8, HSz8_0, HSz8_1, HSz8_2, HSz8_3⟩ := HI0.out
        obtain ⟨hcz8_0, hcz8_1, hcz8_2, hcz8_3⟩ := Pg.cell4 HGz8
        clear HGz8
        have p139 : 0 ≤ ((ji4) : Int) := of_decide_eq_true (by first | (with_reducible assumption) | assumption)
        have q139 : (ji4) < (s0_2.length : Int) := of_decide_eq_true (by first | (with_reducible assumption) | assumption)
        obtain ⟨ad139, e139, hx139_0⟩ := Kd.at_int HSz8_2 (ji4) p139 q139
        cases e139
        replace p139 := eq_true p139
        replace q139 := eq_true q139
        go_enter Try.func43, Try.ntmps43
        go_wp2
        repeat (go_quiet (fail); try go_wp2)
        go_ret
        exact ⟨by first | rfl | (simp [errW_none, errW_some] <;> rfl) | (simp only [← hji4]; first | rfl | (simp [errW_none, errW_some] <;> rfl)) | (simp [*, errW_none, errW_some] <;> rfl), by repeat (first | (with_reducible first | exact HB.out | apply below_alloc | apply pw_below_drewN | apply below_drew1) | exact HB.out)⟩
      · rw [if_neg c7] at H
        have c7b0 : decide (a2 ≤ (rd s0_2 (ji4))) = false := decide_eq_false c7
        clear c7
        by_cases c9 : 0 ≤ a2
        · rw [if_pos c9] at H
          have c9b0 : decide (0 ≤ a2) = true := decide_eq_true c9
          clear c9
          by_cases c10 : a2 < (s0_1.length : Int)
          · rw [if_pos c10] at H
            have c10b0 : decide (a2 < (s0_1.length : Int)) = true := decide_eq_true c10
            clear c10
            by_cases c11 : 0 ≤ (rd s0_2 (ji4))
            · rw [if_pos c11] at H
              have c11b0 : decide (0 ≤ (rd s0_2 (ji4))) = true := decide_eq_true c11
              clear c11
              by_cases c12 : (rd s0_2 (ji4)) < (s0_1.length : Int)
              · rw [if_pos c12] at H
                have c12b0 : decide ((rd s0_2 (ji4)) < (s0_1.length : Int)) = true := decide_eq_true c12
                clear c12
                by_cases c13 : (rd s0_2 (ji4)) < (s0_0.length : Int)
                · rw [if_pos c13] at H
                  have c13b0 : decide ((rd s0_2 (ji4)) < (s0_0.length : Int)) = true := decide_eq_true c13
                  clear c13
                  obtain rfl := Option.some.inj H
                  obtain ⟨ASz14_0, cSz14_0, ASz14_1, cSz14_1, ASz14_2, cSz14_2, ASz14_3, cSz14_3, HGz14, HSz14_0, HSz14_1, HSz14_2, HSz14_3⟩ := HI0.out
                  obtain ⟨hcz14_0, hcz14_1, hcz14_2, hcz14_3⟩ := Pg.cell4 HGz14
                  clear HGz14
                  have p139 : 0 ≤ ((ji4) : Int) := of_decide_eq_true (by first | (with_reducible assumption) | assumption)
                  have q139 : (ji4) < (s0_2.length : Int) := of_decide_eq_true (by first | (with_reducible assumption) | assumption)
                  obtain ⟨ad139, e139, hx139_0⟩ := Kd.at_int HSz14_2 (ji4) p139 q139
                  cases e139
                  replace p139 := eq_true p139
                  replace q139 := eq_true q139
                  have p140 : 0 ≤ (a2 : Int) := of_decide_eq_true (by first | (with_reducible assumption) | assumption)
                  have q140 : a2 < (s0_1.length : Int) := of_decide_eq_true (by first | (with_reducible assumption) | assumption)
                  obtain ⟨ad140, e140, hx140_0⟩ := Kd.at_int HSz14_1 a2 p140 q140
                  cases e140
                  replace p140 := eq_true p140
                  replace q140 := eq_true q140
                  have p141 : 0 ≤ ((rd s0_2 (ji4)) : Int) := of_decide_eq_true (by first | (with_reducible assumption) | assumption)
                  have q141 : (rd s0_2 (ji4)) < (s0_1.length : Int) := of_decide_eq_true (by first | (with_reducible assumption) | assumption)
                  obtain ⟨ad141, e141, hx141_0⟩ := Kd.at_int HSz14_1 (rd s0_2 (ji4)) p141 q141
                  obtain rfl : ad140 = ad141 := (by injection e141)
                  replace p141 := eq_true p141
                  replace q141 := eq_true q141
                  have p142 : 0 ≤ ((rd s0_2 (ji4)) : Int) := of_decide_eq_true (by first | (with_reducible assumption) | assumption)
                  have q142 : (rd s0_2 (ji4)) < (s0_0.length : Int) := of_decide_eq_true (by first | (with_reducible assumption) | assumption)
                  obtain ⟨ad142, e142, hx142_0, hx142_1, hx142_2, hx142_3⟩ := at_T43 HSz14_0 (rd s0_2 (ji4)) p142 q142
                  cases e142
                  replace p142 := eq_true p142
                  replace q142 := eq_true q142
                  go_enter Try.func43, Try.ntmps43
                  go_wp2
                  repeat (go_quiet (fail); try go_wp2)
                  go_ret
                  exact ⟨by first | rfl | (simp [errW_none, errW_some] <;> rfl) | (simp only [← hji4]; first | rfl | (simp [errW_none, errW_some] <;> rfl)) | (simp [*, errW_none, errW_some] <;> rfl), by repeat (first | (with_reducible first | exact HB.out | apply below_alloc | apply pw_below_drewN | apply below_drew1) | exact HB.out)⟩
                · rw [if_neg c13] at H
                  exact absurd H (by simp)
              · rw [if_neg c12] at H
                exact absurd H (by simp)
            · rw [if_neg c11] at H
              exact absurd H (by simp)
          · rw [if_neg c10] at H
            exact absurd H (by simp)
        · rw [if_neg c9] at H
          exact absurd H (by simp)
    · rw [if_neg c6] at H
      exact absurd H (by simp)
  · rw [if_neg c5] at H
    exact absurd H (by simp)

/-! ### pages_column_cost: function 39 -/
def pages_column_cost.f (s0_0 : List (S43)) (s0_1 : List Int) (s0_2 : List Int) (s0_3 : List Int) (a1 : Int) (a2 : Int) (a3 : Int) : Option (Int × Bool) :=
  (pages_column_page.f s0_0 s0_1 s0_2 s0_3 a1 a2).bind fun p => if (wrap64 (a3 - p)) < 0 then some (0, false) else
    if 0 ≤ (wrap64 (a1 + 1)) then (if (wrap64 (a1 + 1)) < (s0_3.length : Int) then (if (rd s0_3 (wrap64 (a1 + 1))) < a2 then some (0, false) else
      if 0 ≤ a2 then (if a2 < (s0_0.length : Int) then ((pages_forced.f ((rd_T43 s0_0 a2).f0) ((rd_T43 s0_0 a2).f1) ((rd_T43 s0_0 a2).f2) ((rd_T43 s0_0 a2).f3)).bind fun t =>
        if t = true then some (0, true) else if a3 = 0 then none else
          some (wrap64 ((wrap64 ((wrap64 (Int.tdiv (wrap64 (100 * (wrap64 (a3 - p)))) a3)) * (wrap64 (Int.tdiv (wrap64 (100 * (wrap64 (a3 - p)))) a3)))) + ((rd_T43 s0_0 a2).f3)), true)) else none) else none) else none) else none
set_option maxHeartbeats 8000000 in
set_option maxRecDepth 100000 in
theorem pages_column_cost.calls (g : Nat) (s0_0 : List (S43)) (s0_1 : List Int) (s0_2 : List Int) (s0_3 : List Int) (a1 : Int) (a2 : Int) (a3 : Int) (r1 : Int) (r2 : Bool) (w : World) (hI : Pg.Col k43 w g s0_0 s0_1 s0_2 s0_3) (h : pages_column_cost.f s0_0 s0_1 s0_2 s0_3 a1 a2 a3 = some (r1, r2)) :
    Calls Try.prog 39 #[.pointer (some ⟨g, 0, none⟩), .int .i64 a1, .int .i64 a2, .int .i64 a3] w fun e w' => e = .returned (.tuple #[.int .i64 r1, .bool r2]) ∧ Below w.heap.size w w' := by
  have HI0 := Aside0.mk hI
  clear hI
  have hu43 := Try.underlying43
  have HB := Aside0.mk (Below.refl w.heap.size w)
  unfold pages_column_cost.f at h
  obtain ⟨p, A10, H⟩ := Option.bind_eq_some_iff.mp h
  clear h
  have A1 := Aside0.mk A10
  clear A10
  obtain ⟨sv, hsv⟩ : ∃ s : Int, wrap64 (a3 - p) = s := ⟨_, rfl⟩
  rw [hsv] at H
  have hsvw : (IntKind.i64.wrap (a3 - p)) = sv := (i64_w _).trans hsv
  clear hsv
  by_cases c1 : sv < 0
  · rw [if_pos c1] at H
    have c1b0 : decide (sv < 0) = true := decide_eq_true c1
    clear c1
    simp only [Option.some.injEq, Prod.mk.injEq] at H
    obtain ⟨rfl, rfl⟩ := H
    go_enter Try.func39, Try.ntmps39
    go_wp2_with (first | (go_at_call 43; (refine (pages_column_page.calls g s0_0 s0_1 s0_2 s0_3 a1 a2 p _ HI0.out A1.out).mono ?_); rintro e w5 ⟨rfl, hb⟩; have n0_ := Aside0.mk (below_step HB.out hb); clear HB; have HB := n0_; clear n0_; clear hb))
    go_ret2
    exact ⟨rfl, HB.out⟩
  rw [if_neg c1] at H
  have c1b0 : decide (sv < 0) = false := decide_eq_false c1
  clear c1
  obtain ⟨ji, hji⟩ : ∃ s : Int, wrap64 (a1 + 1) = s := ⟨_, rfl⟩
  rw [hji] at H
  have hjiw : (IntKind.i64.wrap (a1 + 1)) = ji := (i64_w _).trans hji
  clear hji
  by_cases c2 : 0 ≤ ji
  rotate_left
  · rw [if_neg c2] at H; exact absurd H (by simp)
  rw [if_pos c2] at H
  by_cases c3 : ji < (s0_3.length : Int)
  rotate_left
  · rw [if_neg c3] at H; exact absurd H (by simp)
  rw [if_pos c3] at H
  obtain ⟨ASz_0, cSz_0, ASz_1, cSz_1, ASz_2, cSz_2, ASz_3, cSz_3, HGz, HSz_0, HSz_1, HSz_2, HSz_3⟩ := HI0.out
  obtain ⟨hcz_0, hcz_1, hcz_2, hcz_3⟩ := Pg.cell4 HGz
  clear HGz hcz_1 hcz_2
  obtain ⟨ad3, e3, hx3⟩ := Kd.at_int HSz_3 ji c2 c3
  cases e3
  have c2b0 : decide (0 ≤ ji) = true := decide_eq_true c2
  have c3b0 : decide (ji < (s0_3.length : Int)) = true := decide_eq_true c3
  replace c2 := eq_true c2
  replace c3 := eq_true c3
  clear HSz_1 HSz_2 HSz_3
  by_cases c4 : rd s0_3 ji < a2
  · rw [if_pos c4] at H
    have c4b0 : decide (rd s0_3 ji < a2) = true := decide_eq_true c4
    clear c4
    simp only [Option.some.injEq, Prod.mk.injEq] at H
    obtain ⟨rfl, rfl⟩ := H
    clear HSz_0
    go_enter Try.func39, Try.ntmps39
    go_wp2_with (first | (go_at_call 43; (refine (pages_column_page.calls g s0_0 s0_1 s0_2 s0_3 a1 a2 p _ HI0.out A1.out).mono ?_); rintro e w5 ⟨rfl, hb⟩; have n0_ := Aside0.mk (below_step HB.out hb); clear HB; have HB := n0_; clear n0_; replace hcz_0 := pw_cell_below hb hcz_0; replace hcz_3 := pw_cell_below hb hcz_3; replace hx3 := pw_cell_below hb hx3; clear hb))
    repeat (go_quiet (fail); try go_wp2)
    go_ret2
    exact ⟨rfl, HB.out⟩
  rw [if_neg c4] at H
  have c4b0 : decide (rd s0_3 ji < a2) = false := decide_eq_false c4
  clear c4
  by_cases c5 : 0 ≤ a2
  rotate_left
  · rw [if_neg c5] at H; exact absurd H (by simp)
  rw [if_pos c5] at H
  by_cases c6 : a2 < (s0_0.length : Int)
  rotate_left
  · rw [if_neg c6] at H; exact absurd H (by simp)
  rw [if_pos c6] at H
  obtain ⟨ad0, e0, hx0_0, hx0_1, hx0_2, hx0_3⟩ := at_T43 HSz_0 a2 c5 c6
  cases e0
  clear HSz_0
  have c5b0 : decide (0 ≤ a2) = true := decide_eq_true c5
  have c6b0 : decide (a2 < (s0_0.length : Int)) = true := decide_eq_true c6
  replace c5 := eq_true c5
  replace c6 := eq_true c6
  obtain ⟨t, A20, H⟩ := Option.bind_eq_some_iff.mp H
  have A2 := Aside0.mk A20
  clear A20
  by_cases c7 : t = true
  · subst c7
    rw [if_pos rfl] at H
    simp only [Option.some.injEq, Prod.mk.injEq] at H
    obtain ⟨rfl, rfl⟩ := H
    go_enter Try.func39, Try.ntmps39
    go_wp2_with (first | (go_at_call 43; (refine (pages_column_page.calls g s0_0 s0_1 s0_2 s0_3 a1 a2 p _ HI0.out A1.out).mono ?_); rintro e w5 ⟨rfl, hb⟩; have n0_ := Aside0.mk (below_step HB.out hb); clear HB; have HB := n0_; clear n0_; replace hcz_0 := pw_cell_below hb hcz_0; replace hcz_3 := pw_cell_below hb hcz_3; replace hx3 := pw_cell_below hb hx3; replace hx0_0 := pw_cell_below hb hx0_0; replace hx0_1 := pw_cell_below hb hx0_1; replace hx0_2 := pw_cell_below hb hx0_2; replace hx0_3 := pw_cell_below hb hx0_3; clear hb) | (go_at_call 48; (refine (pages_forced.calls _ _ _ _ true _ A2.out).mono ?_); rintro e w6 ⟨rfl, hb⟩; have n0_ := Aside0.mk (below_step HB.out hb); clear HB; have HB := n0_; clear n0_; clear hb))
    repeat (go_quiet (fail); try go_wp2)
    go_ret2
    exact ⟨rfl, HB.out⟩
  replace c7 := Bool.eq_false_iff.mpr c7
  subst c7
  rw [if_neg (by decide)] at H
  by_cases c8 : a3 = 0
  · rw [if_pos c8] at H; exact absurd H (by simp)
  rw [if_neg c8] at H
  have c8b0 : (a3 == 0) = false := beq_eq_false_iff_ne.mpr c8
  simp only [Option.some.injEq, Prod.mk.injEq] at H
  obtain ⟨rfl, rfl⟩ := H
  go_enter Try.func39, Try.ntmps39
  go_wp2_with (first | (go_at_call 43; (refine (pages_column_page.calls g s0_0 s0_1 s0_2 s0_3 a1 a2 p _ HI0.out A1.out).mono ?_); rintro e w5 ⟨rfl, hb⟩; have n0_ := Aside0.mk (below_step HB.out hb); clear HB; have HB := n0_; clear n0_; replace hcz_0 := pw_cell_below hb hcz_0; replace hcz_3 := pw_cell_below hb hcz_3; replace hx3 := pw_cell_below hb hx3; replace hx0_0 := pw_cell_below hb hx0_0; replace hx0_1 := pw_cell_below hb hx0_1; replace hx0_2 := pw_cell_below hb hx0_2; replace hx0_3 := pw_cell_below hb hx0_3; clear hb) | (go_at_call 48; (refine (pages_forced.calls _ _ _ _ false _ A2.out).mono ?_); rintro e w6 ⟨rfl, hb⟩; have n0_ := Aside0.mk (below_step HB.out hb); clear HB; have HB := n0_; clear n0_; replace hcz_0 := pw_cell_below hb hcz_0; replace hcz_3 := pw_cell_below hb hcz_3; replace hx0_0 := pw_cell_below hb hx0_0; replace hx0_1 := pw_cell_below hb hx0_1; replace hx0_2 := pw_cell_below hb hx0_2; replace hx0_3 := pw_cell_below hb hx0_3; clear hb))
  repeat (go_quiet (fail); try go_wp2)
  go_ret2
  exact ⟨by first | rfl | (simp [*] <;> rfl), HB.out⟩

end Go.Proofs.Ytogjeababinnlaa.PPagesFlow
