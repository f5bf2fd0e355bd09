/- For PagesAll: the search that tries all ways (a method that calls itself, with a state), walked by hand. -/
import Derived.Test.YtogjeababinnlaaPPagesAllx7
import Derived.Test.YtogjeababinnlaaPPagesAllx5
import Derived.Test.YtogjeababinnlaaWFoot
namespace Go.Proofs.Ytogjeababinnlaa.PPagesAll
open Go.RowKit Go.Proofs.YtogjeababinnlaaW.PrintWords Go.Proofs.YtogjeababinnlaaW.PrintLast Go.Proofs.YtogjeababinnlaaW.PrintMore
attribute [local go_sem] max2_int min2_int max_two min_two max_three min_three max_four min_four
set_option linter.unusedVariables false
set_option linter.unusedSimpArgs false
/-- Ahead of g all is as it was; of the rest only g's own block may have turned. -/
structure Rl (g : Nat) (w w' : World) : Prop where
  b : Below g w w'
  k : KeepBut w w' g none
section
variable {g : Nat} {w w1 w2 : World}
theorem Rl.refl (g : Nat) (w : World) : Rl g w w := ⟨Below.refl _ _, KeepBut.refl _ _ _⟩
theorem Rl.step (h : Rl g w w1) (hg : g < w.heap.size) (hb : Below w1.heap.size w1 w2) : Rl g w w2 := ⟨h.b.trans (hb.mono (by have := h.k.1; omega)), h.k.trans (KeepBut.of_below hb g none) (.inl rfl)⟩
theorem Rl.set (h : Rl g w w1) (j : Nat) (u : Value) : Rl g w (w1.setCell ⟨g, j, none⟩ u) := ⟨h.b.setCell (Nat.le_refl _) u, h.k.set_ j u⟩
theorem Rl.trans (h : Rl g w w1) (k : Rl g w1 w2) : Rl g w w2 := ⟨h.b.trans k.b, h.k.trans k.k (.inl rfl)⟩
end
/-- The state: a list, a room, the steps that are left, the least cost, and whether there is one. -/
def St (w : World) (g : Nat) (A0 : Option Addr) (n0 c0 : Nat) (h : Int) (X : Int × Int × Bool) : Prop :=
  w.heap[g]? = some (.cells #[.slice A0 n0 c0, .int .i64 h, .int .i64 X.1, .int .i64 X.2.1, .bool X.2.2] 39 (0, 0))
section
variable {g n0 c0 : Nat} {w w1 : World} {A0 : Option Addr} {h : Int} {X : Int × Int × Bool}
theorem St.lt (hs : St w g A0 n0 c0 h X) : g < w.heap.size := blk_lt hs
theorem St.cells (hs : St w g A0 n0 c0 h X) : w.cell? ⟨g, 0, none⟩ = some (.slice A0 n0 c0) ∧ w.cell? ⟨g, 1, none⟩ = some (.int .i64 h) ∧ w.cell? ⟨g, 2, none⟩ = some (.int .i64 X.1) ∧ w.cell? ⟨g, 3, none⟩ = some (.int .i64 X.2.1) ∧ w.cell? ⟨g, 4, none⟩ = some (.bool X.2.2) :=
  ⟨(blk_cell hs 0).trans rfl, (blk_cell hs 1).trans rfl, (blk_cell hs 2).trans rfl, (blk_cell hs 3).trans rfl, (blk_cell hs 4).trans rfl⟩
theorem St.frozen (hs : St w g A0 n0 c0 h X) (j : Nat) : w.frozen? ⟨g, j, none⟩ = false := blk_frozen hs j
theorem St.below (hs : St w g A0 n0 c0 h X) (hb : Below w.heap.size w w1) : St w1 g A0 n0 c0 h X := (hb.block g hs.lt).trans hs
theorem St.set2 (hs : St w g A0 n0 c0 h X) (v : Int) : St (w.setCell ⟨g, 2, none⟩ (.int .i64 v)) g A0 n0 c0 h (v, X.2) := by
  unfold St at hs ⊢
  rw [heap_setCell_same w g 2 _ 39 _ hs]
  rfl
theorem St.set3 (hs : St w g A0 n0 c0 h X) (v : Int) : St (w.setCell ⟨g, 3, none⟩ (.int .i64 v)) g A0 n0 c0 h (X.1, v, X.2.2) := by
  unfold St at hs ⊢
  rw [heap_setCell_same w g 3 _ 39 _ hs]
  rfl
theorem St.set4 (hs : St w g A0 n0 c0 h X) (v : Bool) : St (w.setCell ⟨g, 4, none⟩ (.bool v)) g A0 n0 c0 h (X.1, X.2.1, v) := by
  unfold St at hs ⊢
  rw [heap_setCell_same w g 4 _ 39 _ hs]
  rfl
end
/-- Where the next page begins. -/
def lastOf (m : List Int) : Int := if 0 < m.length then rd m ((m.length : Int) - 1) else -1
/-- The search: at a way (none), or among the items that may be the next (some). -/
def tl (l : List S43) (h : Int) : Nat → Int × Int × Bool → List Int → Option Int → Option (Int × Int × Bool)
  | 0, _, _, _ => none
  | k + 1, X, m, none => if m.length ≤ 100000 ∧ l.length ≤ 100000 then (if X.1 = 0 then some X else
      if lastOf m = (l.length : Int) - 1 then (colophonref27_Cost.f k l m h).bind fun c => some (if c.2 = true ∧ (X.2.2 = false ∨ c.1 < X.2.1) then (wrap64 (X.1 - 1), c.1, true) else (wrap64 (X.1 - 1), X.2))
      else tl l h k (wrap64 (X.1 - 1), X.2) m (some (wrap64 (lastOf m + 1)))) else none
  | k + 1, X, m, some b => if b < (l.length : Int) then (if 0 ≤ b then (if (rd_T43 l b).f0 ≠ 3 ∨ (rd_T43 l b).f3 = 10000 then tl l h k X m (some (wrap64 (b + 1))) else
      (colophonref27_Height.f k l (lastOf m) b).bind fun t => (if t ≤ h then tl l h k X (m ++ [b]) none else some X).bind fun Y =>
        if (rd_T43 l b).f3 = -10000 then some Y else tl l h k Y m (some (wrap64 (b + 1)))) else none) else some X
set_option maxHeartbeats 8000000 in
set_option maxRecDepth 100000 in
theorem try_calls (l : List S43) (h : Int) (A0 : Option Addr) (c0 g : Nat) (hc0 : l.length ≤ c0) : ∀ (K k : Nat), k < K → ∀ (w : World) (X Y : Int × Int × Bool) (m : List Int) (A1 : Option Addr) (c1 : Nat) (hs : St w g A0 l.length c0 h X) (h0 : ∀ W', KeepBut w W' g none → Kd.C k43 W' A0 l.length l) (h1 : ∀ W', KeepBut w W' g none → Kd.C (Kd.int .i64) W' A1 m.length m) (hc1 : m.length ≤ c1) (ht : tl l h k X m none = some Y),
    Calls Try.prog 20 #[.pointer (some ⟨g, 0, none⟩), .slice A1 m.length c1] w fun e w' => e = .returned (.tuple #[]) ∧ St w' g A0 l.length c0 h Y ∧ Rl g w w' := by
  intro K
  induction K with
  | zero => intro k hk; omega
  | succ K ih =>
    intro k hk w X Y m A1 c1 hs h0 h1 hc1 ht
    have hu43 := Try.underlying43
    have HC0 := Aside0.mk hc0
    have HC1 := Aside0.mk hc1
    have HL0 := Aside0.mk h0
    have HL1 := Aside0.mk h1
    have HS := Aside0.mk hs
    have HR := Aside0.mk (Rl.refl g w)
    have HG := Aside0.mk hs.lt
    have IH := Aside0.mk ih
    have HK := Aside0.mk hk
    cases k with
    | zero => exact absurd ht (by simp [tl])
    | succ k =>
      rw [tl] at ht
      by_cases cn : m.length ≤ 100000 ∧ l.length ≤ 100000
      rotate_left
      · rw [if_neg cn] at ht
        exact absurd ht (by simp)
      rw [if_pos cn] at ht
      have HN := Aside0.mk cn
      obtain ⟨z0, z1, z2, z3, z4⟩ := hs.cells
      have f2 := hs.frozen 2
      clear cn hc0 hc1 h0 h1 hs ih hk
      by_cases cX : X.1 = 0
      · rw [if_pos cX] at ht
        obtain rfl := Option.some.inj ht
        have cXb : (X.1 == 0) = true := beq_iff_eq.mpr cX
        clear cX ht
        go_enter Try.func20, Try.ntmps20
        go_wp2
        ((try simp only [Exit.inBlock, Exit.then]); refine bodyPost_ret (results_none rfl _ _ _) rfl ?_)
        exact ⟨rfl, HS.out, HR.out⟩
      · rw [if_neg cX] at ht
        have cXb : (X.1 == 0) = false := beq_eq_false_iff_ne.mpr cX
        have HT := Aside0.mk ht
        clear cX ht
        go_enter Try.func20, Try.ntmps20
        go_upto_if 22 with (fail)
        obtain ⟨X1, hX1⟩ : ∃ X1 : Int × Int × Bool, X1 = (wrap64 (X.1 - 1), X.2) := ⟨_, rfl⟩
        go_cut [4] (fun v4 wc => v4 = .int .i64 (lastOf m) ∧ Aside0 (St wc g A0 l.length c0 h X1) ∧ Aside0 (Rl g w wc))
        case first =>
          have HS1 := Aside0.mk (HS.out.set2 (wrap64 (X.1 - 1)))
          have HR1 := Aside0.mk (HR.out.set 2 (.int .i64 (wrap64 (X.1 - 1))))
          rw [← hX1] at HS1
          have hm := HL1.out _ HR1.out.k
          clear z0 z1 z2 z3 z4 f2 hX1 HT HS HR cXb
          generalize w.setCell ⟨g, 2, none⟩ (.int .i64 (wrap64 (X.1 - 1))) = w1 at HS1 HR1 hm ⊢
          by_cases c1 : 0 < m.length
          · obtain ⟨ad, ead, hx⟩ := Kd.at_int hm ((m.length : Int) - 1) (by omega) (by omega)
            cases ead
            rw [show ((m.length : Int) - 1).toNat = m.length - 1 by omega] at hx
            have q1 : (0 ≤ (m.length : Int) - 1) = True := eq_true (by omega)
            have q2 : ((m.length : Int) - 1 < (m.length : Int)) = True := eq_true (by omega)
            have q3 : (1 ≤ (m.length : Int)) = True := eq_true (by omega)
            have q4 : (0 < m.length) = True := eq_true c1
            have q5 : ((m.length : Int) - 1).toNat = m.length - 1 := by omega
            have q6 : decide ((m.length : Int) > 0) = true := decide_eq_true (by omega)
            have q7 : decide ((0 : Int) < (m.length : Int)) = true := decide_eq_true (by omega)
            have hw1 : wrap64 ((m.length : Int) - 1) = (m.length : Int) - 1 := by have := HN.out; unfold wrap64; omega
            have hlo : lastOf m = rd m ((m.length : Int) - 1) := if_pos c1
            rw [decide_eq_true c1]
            clear c1 hm
            go_wp2
            go_meet
            case rel => exact ⟨by rw [hlo], HS1, HR1⟩
          · have q4 : (0 < m.length) = False := eq_false c1
            have q6 : decide ((m.length : Int) > 0) = false := decide_eq_false (by omega)
            have q7 : decide ((0 : Int) < (m.length : Int)) = false := decide_eq_false (by omega)
            have hlo : lastOf m = -1 := if_neg c1
            rw [decide_eq_false c1]
            clear c1 hm
            go_wp2
            go_meet
            case rel => exact ⟨by rw [hlo], HS1, HR1⟩
        case rest =>
          clear z0 z1 z2 z3 z4 f2 cXb HS HR
          obtain ⟨rfl, HS, HR⟩ := hcut
          have H : (if lastOf m = (l.length : Int) - 1 then (colophonref27_Cost.f k l m h).bind fun c => some (if c.2 = true ∧ (X1.2.2 = false ∨ c.1 < X1.2.1) then (X1.1, c.1, true) else X1)
              else tl l h k X1 m (some (wrap64 (lastOf m + 1)))) = some Y := by rw [hX1]; exact HT.out
          obtain ⟨z0, z1, z2, z3, z4⟩ := HS.out.cells
          have f3 := HS.out.frozen 3
          have f4 := HS.out.frozen 4
          have hw0 : IntKind.i64.wrap ((l.length : Int) - 1) = (l.length : Int) - 1 := by have := HN.out; rw [IntKind.wrap_i64]; omega
          have hw0' : wrap64 ((l.length : Int) - 1) = (l.length : Int) - 1 := by have := HN.out; unfold wrap64; omega
          clear hX1 HT
          obtain ⟨la, hla⟩ : ∃ a : Int, lastOf m = a := ⟨_, rfl⟩
          rw [hla] at H ⊢
          by_cases c2 : la = (l.length : Int) - 1
          · rw [if_pos c2] at H
            obtain ⟨⟨t, ok⟩, AC0, H⟩ := Option.bind_eq_some_iff.mp H
            have AC := Aside0.mk AC0
            have HH := Aside0.mk H
            have c2b : (la == (l.length : Int) - 1) = true := beq_iff_eq.mpr c2
            have hk0 := Aside0.mk (HL0.out _ HR.out.k)
            have hk1 := Aside0.mk (HL1.out _ HR.out.k)
            clear AC0 H c2
            go_wp2
            go_region_held3 (fun w' => w'.cell? ⟨g, 0, none⟩ = some (.slice A0 l.length c0) ∧ w'.cell? ⟨g, 1, none⟩ = some (.int .i64 h)) (simp [*, World.cell?_alloc_some]) ((go_at_call 27; (with_reducible refine (colophonref27_Cost.calls k _ _ l _ _ m h t ok _ ?_ HC0.out ?_ HC1.out AC.out).mono ?_); (first | exact hk0.out | exact Kd.C_drew hk0.out); (first | exact hk1.out | exact Kd.C_drew hk1.out); rintro e w5 ⟨rfl, hb⟩; have hb5 := below_step (below_drew1 (Below.refl _ _)) hb; have HS5 := Aside0.mk (HS.out.below hb5); have HR5 := Aside0.mk (HR.out.step HG.out hb5); have q0 := HS5.out.cells.1; have q1 := HS5.out.cells.2.1; clear hb hb5))
            have HY := Aside0.mk (Option.some.inj HH.out)
            clear HH AC z0 z1 z2 z3 z4 f3 f4 q0 q1 c2b hk0 hk1 hw0 hw0' HS HR
            obtain ⟨x1, x2, x3⟩ := X1
            obtain ⟨q0, q1, q2, q3, q4⟩ := HS5.out.cells
            have f3 := HS5.out.frozen 3
            have f4 := HS5.out.frozen 4
            clear q0 q1 q2
            cases ok with
            | false =>
              have e : (x1, x2, x3) = Y := by have := HY.out; rw [if_neg (fun x => absurd x.1 (by simp))] at this; exact this
              have HSY : Aside0 (St w5 g A0 l.length c0 h Y) := ⟨e ▸ HS5.out⟩
              clear e HY q3 q4 f3 f4 HS5
              go_wp2
              ((try simp only [Exit.inBlock, Exit.then]); refine bodyPost_ret (results_none rfl _ _ _) rfl ?_)
              exact ⟨rfl, HSY.out, HR5.out⟩
            | true =>
              cases x3 with
              | false =>
                have e : (x1, t, true) = Y := by have := HY.out; rw [if_pos ⟨rfl, .inl rfl⟩] at this; exact this
                have HSY : Aside0 (St ((w5.setCell ⟨g, 3, none⟩ (.int .i64 t)).setCell ⟨g, 4, none⟩ (.bool true)) g A0 l.length c0 h Y) := ⟨e ▸ (HS5.out.set3 t).set4 true⟩
                clear e HY HS5
                go_wp2
                ((try simp only [Exit.inBlock, Exit.then]); refine bodyPost_ret (results_none rfl _ _ _) rfl ?_)
                exact ⟨rfl, HSY.out, (HR5.out.set 3 _).set 4 _⟩
              | true =>
                by_cases ct : t < x2
                · have e : (x1, t, true) = Y := by have := HY.out; rw [if_pos ⟨rfl, .inr ct⟩] at this; exact this
                  have HSY : Aside0 (St ((w5.setCell ⟨g, 3, none⟩ (.int .i64 t)).setCell ⟨g, 4, none⟩ (.bool true)) g A0 l.length c0 h Y) := ⟨e ▸ (HS5.out.set3 t).set4 true⟩
                  have ctb : decide (t < x2) = true := decide_eq_true ct
                  clear e HY HS5 ct
                  go_wp2
                  ((try simp only [Exit.inBlock, Exit.then]); refine bodyPost_ret (results_none rfl _ _ _) rfl ?_)
                  exact ⟨rfl, HSY.out, (HR5.out.set 3 _).set 4 _⟩
                · have e : (x1, x2, true) = Y := by have := HY.out; rw [if_neg (fun x => x.2.elim (fun y => by simp at y) ct)] at this; exact this
                  have HSY : Aside0 (St w5 g A0 l.length c0 h Y) := ⟨e ▸ HS5.out⟩
                  have ctb : decide (t < x2) = false := decide_eq_false ct
                  clear e HY HS5 ct
                  go_wp2
                  ((try simp only [Exit.inBlock, Exit.then]); refine bodyPost_ret (results_none rfl _ _ _) rfl ?_)
                  exact ⟨rfl, HSY.out, HR5.out⟩
          · rw [if_neg c2] at H
            have c2b : (la == (l.length : Int) - 1) = false := beq_eq_false_iff_ne.mpr c2
            obtain ⟨b0, hb0⟩ : ∃ b, wrap64 (la + 1) = b := ⟨_, rfl⟩
            rw [hb0] at H
            have hb0w : IntKind.i64.wrap (la + 1) = b0 := (i64_w _).trans hb0
            have HH := Aside0.mk H
            have HLA := Aside0.mk hla
            clear H c2 hb0 hla z1 z2 z3 z4 f3 f4
            go_wp2
            clear c2b hb0w z0 hw0 hw0'
            go_loopg [7] k (fun kq v7 w' => ∃ (b : Int) (X2 : Int × Int × Bool), v7 = .int .i64 b ∧ Aside0 (kq ≤ k) ∧ Aside0 (tl l h kq X2 m (some b) = some Y) ∧ Aside0 (St w' g A0 l.length c0 h X2) ∧ Aside0 (Rl g w w'))
            case atStart => exact ⟨b0, X1, by first | rfl | simp, ⟨Nat.le_refl _⟩, HH, HS, HR⟩
            case round =>
              clear HS HR HH
              obtain ⟨b, X2, rfl, HQ, HH, HS, HR⟩ := hrel
              cases gk with
              | zero => exact absurd HH.out (by simp [tl])
              | succ q =>
                have H := HH.out
                rw [tl] at H
                clear HH
                obtain ⟨z0, z1, z2, z3, z4⟩ := HS.out.cells
                clear z2 z3 z4
                by_cases d1 : b < (l.length : Int)
                rotate_left
                · rw [if_neg d1] at H
                  have e : X2 = Y := Option.some.inj H
                  have HSZ : Aside0 (St wr g A0 l.length c0 h Y) := ⟨e ▸ HS.out⟩
                  have d1b : decide (b < (l.length : Int)) = false := decide_eq_false d1
                  clear e H HS d1
                  go_wp2
                  go_end0
                  exact ⟨rfl, HSZ.out, HR.out⟩
                rw [if_pos d1] at H
                by_cases d2 : 0 ≤ b
                rotate_left
                · rw [if_neg d2] at H
                  exact absurd H (by simp)
                rw [if_pos d2] at H
                have hk0 := HL0.out _ HR.out.k
                obtain ⟨ad, ead, hx0, hx1, hx2, hx3⟩ := at_T43 hk0 b d2 d1
                cases ead
                obtain ⟨kd, hkd⟩ : ∃ z, (rd_T43 l b).f0 = z := ⟨_, rfl⟩
                obtain ⟨cs, hcs⟩ : ∃ z, (rd_T43 l b).f3 = z := ⟨_, rfl⟩
                rw [hkd] at H hx0
                rw [hcs] at H hx3
                rw [HLA.out] at H
                have HCS := Aside0.mk hcs
                have HD1 := Aside0.mk d1
                have HD2 := Aside0.mk d2
                have d1b : decide (b < (l.length : Int)) = true := decide_eq_true d1
                have p1 : (b < (l.length : Int)) = True := eq_true d1
                have p2 : (0 ≤ b) = True := eq_true d2
                have p3 : decide (0 ≤ b) = true := decide_eq_true d2
                clear hkd hcs d1 d2 hx1 hx2 hk0
                by_cases e1 : kd ≠ 3 ∨ cs = 10000
                · have HZ : Aside0 (tl l h q X2 m (some (wrap64 (b + 1))) = some Y) := ⟨by rw [if_pos e1] at H; exact H⟩
                  clear H
                  by_cases e2 : kd = 3
                  · have e3 : cs = 10000 := e1.elim (fun x => absurd e2 x) (fun x => x)
                    have e2b : (kd != 3) = false := bne_eq_false_iff_eq.mpr e2
                    have e2c : (kd == 3) = true := beq_iff_eq.mpr e2
                    have e3b : (cs == 10000) = true := beq_iff_eq.mpr e3
                    clear e1 e2 e3
                    go_wp2
                    go_roundg q
                    case measure => exact Nat.lt_succ_self q
                    case rel => exact ⟨wrap64 (b + 1), X2, by first | rfl | simp [i64_w], ⟨by have := HQ.out; omega⟩, HZ, HS, HR⟩
                  · have e2b : (kd != 3) = true := bne_iff_ne.mpr e2
                    have e2c : (kd == 3) = false := beq_eq_false_iff_ne.mpr e2
                    clear e1 e2
                    go_wp2
                    go_roundg q
                    case measure => exact Nat.lt_succ_self q
                    case rel => exact ⟨wrap64 (b + 1), X2, by first | rfl | simp [i64_w], ⟨by have := HQ.out; omega⟩, HZ, HS, HR⟩
                rw [if_neg e1] at H
                have e2 : kd = 3 := Classical.byContradiction fun x => e1 (.inl x)
                have e3 : ¬ cs = 10000 := fun x => e1 (.inr x)
                have e2b : (kd != 3) = false := bne_eq_false_iff_eq.mpr e2
                have e2c : (kd == 3) = true := beq_iff_eq.mpr e2
                have e3b : (cs == 10000) = false := beq_eq_false_iff_ne.mpr e3
                clear e1 e2 e3
                obtain ⟨t, AC0, H⟩ := Option.bind_eq_some_iff.mp H
                obtain ⟨Y2, AY0, H⟩ := Option.bind_eq_some_iff.mp H
                have AC := Aside0.mk AC0
                have HH := Aside0.mk H
                have hk0 := Aside0.mk (HL0.out _ HR.out.k)
                clear AC0 H
                by_cases d5 : t ≤ h
                · obtain ⟨mb, hmb⟩ : ∃ z, z = m ++ [b] := ⟨_, rfl⟩
                  have AY := Aside0.mk (show tl l h q X2 mb none = some Y2 by rw [if_pos d5] at AY0; rw [hmb]; exact AY0)
                  have HMB := Aside0.mk hmb
                  clear hmb
                  have d5b : decide (t ≤ h) = true := decide_eq_true d5
                  clear d5 AY0
                  go_wp2
                  go_region_held3 (fun w' => w'.cell? ⟨g, 0, none⟩ = some (.slice (some ad) l.length c0) ∧ w'.cell? ⟨g, 1, none⟩ = some (.int .i64 h)) (simp [*, World.cell?_alloc_some]) ((go_at_call 28; (with_reducible refine (colophonref27_Height.calls q _ _ l la b t _ ?_ HC0.out AC.out).mono ?_); (first | exact hk0.out | exact Kd.C_drew hk0.out); rintro e w5 ⟨rfl, hb⟩; have hb5 := below_step (below_drew1 (Below.refl _ _)) hb; have HS5 := Aside0.mk (HS.out.below hb5); have HR5 := Aside0.mk (HR.out.step HG.out hb5); have q0 := HS5.out.cells.1; have q1 := HS5.out.cells.2.1; clear hb hb5))
                  clear z0 z1 q0 q1 hx0 hx3 d1b p1 p2 p3 e2b e2c e3b hk0 HS HR
                  have HM5 := Aside0.mk (HL1.out _ HR5.out.k)
                  have hml : (([] : List Int).length + m.length) * 8 ≤ 140737488355328 := by have := HN.out.1; simp only [List.length_nil]; omega
                  have hml2 : (([] ++ m).length + 1) * 8 ≤ 140737488355328 := by have := HN.out.1; rw [List.nil_append]; omega
                  have HML := Aside0.mk hml
                  have HML2 := Aside0.mk hml2
                  clear hml hml2
                  have HB := Aside0.mk (Below.refl w5.heap.size w5)
                  have p1 : (b < (l.length : Int)) = True := eq_true HD1.out
                  have p2 : (0 ≤ b) = True := eq_true HD2.out
                  have p3 : decide (0 ≤ b) = true := decide_eq_true HD2.out
                  by_cases e3 : cs = -10000
                  · have e : Y2 = Y := by have := HH.out; rw [if_pos e3] at this; exact Option.some.inj this
                    have e3b : (cs == -10000) = true := beq_iff_eq.mpr e3
                    have HE := Aside0.mk e
                    clear e HH e3
                    go_wp2_with (first | ((with_reducible refine gate_dst (N := 117) rfl ?_); refine Kd.R_lit (Kd.int .i64) (w0 := w5) w5.heap.size 3 ?hg (N := 117) ?hd (xs := ([] : List Int)) (inner := []) (ok := fun _ => True) (okp := fun _ => True) ?hr ?hp (fun _ hk => hk) trivial (by repeat (first | (with_reducible first | exact HB.out | apply below_alloc | apply pw_below_drewN | apply below_drew1) | exact HB.out)) (below_size (by repeat (first | (with_reducible first | exact HB.out | apply below_alloc | apply pw_below_drewN | apply below_drew1) | exact HB.out))) (by simp) ?_; (case hd => rfl); (case hg => rfl); (case hr => first | (go_simp; done) | (go_simp; rfl)); (case hp => exact (Reps.none _ _)); intro v117 w6 ho hb hg_ hnew_; clear hg_ hnew_; clear HB; have HO117 := Aside0.mk ho; have HB := Aside0.mk hb; clear hb ho) | ((with_reducible refine gate_builtin (b := .append) (xs := #[.tmp 117, .tmp 118]) rfl ?_); at_builtin; refine Kd.R_append_rows (Kd.int .i64) (w0 := w5) w5.heap.size rfl (.tmp 117) (.tmp 118) 26 3 (.int .i64 0) 8 rfl Try.underlying26 info3 rfl (by decide) (by omega) v117 [] m _ _ _ (fun _ => True) (fun _ => False) rfl rfl ?aO ?aR (fun _ _ h => h) (fun _ h => h.elim) ?aF ?aB ?aS ?aL ?_; (case aR => repeat (first | exact (Kd.C_below HM5.out HB.out) | (with_reducible refine Kd.C_alloc ?_ _) | (with_reducible refine Kd.C_drewN ?_ _) | (with_reducible refine Kd.C_drew ?_))); (case aB => exact (by repeat (first | (with_reducible first | exact HB.out | apply below_alloc | apply pw_below_drewN | apply below_drew1) | exact HB.out))); (case aF => exact (fun _ _ => trivial)); (case aO => exact (by (with_reducible repeat (first | apply Kd.R_alloc | apply Kd.R_drewN | apply Kd.R_drew)); exact HO117.out)); (case aS => exact (below_size (by repeat (first | (with_reducible first | exact HB.out | apply below_alloc | apply pw_below_drewN | apply below_drew1) | exact HB.out)))); (case aL => exact HML.out); intro v119 w7 ho hb hg hat; clear HB HO117; have HB := Aside0.mk hb; have HO119 := Aside0.mk ho; clear ho hb hg hat) | ((with_reducible refine gate_builtin (b := .append) (xs := #[.tmp 119, .tmp 121]) rfl ?_); at_builtin; refine Kd.R_append (Kd.int .i64) (w0 := w5) w5.heap.size rfl (.tmp 119) (.tmp 121) 26 3 (.int .i64 0) 8 rfl Try.underlying26 info3 rfl (by decide) (by omega) _ ([] ++ m) b [.int .i64 b] (fun _ => True) (fun _ => False) rfl rfl ?aP (fun _ hk => hk.elim) ?aF ?aO ?aB ?aS ?aL ?_; (case aP => exact rfl); (case aB => exact (by repeat (first | (with_reducible first | exact HB.out | apply below_alloc | apply pw_below_drewN | apply below_drew1) | exact HB.out))); (case aF => exact (fun k_ hk => trivial)); (case aO => exact (by (with_reducible repeat (first | apply Kd.R_alloc | apply Kd.R_drewN | apply Kd.R_drew)); exact HO119.out)); (case aS => exact (below_size (by repeat (first | (with_reducible first | exact HB.out | apply below_alloc | apply pw_below_drewN | apply below_drew1) | exact HB.out)))); (case aL => exact HML2.out); intro v122 w8 ho hb hg hat; clear HB HO119; have HB := Aside0.mk hb; have HO122 := Aside0.mk (show Kd.R (Kd.int .i64) 3 w8 w5.heap.size (fun _ => True) v122 mb from by rw [HMB.out]; simpa using ho); clear ho hb hg hat; obtain ⟨A8, c8, e8⟩ := Kd.R_slice HO122.out; subst e8) | (go_at_call 20; (with_reducible refine (IH.out q ?k1 _ X2 Y2 mb A8 c8 (HS5.out.below HB.out) ?k2 ?k3 ?k4 AY.out).mono ?_); (case k1 => (have h1_ := HK.out; have h2_ := HQ.out; omega)); (case k2 => exact (fun W' hk => HL0.out W' ((HR5.out.step HG.out HB.out).k.trans hk (.inl rfl)))); (case k3 => exact (Kd.C_foot_own (Kd.R_mono (Kd.R_bound HO122.out) (fun k_ hk_ => (Nat.ne_of_lt (Nat.lt_of_lt_of_le HS5.out.lt hk_.2.1)).symm)) (fun _ h => h))); (case k4 => exact (Kd.R_reads' HO122.out).2.1); rintro e w9 ⟨rfl, hs9, hr9⟩; have HSY := Aside0.mk hs9; have HRY := Aside0.mk ((HR5.out.step HG.out HB.out).trans hr9); clear hs9 hr9 HB HO122 HS5 HR5; obtain ⟨u0, _, _, _, _⟩ := HSY.out.cells; have hky := HL0.out _ HRY.out.k; obtain ⟨ady, eady, hy0, hy1, hy2, hy3⟩ := at_T43 hky b HD2.out HD1.out; obtain rfl : ad = ady := (by injection eady); rw [HCS.out] at hy3; clear hky eady hy0 hy1 hy2))
                    go_end0
                    exact ⟨rfl, HE.out ▸ HSY.out, HRY.out⟩
                  · have HZ : Aside0 (tl l h q Y2 m (some (wrap64 (b + 1))) = some Y) := ⟨by have := HH.out; rw [if_neg e3] at this; exact this⟩
                    have e3b : (cs == -10000) = false := beq_eq_false_iff_ne.mpr e3
                    clear HH e3
                    go_wp2_with (first | ((with_reducible refine gate_dst (N := 117) rfl ?_); refine Kd.R_lit (Kd.int .i64) (w0 := w5) w5.heap.size 3 ?hg (N := 117) ?hd (xs := ([] : List Int)) (inner := []) (ok := fun _ => True) (okp := fun _ => True) ?hr ?hp (fun _ hk => hk) trivial (by repeat (first | (with_reducible first | exact HB.out | apply below_alloc | apply pw_below_drewN | apply below_drew1) | exact HB.out)) (below_size (by repeat (first | (with_reducible first | exact HB.out | apply below_alloc | apply pw_below_drewN | apply below_drew1) | exact HB.out))) (by simp) ?_; (case hd => rfl); (case hg => rfl); (case hr => first | (go_simp; done) | (go_simp; rfl)); (case hp => exact (Reps.none _ _)); intro v117 w6 ho hb hg_ hnew_; clear hg_ hnew_; clear HB; have HO117 := Aside0.mk ho; have HB := Aside0.mk hb; clear hb ho) | ((with_reducible refine gate_builtin (b := .append) (xs := #[.tmp 117, .tmp 118]) rfl ?_); at_builtin; refine Kd.R_append_rows (Kd.int .i64) (w0 := w5) w5.heap.size rfl (.tmp 117) (.tmp 118) 26 3 (.int .i64 0) 8 rfl Try.underlying26 info3 rfl (by decide) (by omega) v117 [] m _ _ _ (fun _ => True) (fun _ => False) rfl rfl ?aO ?aR (fun _ _ h => h) (fun _ h => h.elim) ?aF ?aB ?aS ?aL ?_; (case aR => repeat (first | exact (Kd.C_below HM5.out HB.out) | (with_reducible refine Kd.C_alloc ?_ _) | (with_reducible refine Kd.C_drewN ?_ _) | (with_reducible refine Kd.C_drew ?_))); (case aB => exact (by repeat (first | (with_reducible first | exact HB.out | apply below_alloc | apply pw_below_drewN | apply below_drew1) | exact HB.out))); (case aF => exact (fun _ _ => trivial)); (case aO => exact (by (with_reducible repeat (first | apply Kd.R_alloc | apply Kd.R_drewN | apply Kd.R_drew)); exact HO117.out)); (case aS => exact (below_size (by repeat (first | (with_reducible first | exact HB.out | apply below_alloc | apply pw_below_drewN | apply below_drew1) | exact HB.out)))); (case aL => exact HML.out); intro v119 w7 ho hb hg hat; clear HB HO117; have HB := Aside0.mk hb; have HO119 := Aside0.mk ho; clear ho hb hg hat) | ((with_reducible refine gate_builtin (b := .append) (xs := #[.tmp 119, .tmp 121]) rfl ?_); at_builtin; refine Kd.R_append (Kd.int .i64) (w0 := w5) w5.heap.size rfl (.tmp 119) (.tmp 121) 26 3 (.int .i64 0) 8 rfl Try.underlying26 info3 rfl (by decide) (by omega) _ ([] ++ m) b [.int .i64 b] (fun _ => True) (fun _ => False) rfl rfl ?aP (fun _ hk => hk.elim) ?aF ?aO ?aB ?aS ?aL ?_; (case aP => exact rfl); (case aB => exact (by repeat (first | (with_reducible first | exact HB.out | apply below_alloc | apply pw_below_drewN | apply below_drew1) | exact HB.out))); (case aF => exact (fun k_ hk => trivial)); (case aO => exact (by (with_reducible repeat (first | apply Kd.R_alloc | apply Kd.R_drewN | apply Kd.R_drew)); exact HO119.out)); (case aS => exact (below_size (by repeat (first | (with_reducible first | exact HB.out | apply below_alloc | apply pw_below_drewN | apply below_drew1) | exact HB.out)))); (case aL => exact HML2.out); intro v122 w8 ho hb hg hat; clear HB HO119; have HB := Aside0.mk hb; have HO122 := Aside0.mk (show Kd.R (Kd.int .i64) 3 w8 w5.heap.size (fun _ => True) v122 mb from by rw [HMB.out]; simpa using ho); clear ho hb hg hat; obtain ⟨A8, c8, e8⟩ := Kd.R_slice HO122.out; subst e8) | (go_at_call 20; (with_reducible refine (IH.out q ?k1 _ X2 Y2 mb A8 c8 (HS5.out.below HB.out) ?k2 ?k3 ?k4 AY.out).mono ?_); (case k1 => (have h1_ := HK.out; have h2_ := HQ.out; omega)); (case k2 => exact (fun W' hk => HL0.out W' ((HR5.out.step HG.out HB.out).k.trans hk (.inl rfl)))); (case k3 => exact (Kd.C_foot_own (Kd.R_mono (Kd.R_bound HO122.out) (fun k_ hk_ => (Nat.ne_of_lt (Nat.lt_of_lt_of_le HS5.out.lt hk_.2.1)).symm)) (fun _ h => h))); (case k4 => exact (Kd.R_reads' HO122.out).2.1); rintro e w9 ⟨rfl, hs9, hr9⟩; have HSY := Aside0.mk hs9; have HRY := Aside0.mk ((HR5.out.step HG.out HB.out).trans hr9); clear hs9 hr9 HB HO122 HS5 HR5; obtain ⟨u0, _, _, _, _⟩ := HSY.out.cells; have hky := HL0.out _ HRY.out.k; obtain ⟨ady, eady, hy0, hy1, hy2, hy3⟩ := at_T43 hky b HD2.out HD1.out; obtain rfl : ad = ady := (by injection eady); rw [HCS.out] at hy3; clear hky eady hy0 hy1 hy2))
                    go_roundg q
                    case measure => exact Nat.lt_succ_self q
                    case rel => exact ⟨wrap64 (b + 1), Y2, by first | rfl | simp [i64_w], ⟨by have := HQ.out; omega⟩, HZ, HSY, HRY⟩
                · have AY : Aside0 (X2 = Y2) := ⟨by rw [if_neg d5] at AY0; exact Option.some.inj AY0⟩
                  have d5b : decide (t ≤ h) = false := decide_eq_false d5
                  clear d5 AY0
                  go_wp2
                  go_region_held3 (fun w' => w'.cell? ⟨g, 0, none⟩ = some (.slice (some ad) l.length c0) ∧ w'.cell? ⟨g, 1, none⟩ = some (.int .i64 h)) (simp [*, World.cell?_alloc_some]) ((go_at_call 28; (with_reducible refine (colophonref27_Height.calls q _ _ l la b t _ ?_ HC0.out AC.out).mono ?_); (first | exact hk0.out | exact Kd.C_drew hk0.out); rintro e w5 ⟨rfl, hb⟩; have hb5 := below_step (below_drew1 (Below.refl _ _)) hb; have HS5 := Aside0.mk (HS.out.below hb5); have HR5 := Aside0.mk (HR.out.step HG.out hb5); have q0 := HS5.out.cells.1; have q1 := HS5.out.cells.2.1; clear hb hb5))
                  have HSY : Aside0 (St w5 g (some ad) l.length c0 h Y2) := ⟨AY.out ▸ HS5.out⟩
                  have HRY := HR5
                  clear z0 z1 q0 q1 hx0 hx3 d1b p1 p2 p3 e2b e2c e3b hk0 HS HR HS5 HR5 AY
                  obtain ⟨u0, _, _, _, _⟩ := HSY.out.cells
                  have hky := HL0.out _ HRY.out.k
                  obtain ⟨ady, eady, hy0, hy1, hy2, hy3⟩ := at_T43 hky b HD2.out HD1.out
                  obtain rfl : ad = ady := by injection eady
                  rw [HCS.out] at hy3
                  clear hky eady hy0 hy1 hy2
                  have p1 : (b < (l.length : Int)) = True := eq_true HD1.out
                  have p2 : (0 ≤ b) = True := eq_true HD2.out
                  have p3 : decide (0 ≤ b) = true := decide_eq_true HD2.out
                  by_cases e3 : cs = -10000
                  · have e : Y2 = Y := by have := HH.out; rw [if_pos e3] at this; exact Option.some.inj this
                    have HSZ : Aside0 (St w5 g (some ad) l.length c0 h Y) := ⟨e ▸ HSY.out⟩
                    have e3b : (cs == -10000) = true := beq_iff_eq.mpr e3
                    clear e HH HSY e3
                    go_wp2
                    go_end0
                    exact ⟨rfl, HSZ.out, HRY.out⟩
                  · have HZ : Aside0 (tl l h q Y2 m (some (wrap64 (b + 1))) = some Y) := ⟨by have := HH.out; rw [if_neg e3] at this; exact this⟩
                    have e3b : (cs == -10000) = false := beq_eq_false_iff_ne.mpr e3
                    clear HH e3
                    go_wp2
                    go_roundg q
                    case measure => exact Nat.lt_succ_self q
                    case rel => exact ⟨wrap64 (b + 1), Y2, by first | rfl | simp [i64_w], ⟨by have := HQ.out; omega⟩, HZ, HSY, HRY⟩
end Go.Proofs.Ytogjeababinnlaa.PPagesAll
