-- Written by a copy of the print that this session has turned (wip/tools/patchprint.py): arrays as records.
import Derived.Test.YtogjeababinnlaaPPagesFlowx0
import Derived.Test.YtogjeababinnlaaPPagesFlowx5
namespace Go.Proofs.Ytogjeababinnlaa.PPagesFlow
open Go.RowKit Go.Proofs.YtogjeababinnlaaW.PrintWords Go.Proofs.YtogjeababinnlaaW.PrintLast Go.Proofs.YtogjeababinnlaaW.PrintMore
attribute [local go_sem] max2_int min2_int max_two min_two max_three min_three max_four min_four   -- for this text's walks alone
set_option linter.unusedVariables false
set_option linter.unusedSimpArgs false

/-! ### pages_Flow: function 32 -/
section Flow
open Go.Shelf
/-! ### pages_Flow: function 32 (a loop over an iterator, 49, 52) -/
def pages_Flow.kept (b : S49) : Bool := b.f6 || decide (0 < b.f0.length)
/-- An element, with the cells that it was read from. -/
abbrev pages_Flow.El (w0 : World) := { y : S49 × List Value // k49.K w0 y.1 y.2 ∧ y.1.f0.length ≤ 4000 }
def pages_Flow.encs {w0 : World} (y : pages_Flow.El w0) : Array Value := #[.agg y.1.2.toArray]
theorem pages_Flow.mem49 {l : List S49} {j : Nat} (h : j < l.length) : rd_T49 l (j : Int) ∈ l := by
  show l.getD j z49 ∈ l
  rw [List.getD_eq_getElem?_getD, List.getElem?_eq_getElem h]
  exact List.getElem_mem h
theorem pages_Flow.drop49 {l : List S49} {j : Nat} (h : j < l.length) : l.take (j + 1) = l.take j ++ [rd_T49 l (j : Int)] := by
  rw [List.take_add_one, List.getElem?_eq_getElem h]
  congr 1
  show [l[j]] = [l.getD j z49]
  simp [List.getD_eq_getElem?_getD, h]
set_option maxHeartbeats 8000000 in
set_option maxRecDepth 100000 in
theorem pages_Flow.seen1 (n : Nat) (w0 : World) (A : Option Addr) (c : Nat) (l : List S49) (hl : Kd.C k49 w0 A l.length l) (hbig : ∀ b ∈ l, b.f0.length ≤ 4000) (lr Bs : Nat) (J Jx : List (pages_Flow.El w0) → World → Prop) (W : World) (hJ : Go.AbidesFrom W.heap.size J)
    (hY : ∀ pre x W1, J pre W1 → pre.length < l.length → Go.YieldAt Fence.wide (n - 1) Try.prog lr (pages_Flow.encs x) W1 fun e W' => (e = .returned (.bool true) ∧ J (pre ++ [x]) W' ∧ Below w0.heap.size W1 W') ∨ (e = .returned (.bool false) ∧ Jx (pre ++ [x]) W'))
    (hb : Below w0.heap.size w0 W) (hs : W.heap[Bs]? = some (.cells #[.slice A l.length c] 56 (0, 0))) (h0 : J [] W) :
    CallsIn Fence.wide n Try.prog 52 #[.func (.yield lr) #[] #[], .pointer (some ⟨Bs, 0, none⟩)] W fun e W' => (∃ v, e = .returned v) ∧ ((∃ xs, (xs.map (fun y => y.1.1) = l.filter pages_Flow.kept) ∧ J xs W') ∨ (∃ pre, True ∧ Jx pre W')) := by
  have HL := Aside0.mk hl
  have HJ := Aside0.mk hJ
  have HY := Aside0.mk hY
  have HB := Aside0.mk hb
  have hmx := Kd.C_max hl
  have h1 : W.cell? ⟨Bs, 0, none⟩ = some (.slice A l.length c) := (blk_cell hs 0).trans rfl
  clear hl hJ hY hb hs
  refine callsIn_of_wp Try.func52 rfl trivial ?_ rfl
  simp only [Try.ntmps52, List.size_toArray, List.length_cons, List.length_nil, Nat.reduceAdd, Nat.reduceSub, Array.replicate_succ, Array.replicate_zero, List.push_toArray, List.append_toArray, List.nil_append, List.cons_append]
  gi_wp2
  gi_loopw [7] (fun i wr => ∃ (k : Nat) (pre : List (pages_Flow.El w0)), k ≤ l.length ∧ i = .int .i64 (k : Int) ∧ Aside0 (pre.map (fun y => y.1.1) = (l.take k).filter pages_Flow.kept) ∧ Aside0 (pre.length ≤ k) ∧ Aside0 (J pre wr) ∧ Aside0 (Below w0.heap.size w0 wr) ∧ Aside0 (W.heap.size ≤ wr.heap.size))
    (fun i _ => l.length - (intOf i).toNat)
  case atStart => exact ⟨0, [], Nat.zero_le _, rfl, ⟨rfl⟩, ⟨Nat.le_refl _⟩, ⟨h0⟩, HB, ⟨Nat.le_refl _⟩⟩
  case round =>
    clear HB h0 h1
    obtain ⟨k, pre, hk, rfl, HP, HN, HJJ, HB, HS⟩ := hrel
    by_cases hlt : k < l.length
    · have kc1 : ((k : Int) < (l.length : Int)) = True := eq_true (by omega)
      have kc2 : (k < l.length) = True := eq_true hlt
      have kc3 : ((0 : Int) ≤ (k : Int)) = True := eq_true (by omega)
      have kc6 : IntKind.i64.wrap ((k : Int) + 1) = (k : Int) + 1 := by rw [IntKind.wrap_i64]; omega
      obtain ⟨ad, A0, c0, A1, c1, A2, c2, rfl, y0, y1, y2, y3, y4, y5, y6, l0, g0, l1, g1, l2, g2⟩ := at_T49 HL.out (k : Int) (by omega) (by omega)
      simp only [Int.toNat_natCast] at y0 y1 y2 y3 y4 y5 y6
      replace y0 := (HB.out.cell (World.block_lt_of_cell? w0 _ y0)).trans y0
      replace y1 := (HB.out.cell (World.block_lt_of_cell? w0 _ y1)).trans y1
      replace y2 := (HB.out.cell (World.block_lt_of_cell? w0 _ y2)).trans y2
      replace y3 := (HB.out.cell (World.block_lt_of_cell? w0 _ y3)).trans y3
      replace y4 := (HB.out.cell (World.block_lt_of_cell? w0 _ y4)).trans y4
      replace y5 := (HB.out.cell (World.block_lt_of_cell? w0 _ y5)).trans y5
      replace y6 := (HB.out.cell (World.block_lt_of_cell? w0 _ y6)).trans y6
      obtain ⟨xe, hxe⟩ : ∃ xe : pages_Flow.El w0, xe.1 = (rd_T49 l (k : Int), [.slice A0 (rd_T49 l (k : Int)).f0.length c0, .slice A1 (rd_T49 l (k : Int)).f1.length c1, .slice A2 (rd_T49 l (k : Int)).f2.length c2, .int .i64 (rd_T49 l (k : Int)).f3, .int .i64 (rd_T49 l (k : Int)).f4, .bool (rd_T49 l (k : Int)).f5, .bool (rd_T49 l (k : Int)).f6]) := ⟨⟨(rd_T49 l (k : Int), [.slice A0 (rd_T49 l (k : Int)).f0.length c0, .slice A1 (rd_T49 l (k : Int)).f1.length c1, .slice A2 (rd_T49 l (k : Int)).f2.length c2, .int .i64 (rd_T49 l (k : Int)).f3, .int .i64 (rd_T49 l (k : Int)).f4, .bool (rd_T49 l (k : Int)).f5, .bool (rd_T49 l (k : Int)).f6]), ⟨k49_mk w0 _ l0 g0 l1 g1 l2 g2, hbig _ (pages_Flow.mem49 hlt)⟩⟩, rfl⟩
      cases h6 : (rd_T49 l (k : Int)).f6 with
      | true =>
        rw [h6] at y6 hxe
        have ef : (l.take (k + 1)).filter pages_Flow.kept = (l.take k).filter pages_Flow.kept ++ [rd_T49 l (k : Int)] := by rw [pages_Flow.drop49 hlt, List.filter_append, List.filter_cons_of_pos (by unfold pages_Flow.kept; simp [h6])]; rfl
        obtain ⟨fn, tmps, assign, body, hy, hR⟩ := HY.out pre xe (wr.alloc (.cells #[.slice A0 (rd_T49 l (k : Int)).f0.length c0, .slice A1 (rd_T49 l (k : Int)).f1.length c1, .slice A2 (rd_T49 l (k : Int)).f2.length c2, .int .i64 (rd_T49 l (k : Int)).f3, .int .i64 (rd_T49 l (k : Int)).f4, .bool (rd_T49 l (k : Int)).f5, .bool true] 49)) (HJ.out _ _ _ none HJJ.out (World.grownBy_alloc wr _ none) (by simp)) (by have := HN.out; omega)
        have he : pages_Flow.encs xe = #[.agg #[.slice A0 (rd_T49 l (k : Int)).f0.length c0, .slice A1 (rd_T49 l (k : Int)).f1.length c1, .slice A2 (rd_T49 l (k : Int)).f2.length c2, .int .i64 (rd_T49 l (k : Int)).f3, .int .i64 (rd_T49 l (k : Int)).f4, .bool (rd_T49 l (k : Int)).f5, .bool true]] := by unfold pages_Flow.encs; rw [hxe]
        rw [he] at hy
        gi_wp2
        refine ⟨fun hd => by simp [Fence.wide] at hd, ?_⟩
        refine hR.mono ?_
        rintro e W3 (⟨rfl, hJ3, hk3⟩ | ⟨rfl, hJx3⟩)
        · gi_wp2
          go_roundw
          case rel => exact ⟨k + 1, pre ++ [xe], by omega, by simp, ⟨by rw [List.map_append, HP.out, ef, List.map_cons, List.map_nil, hxe]⟩, ⟨by have := HN.out; simp; omega⟩, ⟨hJ3⟩, ⟨(HB.out.alloc HB.out.size _).trans hk3⟩, ⟨by have := HS.out; have := hk3.size; simp at this; omega⟩⟩
          case measure => simp [intOf]; omega
        · gi_wp2
          refine bodyPost_ret (results_none rfl _ _ _) rfl ?_
          exact ⟨⟨_, rfl⟩, .inr ⟨_, trivial, hJx3⟩⟩
      | false =>
        rw [h6] at y6 hxe
        by_cases h0 : 0 < (rd_T49 l (k : Int)).f0.length
        · have kc4 : ((0 : Int) < ((rd_T49 l (k : Int)).f0.length : Int)) = True := eq_true (by omega)
          have kc5 : (0 < (rd_T49 l (k : Int)).f0.length) = True := eq_true h0
          have ef : (l.take (k + 1)).filter pages_Flow.kept = (l.take k).filter pages_Flow.kept ++ [rd_T49 l (k : Int)] := by rw [pages_Flow.drop49 hlt, List.filter_append, List.filter_cons_of_pos (by unfold pages_Flow.kept; simp [h6, h0])]; rfl
          obtain ⟨fn, tmps, assign, body, hy, hR⟩ := HY.out pre xe (wr.alloc (.cells #[.slice A0 (rd_T49 l (k : Int)).f0.length c0, .slice A1 (rd_T49 l (k : Int)).f1.length c1, .slice A2 (rd_T49 l (k : Int)).f2.length c2, .int .i64 (rd_T49 l (k : Int)).f3, .int .i64 (rd_T49 l (k : Int)).f4, .bool (rd_T49 l (k : Int)).f5, .bool false] 49)) (HJ.out _ _ _ none HJJ.out (World.grownBy_alloc wr _ none) (by simp)) (by have := HN.out; omega)
          have he : pages_Flow.encs xe = #[.agg #[.slice A0 (rd_T49 l (k : Int)).f0.length c0, .slice A1 (rd_T49 l (k : Int)).f1.length c1, .slice A2 (rd_T49 l (k : Int)).f2.length c2, .int .i64 (rd_T49 l (k : Int)).f3, .int .i64 (rd_T49 l (k : Int)).f4, .bool (rd_T49 l (k : Int)).f5, .bool false]] := by unfold pages_Flow.encs; rw [hxe]
          rw [he] at hy
          gi_wp2
          refine ⟨fun hd => by simp [Fence.wide] at hd, ?_⟩
          refine hR.mono ?_
          rintro e W3 (⟨rfl, hJ3, hk3⟩ | ⟨rfl, hJx3⟩)
          · gi_wp2
            go_roundw
            case rel => exact ⟨k + 1, pre ++ [xe], by omega, by simp, ⟨by rw [List.map_append, HP.out, ef, List.map_cons, List.map_nil, hxe]⟩, ⟨by have := HN.out; simp; omega⟩, ⟨hJ3⟩, ⟨(HB.out.alloc HB.out.size _).trans hk3⟩, ⟨by have := HS.out; have := hk3.size; simp at this; omega⟩⟩
            case measure => simp [intOf]; omega
          · gi_wp2
            refine bodyPost_ret (results_none rfl _ _ _) rfl ?_
            exact ⟨⟨_, rfl⟩, .inr ⟨_, trivial, hJx3⟩⟩
        · have kc4 : ((0 : Int) < ((rd_T49 l (k : Int)).f0.length : Int)) = False := eq_false (by omega)
          have kc5 : (0 < (rd_T49 l (k : Int)).f0.length) = False := eq_false h0
          have ef : (l.take (k + 1)).filter pages_Flow.kept = (l.take k).filter pages_Flow.kept := by
            rw [pages_Flow.drop49 hlt, List.filter_append, List.filter_cons_of_neg (by unfold pages_Flow.kept; rw [h6, Bool.false_or, decide_eq_true_eq]; exact h0)]
            simp
          gi_wp2
          refine ⟨fun _ _ => trivial, ?_⟩
          gi_wp2
          go_roundw
          case rel => exact ⟨k + 1, pre, by omega, by simp, ⟨by rw [HP.out, ef]⟩, ⟨by have := HN.out; omega⟩, ⟨HJ.out _ _ _ none HJJ.out (World.grownBy_alloc wr _ none) (by simp)⟩, ⟨HB.out.alloc HB.out.size _⟩, ⟨by have := HS.out; simp; omega⟩⟩
          case measure => (try simp [intOf]); (try rw [kc6]); omega
    · obtain rfl : k = l.length := by omega
      have kc1 : ((l.length : Int) < (l.length : Int)) = False := eq_false (by omega)
      have kc2 : (l.length < l.length) = False := eq_false (by omega)
      gi_wp2
      go_end0
      exact ⟨⟨_, rfl⟩, .inl ⟨pre, by rw [HP.out, List.take_length], HJJ.out⟩⟩
theorem pages_Flow.seen0 (A : Option Addr) (m c : Nat) (w : World) : Calls Try.prog 49 #[.slice A m c] w fun e w' => e = .returned (.func (.func 52) #[] #[.pointer (some ⟨w.heap.size, 0, none⟩)]) ∧ w' = w.alloc (.cells #[.slice A m c] 56) := by
  have hmf : ∀ (fn : Fn) (first cap : Array Value) (w : World), (Instr.makeFunc fn first cap).run Try.prog w = .ok (.func fn first cap) w := fun _ _ _ _ => rfl
  go_enter Try.func49, Try.ntmps49
  go_wp2
  go_ret
  exact ⟨rfl, rfl⟩
theorem pages_Flow.stops (n : Nat) (w0 : World) (A : Option Addr) (c : Nat) (l : List S49) (hl : Kd.C k49 w0 A l.length l) (hbig : ∀ b ∈ l, b.f0.length ≤ 4000) (Bs : Nat) (w : World) (hb : Below w0.heap.size w0 w) (hs : w.heap[Bs]? = some (.cells #[.slice A l.length c] 56 (0, 0))) :
    SeqStopsK Fence.wide n Try.prog 52 #[.pointer (some ⟨Bs, 0, none⟩)] (pages_Flow.encs (w0 := w0)) (Below w0.heap.size) (fun ys => ys.map (fun y => y.1.1) = l.filter pages_Flow.kept) (fun _ => True) l.length w := fun lr J Jx W hW hJ _ hY h0 =>
  pages_Flow.seen1 n w0 A c l hl hbig lr Bs J Jx W hJ hY (hb.trans (hW.mono hb.size)) ((hW.block _ (blk_lt hs)).trans hs) h0
/-! #### what it tells -/
def pages_Flow.atT (l : List Int) (i : Int) : Int := if i < (l.length : Int) then rd l i else 0
theorem pages_Flow.at_eq (l : List Int) (i : Int) (h : 0 ≤ i) : pages_at.f l i = some (pages_Flow.atT l i) := by
  unfold pages_at.f pages_Flow.atT
  split <;> simp [h]
def pages_Flow.itm (b : S49) : List Int → Nat → List S43
  | [], _ => []
  | h :: r, i => (if i = 0 then [] else [⟨3, 0, 0, pages_Flow.atT b.f2 ((i : Int) - 1)⟩]) ++ (⟨1, h, pages_Flow.atT b.f1 (i : Int), 0⟩ :: pages_Flow.itm b r (i + 1))
def pages_Flow.rnd (keep : Int) (a b : S49) : List S43 :=
  if b.f6 = true then [⟨3, 0, 0, -10000⟩] else
    (if a.f6 = true then [] else [⟨3, 0, 0, if a.f5 = true then keep else 0⟩]) ++ (⟨2, if a.f6 = true then b.f3 else mx b.f3 a.f4, 0, 0⟩ :: pages_Flow.itm b b.f0 0)
def pages_Flow.zb : S49 := ⟨[], [], [], 0, 0, false, true⟩
def pages_Flow.tl (keep : Int) (pre : List S49) : List S43 × S49 := pre.foldl (fun s b => (s.1 ++ pages_Flow.rnd keep s.2 b, b)) ([], pages_Flow.zb)
theorem pages_Flow.tl_snoc (keep : Int) (pre : List S49) (b : S49) : pages_Flow.tl keep (pre ++ [b]) = ((pages_Flow.tl keep pre).1 ++ pages_Flow.rnd keep (pages_Flow.tl keep pre).2 b, b) := by
  unfold pages_Flow.tl
  rw [List.foldl_append]
  rfl
theorem pages_Flow.itm_len (b : S49) : ∀ (l : List Int) (i : Nat), (pages_Flow.itm b l i).length ≤ 2 * l.length
  | [], _ => Nat.le_refl _
  | h :: r, i => by
    have := pages_Flow.itm_len b r (i + 1)
    rw [pages_Flow.itm]
    split <;> simp <;> omega
theorem pages_Flow.rnd_len (keep : Int) (a b : S49) (h : b.f0.length ≤ 4000) : (pages_Flow.rnd keep a b).length ≤ 8002 := by
  have := pages_Flow.itm_len b b.f0 0
  unfold pages_Flow.rnd
  split
  · simp
  · split <;> simp <;> omega
def pages_Flow.f (k : Nat) (l : List S49) (keep : Int) : Option (List S43) :=
  if l.length ≤ 4000 ∧ l.all (fun b => decide (b.f0.length ≤ 4000)) = true then some ((pages_Flow.tl keep (l.filter pages_Flow.kept)).1 ++ [⟨3, 0, 0, -10000⟩]) else none
theorem pages_Flow.mono : ∀ a0 a1 k, LeO (pages_Flow.f k a0 a1) (pages_Flow.f (k + 1) a0 a1) := fun _ _ _ => LeO.refl _
/-- In a round: the row that is told (v, o), the block ahead, the block of the round. -/
structure pages_Flow.Bd (w0 W0 W : World) (keep : Int) (Bx : Nat) (cx ca : List Value) (v : Value) (ts : List S43) : Prop where
  k0 : W.heap[w0.heap.size]? = some (.cells #[.int .i64 keep] 3 (0, 0))
  o : W.heap[w0.heap.size + 1]? = some (.cells #[v] 22 (0, 0))
  a : W.heap[w0.heap.size + 2]? = some (.cells ca.toArray 49 (0, 0))
  x : W.heap[Bx]? = some (.cells cx.toArray 49 (0, 0))
  gx : w0.heap.size + 4 ≤ Bx
  r : Kd.R k43 43 W w0.heap.size (fun _ => True) v ts
  b : Below w0.heap.size w0 W
  kf : Go.KeepsOthers W0 W
  bw : Below w0.heap.size W0 W
section
variable {w0 W0 W W1 : World} {keep : Int} {Bx : Nat} {cx ca : List Value} {v v1 : Value} {ts t1 : List S43}
theorem pages_Flow.Bd.below (h : pages_Flow.Bd w0 W0 W keep Bx cx ca v ts) (hb : Below W.heap.size W W1) (hk : Go.KeepsOthers W W1) : pages_Flow.Bd w0 W0 W1 keep Bx cx ca v ts :=
  ⟨(hb.block _ (blk_lt h.k0)).trans h.k0, (hb.block _ (blk_lt h.o)).trans h.o, (hb.block _ (blk_lt h.a)).trans h.a, (hb.block _ (blk_lt h.x)).trans h.x, h.gx, Kd.R_below h.r hb, below_step h.b hb, h.kf.trans hk, h.bw.trans (hb.mono h.b.size)⟩
theorem pages_Flow.Bd.alloc (h : pages_Flow.Bd w0 W0 W keep Bx cx ca v ts) (ob : Obj) : pages_Flow.Bd w0 W0 (W.alloc ob) keep Bx cx ca v ts := h.below (below_alloc (Below.refl _ _) ob) (Go.KeepsOthers.alloc _ _)
theorem pages_Flow.Bd.drew (h : pages_Flow.Bd w0 W0 W keep Bx cx ca v ts) : pages_Flow.Bd w0 W0 W.drew keep Bx cx ca v ts := h.below (below_drew (Below.refl _ _)) (Go.KeepsOthers.drew _)
theorem pages_Flow.Bd.drawn (h : pages_Flow.Bd w0 W0 W keep Bx cx ca v ts) (hd : Drawn0 W W1) : pages_Flow.Bd w0 W0 W1 keep Bx cx ca v ts := by
  obtain ⟨n, rfl⟩ := hd.out
  exact h.below (pw_below_drewN (Below.refl _ _) n) ⟨Nat.le_refl _, fun _ _ hk _ => hk⟩
/-- An element is told. -/
theorem pages_Flow.Bd.push (h : pages_Flow.Bd w0 W0 W keep Bx cx ca v ts) (hg : W.grownBy W1 v.ownBlock) (hb : Below w0.heap.size w0 W1) (hr : Kd.R k43 43 W1 w0.heap.size (fun _ => True) v1 t1) : pages_Flow.Bd w0 W0 (W1.setCell ⟨w0.heap.size + 1, 0, none⟩ v1) keep Bx cx ca v1 t1 := by
  have q0 : W1.heap[w0.heap.size]? = _ := blk_grown h.k0 hg (Kd.R_ne h.r h.k0 (by decide))
  have q1 : W1.heap[w0.heap.size + 1]? = _ := blk_grown h.o hg (Kd.R_ne h.r h.o (by decide))
  have q2 : W1.heap[w0.heap.size + 2]? = _ := blk_grown h.a hg (Kd.R_ne h.r h.a (by decide))
  have q3 : W1.heap[Bx]? = _ := blk_grown h.x hg (Kd.R_ne h.r h.x (by decide))
  have hx := h.gx
  refine ⟨blk_far q0 (by simp) _, blk_put q1 0 v1 rfl, blk_far q2 (by simp) _, blk_far q3 (by simp; omega) _, h.gx, Kd.R_set hr q1 (by decide) 0 _, below_set hb (by omega), ?_, ?_⟩
  · refine (h.kf.trans (Go.KeepsOthers.of_grownBy hg (fun j ob hj ho => ?_))).trans (Go.KeepsOthers.setCell _ _ _)
    obtain ⟨cells, hc⟩ := Kd.R_typed h.r j hj
    rw [hc] at ho
    injection ho with ho
    subst ho
    rfl
  · exact (h.bw.grown hg h.b.size (fun k hk => Kd.R_base h.r k hk)).setCell (p := ⟨w0.heap.size + 1, 0, none⟩) (by simp) _
/-- A cell of the block ahead. -/
theorem pages_Flow.Bd.ahead (h : pages_Flow.Bd w0 W0 W keep Bx cx ca v ts) (j : Nat) (u : Value) : pages_Flow.Bd w0 W0 (W.setCell ⟨w0.heap.size + 2, j, none⟩ u) keep Bx cx (ca.set j u) v ts := by
  have hx := h.gx
  refine ⟨blk_far h.k0 (by simp) _, blk_far h.o (by simp) _, blk_put h.a j u (by simp), blk_far h.x (by simp; omega) _, h.gx, Kd.R_set h.r h.a (by decide) j _, below_set h.b (by omega), h.kf.trans (Go.KeepsOthers.setCell _ _ _), h.bw.setCell (p := ⟨w0.heap.size + 2, j, none⟩) (by simp) _⟩
end
/-- Between two rounds. -/
structure pages_Flow.Iv (w0 : World) (keep : Int) (pre : List (pages_Flow.El w0)) (W : World) : Prop where
  k0 : W.heap[w0.heap.size]? = some (.cells #[.int .i64 keep] 3 (0, 0))
  o : ∃ v, W.heap[w0.heap.size + 1]? = some (.cells #[v] 22 (0, 0)) ∧ Kd.R k43 43 W w0.heap.size (fun _ => True) v (pages_Flow.tl keep (pre.map fun y => y.1.1)).1
  a : ∃ ca : List Value, W.heap[w0.heap.size + 2]? = some (.cells ca.toArray 49 (0, 0)) ∧ k49.K w0 (pages_Flow.tl keep (pre.map fun y => y.1.1)).2 ca
  b : Below w0.heap.size w0 W
  n : (pages_Flow.tl keep (pre.map fun y => y.1.1)).1.length ≤ 8002 * pre.length
  s : w0.heap.size + 4 ≤ W.heap.size
theorem pages_Flow.Iv.own (w0 : World) (keep : Int) (B : Nat) (hB : w0.heap.size + 4 ≤ B) : Go.OwnFrom B (pages_Flow.Iv w0 keep) := by
  intro pre W W' row hs hg hr
  have hne : ∀ (g : Nat) (cs : Array Value) (t : TypeId), W.heap[g]? = some (.cells cs t (0, 0)) → some g ≠ row := by
    intro g cs t hgg he
    obtain ⟨_, o, ho, hc⟩ := hr g he.symm
    rw [hgg] at ho
    injection ho with ho
    subst ho
    exact absurd hc (by simp [Obj.isCells])
  obtain ⟨k0, ⟨v, o1, o2⟩, ⟨ca, a1, a2⟩, b, n, s⟩ := hs
  refine ⟨blk_grown k0 hg (hne _ _ _ k0), ⟨v, blk_grown o1 hg (hne _ _ _ o1), ?_⟩, ⟨ca, blk_grown a1 hg (hne _ _ _ a1), a2⟩, b.grown hg b.size (fun k hk => by have := (hr k hk).1; omega), n, Nat.le_trans s hg.size⟩
  refine Kd.R_mono (Kd.R_move (Kd.R_bound o2) (fun k hk => ?_)) (fun _ _ => trivial)
  obtain ⟨_, _, hlt, q, _, cells, hc⟩ := hk
  exact hg.block k hlt (hne _ _ _ hc)
/-- The round's own block. -/
def pages_Flow.Ax (w0 : World) (T : pages_Flow.El w0 → Nat → Array Value) (x : pages_Flow.El w0) (a' : Act) (W : World) : Prop := ∃ Bx, w0.heap.size + 4 ≤ Bx ∧ W.heap[Bx]? = some (.cells x.1.2.toArray 49 (0, 0)) ∧ a' = { tmps := T x Bx, defers := [] }
theorem pages_Flow.Ax.own (w0 : World) (T : pages_Flow.El w0 → Nat → Array Value) (x : pages_Flow.El w0) (a' : Act) (B : Nat) : Go.OwnFrom B (fun (_ : Unit) W => pages_Flow.Ax w0 T x a' W) := by
  intro _ W W' row hs hg hr
  obtain ⟨Bx, h1, h2, h3⟩ := hs
  refine ⟨Bx, h1, blk_grown h2 hg (fun he => ?_), h3⟩
  obtain ⟨_, o, ho, hc⟩ := hr Bx he.symm
  rw [h2] at ho
  injection ho with ho
  subst ho
  exact absurd hc (by simp [Obj.isCells])
theorem pages_Flow.Iv.below {w0 W W1 : World} {keep : Int} {pre : List (pages_Flow.El w0)} (h : pages_Flow.Iv w0 keep pre W) (hb : Below W.heap.size W W1) : pages_Flow.Iv w0 keep pre W1 := by
  obtain ⟨k0, ⟨v, o1, o2⟩, ⟨ca, a1, a2⟩, b, n, s⟩ := h
  exact ⟨(hb.block _ (blk_lt k0)).trans k0, ⟨v, (hb.block _ (blk_lt o1)).trans o1, Kd.R_below o2 hb⟩, ⟨ca, (hb.block _ (blk_lt a1)).trans a1, a2⟩, below_step b hb, n, Nat.le_trans s hb.size⟩
theorem pages_Flow.putR {W : World} {base D : Nat} {v : Value} {ts : List S43} {ob : Obj} {l : Option (List Deferred)} (h : Kd.R k43 43 W base (fun _ => True) v ts) (hD : W.heap[D]? = some (.deferred l)) : Kd.R k43 43 (W.putObj D ob) base (fun _ => True) v ts := by
  refine Kd.R_mono (Kd.R_move (Kd.R_bound h) (fun k hk => ?_)) (fun _ _ => trivial)
  obtain ⟨_, _, _, q, _, cells, hc⟩ := hk
  refine World.putObj_heap_other (fun e => ?_)
  subst e
  rw [hD] at hc
  injection hc with hc
  cases hc
/-- The round is over. -/
theorem pages_Flow.Bd.iv {w0 W0 W : World} {keep : Int} {Bx : Nat} {cx ca : List Value} {v : Value} {ts : List S43} {x : pages_Flow.El w0} {pre : List (pages_Flow.El w0)} (h : pages_Flow.Bd w0 W0 W keep Bx cx ca v ts) (hc : ca = x.1.2)
    (ht : ts = (pages_Flow.tl keep (pre.map fun y => y.1.1)).1 ++ pages_Flow.rnd keep (pages_Flow.tl keep (pre.map fun y => y.1.1)).2 x.1.1) (hn : (pages_Flow.tl keep (pre.map fun y => y.1.1)).1.length ≤ 8002 * pre.length) (hs : w0.heap.size + 4 ≤ W0.heap.size) : pages_Flow.Iv w0 keep (pre ++ [x]) W := by
  have e : pages_Flow.tl keep ((pre ++ [x]).map fun y => y.1.1) = ((pages_Flow.tl keep (pre.map fun y => y.1.1)).1 ++ pages_Flow.rnd keep (pages_Flow.tl keep (pre.map fun y => y.1.1)).2 x.1.1, x.1.1) := by
    rw [List.map_append, List.map_cons, List.map_nil, pages_Flow.tl_snoc]
  subst hc
  refine ⟨h.k0, ⟨v, h.o, ?_⟩, ⟨x.1.2, h.a, ?_⟩, h.b, ?_, Nat.le_trans hs h.bw.size⟩
  · rw [e]
    dsimp only
    rw [← ht]
    exact h.r
  · rw [e]
    exact x.2.1
  · rw [e]
    have := pages_Flow.rnd_len keep (pages_Flow.tl keep (pre.map fun y => y.1.1)).2 x.1.1 x.2.2
    simp
    omega
theorem pages_Flow.dropI {l : List Int} {j : Nat} (h : j < l.length) : l.drop j = rd l (j : Int) :: l.drop (j + 1) := by
  rw [List.drop_eq_getElem_cons h]
  congr 1
  show _ = l.getD j 0
  simp [List.getD_eq_getElem?_getD, h]
attribute [local go_sem] Oper.semAt_some
set_option maxHeartbeats 8000000 in
set_option maxRecDepth 100000 in
theorem pages_Flow.calls (k : Nat) (A0 : Option Addr) (c0 : Nat) (l0 : List S49) (a1 : Int) (r : List S43) (w : World) (hr0 : Kd.C k49 w A0 l0.length l0) (hc0 : l0.length ≤ c0) (h : pages_Flow.f k l0 a1 = some r) :
    Calls Try.prog 32 #[.slice A0 l0.length c0, .int .i64 a1] w fun e w' => ∃ v0_ : Value, e = .returned v0_ ∧ Kd.R k43 43 w' w.heap.size (fun _ => True) v0_ r ∧ Below w.heap.size w w' := by
  unfold pages_Flow.f at h
  have HL := Aside0.mk hr0
  clear hr0
  by_cases hc : l0.length ≤ 4000 ∧ l0.all (fun b => decide (b.f0.length ≤ 4000)) = true
  · rw [if_pos hc] at h
    obtain rfl := Option.some.inj h
    have HC := Aside0.mk hc
    clear h hc
    refine (callsIn_wide (n := 3)).1 ?_
    refine callsIn_of_wp_marks Try.func32 rfl trivial ?_ rfl
    simp only [Try.ntmps32, List.size_toArray, List.length_cons, List.length_nil, Nat.reduceAdd, Nat.reduceSub, Array.replicate_succ, Array.replicate_zero, List.push_toArray, List.append_toArray, List.nil_append, List.cons_append]
    gi_wp2
    refine ⟨trivial, ?_⟩
    refine (callsIn_wide.2 (pages_Flow.seen0 A0 l0.length c0 _)).mono ?_
    rintro e w' ⟨rfl, rfl⟩
    gi_wp2
    rw [show w.heap.size + 1 + 1 + 1 = w.heap.size + 3 by omega, show w.heap.size + 1 + 1 = w.heap.size + 2 by omega]
    have z0 : ((((w.alloc (.cells #[.int .i64 a1] 3)).alloc (.cells #[.slice none 0 0] 22)).alloc (.cells #[.slice none 0 0, .slice none 0 0, .slice none 0 0, .int .i64 0, .int .i64 0, .bool false, .bool true] 49)).alloc (.cells #[.slice A0 l0.length c0] 56)).heap[w.heap.size]? = some (.cells #[.int .i64 a1] 3 (0, 0)) := blk_alloc (blk_alloc (blk_alloc (heap_alloc_new w _) _) _) _
    have z1 : ((((w.alloc (.cells #[.int .i64 a1] 3)).alloc (.cells #[.slice none 0 0] 22)).alloc (.cells #[.slice none 0 0, .slice none 0 0, .slice none 0 0, .int .i64 0, .int .i64 0, .bool false, .bool true] 49)).alloc (.cells #[.slice A0 l0.length c0] 56)).heap[w.heap.size + 1]? = some (.cells #[.slice none 0 0] 22 (0, 0)) := by
      have h1 := heap_alloc_new (w.alloc (.cells #[.int .i64 a1] 3)) (.cells #[.slice none 0 0] 22)
      rw [show (w.alloc (.cells #[.int .i64 a1] 3)).heap.size = w.heap.size + 1 by simp] at h1
      exact blk_alloc (blk_alloc h1 _) _
    have z2 : ((((w.alloc (.cells #[.int .i64 a1] 3)).alloc (.cells #[.slice none 0 0] 22)).alloc (.cells #[.slice none 0 0, .slice none 0 0, .slice none 0 0, .int .i64 0, .int .i64 0, .bool false, .bool true] 49)).alloc (.cells #[.slice A0 l0.length c0] 56)).heap[w.heap.size + 2]? = some (.cells #[.slice none 0 0, .slice none 0 0, .slice none 0 0, .int .i64 0, .int .i64 0, .bool false, .bool true] 49 (0, 0)) := by
      have h1 := heap_alloc_new ((w.alloc (.cells #[.int .i64 a1] 3)).alloc (.cells #[.slice none 0 0] 22)) (.cells #[.slice none 0 0, .slice none 0 0, .slice none 0 0, .int .i64 0, .int .i64 0, .bool false, .bool true] 49)
      rw [show ((w.alloc (.cells #[.int .i64 a1] 3)).alloc (.cells #[.slice none 0 0] 22)).heap.size = w.heap.size + 2 by simp] at h1
      exact blk_alloc h1 _
    have z3 : ((((w.alloc (.cells #[.int .i64 a1] 3)).alloc (.cells #[.slice none 0 0] 22)).alloc (.cells #[.slice none 0 0, .slice none 0 0, .slice none 0 0, .int .i64 0, .int .i64 0, .bool false, .bool true] 49)).alloc (.cells #[.slice A0 l0.length c0] 56)).heap[w.heap.size + 3]? = some (.cells #[.slice A0 l0.length c0] 56 (0, 0)) := by
      have h1 := heap_alloc_new (((w.alloc (.cells #[.int .i64 a1] 3)).alloc (.cells #[.slice none 0 0] 22)).alloc (.cells #[.slice none 0 0, .slice none 0 0, .slice none 0 0, .int .i64 0, .int .i64 0, .bool false, .bool true] 49)) (.cells #[.slice A0 l0.length c0] 56)
      rw [show (((w.alloc (.cells #[.int .i64 a1] 3)).alloc (.cells #[.slice none 0 0] 22)).alloc (.cells #[.slice none 0 0, .slice none 0 0, .slice none 0 0, .int .i64 0, .int .i64 0, .bool false, .bool true] 49)).heap.size = w.heap.size + 3 by simp] at h1
      exact h1
    have zb : Below w.heap.size w ((((w.alloc (.cells #[.int .i64 a1] 3)).alloc (.cells #[.slice none 0 0] 22)).alloc (.cells #[.slice none 0 0, .slice none 0 0, .slice none 0 0, .int .i64 0, .int .i64 0, .bool false, .bool true] 49)).alloc (.cells #[.slice A0 l0.length c0] 56)) := below_alloc (below_alloc (below_alloc (below_alloc (Below.refl _ _) _) _) _) _
    have zs : ((((w.alloc (.cells #[.int .i64 a1] 3)).alloc (.cells #[.slice none 0 0] 22)).alloc (.cells #[.slice none 0 0, .slice none 0 0, .slice none 0 0, .int .i64 0, .int .i64 0, .bool false, .bool true] 49)).alloc (.cells #[.slice A0 l0.length c0] 56)).heap.size = w.heap.size + 4 := by simp
    obtain ⟨w1, e1⟩ : ∃ z, ((((w.alloc (.cells #[.int .i64 a1] 3)).alloc (.cells #[.slice none 0 0] 22)).alloc (.cells #[.slice none 0 0, .slice none 0 0, .slice none 0 0, .int .i64 0, .int .i64 0, .bool false, .bool true] 49)).alloc (.cells #[.slice A0 l0.length c0] 56)) = z := ⟨_, rfl⟩
    rw [e1] at z0 z1 z2 z3 zb zs
    rw [e1]
    clear e1
    refine wpIn_rangeFunc_ownH (α := pages_Flow.El w) rfl (by decide) (gf := 52) (lb := #[.pointer (some ⟨w.heap.size + 3, 0, none⟩)]) rfl trivial (enters_of Try.func52 (by kernel_rfl) rfl)
      (pages_Flow.stops 2 w A0 c0 l0 HL.out (fun b hb => of_decide_eq_true (List.all_eq_true.mp HC.out.2 b hb)) (w.heap.size + 3) w1 zb z3) belowK_t (belowK_b (by omega)) (Below.refl _ _) (fun _ => rfl)
      (pages_Flow.Iv w a1) (fun _ _ _ => False) (pages_Flow.Iv.own w a1 _ (by omega)) (fun _ _ _ _ _ hs _ _ => hs)
      ⟨z0, ⟨_, z1, Kd.R_nil _ _ _ _ _⟩, ⟨[.slice none 0 0, .slice none 0 0, .slice none 0 0, .int .i64 0, .int .i64 0, .bool false, .bool true], z2, k49_mk w pages_Flow.zb (Nat.le_refl _) (Kd.C_nil _ _) (Nat.le_refl _) (Kd.C_nil _ _) (Nat.le_refl _) (Kd.C_nil _ _)⟩, zb, Nat.le_refl _, by omega⟩
      (pages_Flow.Ax w (fun x Bx => List.toArray ((.slice A0 l0.length c0 : Value) :: .int .i64 a1 :: undef :: .pointer (some ⟨w.heap.size, 0, none⟩) :: .slice none 0 0 :: .pointer (some ⟨w.heap.size + 1, 0, none⟩) :: .pointer (some ⟨w.heap.size + 2, 0, none⟩) :: .pointer (some ⟨Bx, 0, none⟩) :: undef :: undef :: undef :: undef :: .agg #[.slice none 0 0, .slice none 0 0, .slice none 0 0, .int .i64 0, .int .i64 0, .bool false, .bool true] :: .slice A0 l0.length c0 :: .func (.func 52) #[] #[.pointer (some ⟨w.heap.size + 3, 0, none⟩)] :: .agg x.1.2.toArray :: undef :: undef :: undef :: undef :: undef :: undef :: undef :: undef :: undef :: undef :: undef :: undef :: undef :: undef :: undef :: undef :: undef :: undef :: undef :: undef :: undef :: undef :: undef :: undef :: undef :: undef :: undef :: undef :: undef :: undef :: undef :: undef :: undef :: undef :: undef :: undef :: undef :: undef :: undef :: undef :: undef :: undef :: undef :: undef :: undef :: undef :: undef :: undef :: undef :: undef :: undef :: undef :: undef :: undef :: undef :: undef :: undef :: undef :: undef :: undef :: undef :: undef :: undef :: []))) (fun x a' => pages_Flow.Ax.own _ _ _ _ _) ?assign ?body ?done ?stop
    case assign =>
      rintro lr pre ⟨⟨s, cs⟩, hs, hbg⟩ W K hI hK
      dsimp only at hs hbg
      obtain ⟨B0, e0, B1, e1, B2, e2, rfl, l0_, g0_, l1_, g1_, l2_, g2_⟩ := k49_open hs
      have hI' := hI.below (below_alloc (Below.refl _ _) (.cells #[.slice B0 s.f0.length e0, .slice B1 s.f1.length e1, .slice B2 s.f2.length e2, .int .i64 s.f3, .int .i64 s.f4, .bool s.f5, .bool s.f6] 49))
      have hz : w.heap.size + 4 ≤ W.heap.size := hI.s
      unfold pages_Flow.encs
      dsimp only
      gi_wp2
      exact hK _ _ ((KeepsOthers.alloc _ _).from _) ((Below.refl _ _).alloc hI.b.size _) hI' ⟨W.heap.size, hz, heap_alloc_new W _, rfl⟩
    case body =>
      rintro lr pre xe a' W hlr hrec hI ⟨Bx, hBx, hX, rfl⟩ hN
      obtain ⟨⟨s, cs⟩, hxe⟩ : ∃ p, xe.1 = p := ⟨_, rfl⟩
      have hs := xe.2.1
      have hbg := xe.2.2
      dsimp only
      rw [hxe] at hs hbg hX ⊢
      dsimp only at hs hbg hX ⊢
      obtain ⟨B0, e0, B1, e1, B2, e2, rfl, l0_, g0_, l1_, g1_, l2_, g2_⟩ := k49_open hs
      obtain ⟨k0, ⟨v, o1, o2⟩, ⟨ca, ha1, ha2⟩, hb, hn, hsz⟩ := hI
      obtain ⟨⟨ts, ah⟩, htl⟩ : ∃ z, pages_Flow.tl a1 (pre.map fun y => y.1.1) = z := ⟨_, rfl⟩
      rw [htl] at o2 ha2 hn
      dsimp only at o2 ha2 hn
      have HTL := Aside0.mk htl
      obtain ⟨D0, d0, D1, d1, D2, d2, rfl, m0_, n0_, m1_, n1_, m2_, n2_⟩ := k49_open ha2
      obtain ⟨Av, cv, rfl⟩ := Kd.R_slice o2
      have HB : Aside0 (pages_Flow.Bd w W W a1 Bx [.slice B0 s.f0.length e0, .slice B1 s.f1.length e1, .slice B2 s.f2.length e2, .int .i64 s.f3, .int .i64 s.f4, .bool s.f5, .bool s.f6] [.slice D0 ah.f0.length d0, .slice D1 ah.f1.length d1, .slice D2 ah.f2.length d2, .int .i64 ah.f3, .int .i64 ah.f4, .bool ah.f5, .bool ah.f6] (.slice Av ts.length cv) ts) := ⟨⟨k0, o1, ha1, hX, hBx, o2, hb, KeepsOthers.refl _, Below.refl _ _⟩⟩
      have HLts : Aside0 (ts.length ≤ 8002 * 4000) := ⟨by
        have h1 := hN
        have h2 := HC.out.1
        omega⟩
      have HN := Aside0.mk hn
      have HSZ := Aside0.mk hsz
      have HG0 := Aside0.mk (And.intro l0_ g0_)
      have HG1 := Aside0.mk (And.intro l1_ g1_)
      have HG2 := Aside0.mk (And.intro l2_ g2_)
      have HS := Aside0.mk hs
      have HBG := Aside0.mk hbg
      have nx1 : Bx ≠ w.heap.size + 1 := by omega
      have nx2 : Bx ≠ w.heap.size + 2 := by omega
      have nx0 : Bx ≠ w.heap.size := by omega
      have ny1 : w.heap.size + 1 ≠ Bx := by omega
      have ny2 : w.heap.size + 2 ≠ Bx := by omega
      clear htl o2 ha2 hn hb k0 o1 ha1 hX m0_ n0_ m1_ n1_ m2_ n2_ l0_ g0_ l1_ g1_ l2_ g2_ hs hbg hsz hrec hlr
      have hx0 : W.cell? ⟨Bx, 0, none⟩ = some (.slice B0 s.f0.length e0) := (blk_cell HB.out.x 0).trans rfl
      have hx1 : W.cell? ⟨Bx, 1, none⟩ = some (.slice B1 s.f1.length e1) := (blk_cell HB.out.x 1).trans rfl
      have hx2 : W.cell? ⟨Bx, 2, none⟩ = some (.slice B2 s.f2.length e2) := (blk_cell HB.out.x 2).trans rfl
      have hx3 : W.cell? ⟨Bx, 3, none⟩ = some (.int .i64 s.f3) := (blk_cell HB.out.x 3).trans rfl
      have hx4 : W.cell? ⟨Bx, 4, none⟩ = some (.int .i64 s.f4) := (blk_cell HB.out.x 4).trans rfl
      have hx5 : W.cell? ⟨Bx, 5, none⟩ = some (.bool s.f5) := (blk_cell HB.out.x 5).trans rfl
      have hx6 : W.cell? ⟨Bx, 6, none⟩ = some (.bool s.f6) := (blk_cell HB.out.x 6).trans rfl
      have ha0 : W.cell? ⟨w.heap.size + 2, 0, none⟩ = some (.slice D0 ah.f0.length d0) := (blk_cell HB.out.a 0).trans rfl
      have ha1 : W.cell? ⟨w.heap.size + 2, 1, none⟩ = some (.slice D1 ah.f1.length d1) := (blk_cell HB.out.a 1).trans rfl
      have ha2 : W.cell? ⟨w.heap.size + 2, 2, none⟩ = some (.slice D2 ah.f2.length d2) := (blk_cell HB.out.a 2).trans rfl
      have ha3 : W.cell? ⟨w.heap.size + 2, 3, none⟩ = some (.int .i64 ah.f3) := (blk_cell HB.out.a 3).trans rfl
      have ha4 : W.cell? ⟨w.heap.size + 2, 4, none⟩ = some (.int .i64 ah.f4) := (blk_cell HB.out.a 4).trans rfl
      have ha5 : W.cell? ⟨w.heap.size + 2, 5, none⟩ = some (.bool ah.f5) := (blk_cell HB.out.a 5).trans rfl
      have ha6 : W.cell? ⟨w.heap.size + 2, 6, none⟩ = some (.bool ah.f6) := (blk_cell HB.out.a 6).trans rfl
      have fa0 := blk_frozen HB.out.a 0
      have fa1 := blk_frozen HB.out.a 1
      have fa2 := blk_frozen HB.out.a 2
      have fa3 := blk_frozen HB.out.a 3
      have fa4 := blk_frozen HB.out.a 4
      have fa5 := blk_frozen HB.out.a 5
      have fa6 := blk_frozen HB.out.a 6
      have hk0 : W.cell? ⟨w.heap.size, 0, none⟩ = some (.int .i64 a1) := (blk_cell HB.out.k0 0).trans rfl
      have ho1 : W.cell? ⟨w.heap.size + 1, 0, none⟩ = some (.slice Av ts.length cv) := (blk_cell HB.out.o 0).trans rfl
      have fo1 := blk_frozen HB.out.o 0
      cases h6 : s.f6 with
      | true =>
        rw [h6] at hx6
        gi_wp2_with (gi_at_builtin; refine Rnd.R_append_in k43 (w0 := w) w.heap.size rfl (.tmp 18) (.tmp 20) 22 43 (.agg #[(.int .i64 0), (.int .i64 0), (.int .i64 0), (.int .i64 0)]) 32 rfl Try.underlying22 info43 rfl (by decide) (by omega) (.slice Av ts.length cv) ts (⟨3, 0, 0, -10000⟩ : S43) [.int .i64 (3), .int .i64 (0), .int .i64 (0), .int .i64 (-10000)] (fun _ => True) (fun _ => False) rfl (by first | rfl | (simp; rfl)) (k43_mkM _ _ _ _) (fun _ hk => hk.elim) (fun _ _ => trivial) HB.out.r HB.out.b HB.out.b.size ?hl ?_; (case hl => have := HLts.out; omega); intro v4 u9 ho hb hg hat; obtain ⟨t1, ht1⟩ : ∃ z, ts ++ [(⟨3, 0, 0, -10000⟩ : S43)] = z := ⟨_, rfl⟩; rw [ht1] at ho; obtain ⟨A_q, c_q, rfl⟩ := Kd.R_slice ho; have HB1 := Aside0.mk (HB.out.push hg hb ho); have HLt1 : Aside0 (t1.length ≤ 8002 * 4000 + 1) := ⟨by rw [← ht1, List.length_append, List.length_singleton]; have := HLts.out; omega⟩; have HEt1 := Aside0.mk ht1; clear hx0 ha0 fa0 hx1 ha1 fa1 hx2 ha2 fa2 hx3 ha3 fa3 hx4 ha4 fa4 hx5 ha5 fa5 hx6 ha6 fa6 hk0 ho1 fo1; have hx0 : u9.cell? ⟨Bx, 0, none⟩ = some (.slice B0 s.f0.length e0) := (blk_cell (blk_grown HB.out.x hg (Kd.R_ne HB.out.r HB.out.x (by decide))) 0).trans rfl; have hx1 : u9.cell? ⟨Bx, 1, none⟩ = some (.slice B1 s.f1.length e1) := (blk_cell (blk_grown HB.out.x hg (Kd.R_ne HB.out.r HB.out.x (by decide))) 1).trans rfl; have hx2 : u9.cell? ⟨Bx, 2, none⟩ = some (.slice B2 s.f2.length e2) := (blk_cell (blk_grown HB.out.x hg (Kd.R_ne HB.out.r HB.out.x (by decide))) 2).trans rfl; have hx3 : u9.cell? ⟨Bx, 3, none⟩ = some (.int .i64 s.f3) := (blk_cell (blk_grown HB.out.x hg (Kd.R_ne HB.out.r HB.out.x (by decide))) 3).trans rfl; have hx4 : u9.cell? ⟨Bx, 4, none⟩ = some (.int .i64 s.f4) := (blk_cell (blk_grown HB.out.x hg (Kd.R_ne HB.out.r HB.out.x (by decide))) 4).trans rfl; have hx5 : u9.cell? ⟨Bx, 5, none⟩ = some (.bool s.f5) := (blk_cell (blk_grown HB.out.x hg (Kd.R_ne HB.out.r HB.out.x (by decide))) 5).trans rfl; have hx6 : u9.cell? ⟨Bx, 6, none⟩ = some (.bool s.f6) := (blk_cell (blk_grown HB.out.x hg (Kd.R_ne HB.out.r HB.out.x (by decide))) 6).trans rfl; have ha0 : u9.cell? ⟨w.heap.size + 2, 0, none⟩ = some (.slice D0 ah.f0.length d0) := (blk_cell (blk_grown HB.out.a hg (Kd.R_ne HB.out.r HB.out.a (by decide))) 0).trans rfl; have ha1 : u9.cell? ⟨w.heap.size + 2, 1, none⟩ = some (.slice D1 ah.f1.length d1) := (blk_cell (blk_grown HB.out.a hg (Kd.R_ne HB.out.r HB.out.a (by decide))) 1).trans rfl; have ha2 : u9.cell? ⟨w.heap.size + 2, 2, none⟩ = some (.slice D2 ah.f2.length d2) := (blk_cell (blk_grown HB.out.a hg (Kd.R_ne HB.out.r HB.out.a (by decide))) 2).trans rfl; have ha3 : u9.cell? ⟨w.heap.size + 2, 3, none⟩ = some (.int .i64 ah.f3) := (blk_cell (blk_grown HB.out.a hg (Kd.R_ne HB.out.r HB.out.a (by decide))) 3).trans rfl; have ha4 : u9.cell? ⟨w.heap.size + 2, 4, none⟩ = some (.int .i64 ah.f4) := (blk_cell (blk_grown HB.out.a hg (Kd.R_ne HB.out.r HB.out.a (by decide))) 4).trans rfl; have ha5 : u9.cell? ⟨w.heap.size + 2, 5, none⟩ = some (.bool ah.f5) := (blk_cell (blk_grown HB.out.a hg (Kd.R_ne HB.out.r HB.out.a (by decide))) 5).trans rfl; have ha6 : u9.cell? ⟨w.heap.size + 2, 6, none⟩ = some (.bool ah.f6) := (blk_cell (blk_grown HB.out.a hg (Kd.R_ne HB.out.r HB.out.a (by decide))) 6).trans rfl; have fa0 := blk_frozen (blk_grown HB.out.a hg (Kd.R_ne HB.out.r HB.out.a (by decide))) 0; have fa1 := blk_frozen (blk_grown HB.out.a hg (Kd.R_ne HB.out.r HB.out.a (by decide))) 1; have fa2 := blk_frozen (blk_grown HB.out.a hg (Kd.R_ne HB.out.r HB.out.a (by decide))) 2; have fa3 := blk_frozen (blk_grown HB.out.a hg (Kd.R_ne HB.out.r HB.out.a (by decide))) 3; have fa4 := blk_frozen (blk_grown HB.out.a hg (Kd.R_ne HB.out.r HB.out.a (by decide))) 4; have fa5 := blk_frozen (blk_grown HB.out.a hg (Kd.R_ne HB.out.r HB.out.a (by decide))) 5; have fa6 := blk_frozen (blk_grown HB.out.a hg (Kd.R_ne HB.out.r HB.out.a (by decide))) 6; have hk0 : u9.cell? ⟨w.heap.size, 0, none⟩ = some (.int .i64 a1) := (blk_cell (blk_grown HB.out.k0 hg (Kd.R_ne HB.out.r HB.out.k0 (by decide))) 0).trans rfl; have ho1 : u9.cell? ⟨w.heap.size + 1, 0, none⟩ = some (.slice Av ts.length cv) := (blk_cell (blk_grown HB.out.o hg (Kd.R_ne HB.out.r HB.out.o (by decide))) 0).trans rfl; have fo1 := blk_frozen (blk_grown HB.out.o hg (Kd.R_ne HB.out.r HB.out.o (by decide))) 0; clear hb hg hat ho ht1 HB)
        have HB7 := (((((((HB1.out.ahead 0 (.slice B0 s.f0.length e0)).ahead 1 (.slice B1 s.f1.length e1)).ahead 2 (.slice B2 s.f2.length e2)).ahead 3 (.int .i64 s.f3)).ahead 4 (.int .i64 s.f4)).ahead 5 (.bool s.f5)).ahead 6 (.bool true))
        exact ⟨HB7.kf.from _, HB7.bw, HB7.iv (x := xe) (by rw [hxe, h6]; rfl) (by rw [HTL.out, hxe]; dsimp only; unfold pages_Flow.rnd; rw [if_pos h6, HEt1.out]) (by rw [HTL.out]; exact HN.out) HSZ.out⟩
      | false =>
        rw [h6] at hx6
        cases h7 : ah.f6 with
        | true =>
          rw [h7] at ha6
          gi_wp2_with ( first | (gi_at_builtin; refine Rnd.R_append_in k43 (w0 := w) w.heap.size rfl (.tmp 40) (.tmp 43) 22 43 (.agg #[(.int .i64 0), (.int .i64 0), (.int .i64 0), (.int .i64 0)]) 32 rfl Try.underlying22 info43 rfl (by decide) (by omega) (.slice Av ts.length cv) ts (⟨2, s.f3, 0, 0⟩ : S43) [.int .i64 (2), .int .i64 (s.f3), .int .i64 (0), .int .i64 (0)] (fun _ => True) (fun _ => False) rfl (by first | rfl | (simp; rfl)) (k43_mkM _ _ _ _) (fun _ hk => hk.elim) (fun _ _ => trivial) HB.out.r HB.out.b HB.out.b.size ?hl ?_; (case hl => have := HLts.out; omega); intro v4 x9 ho hb hg hat; obtain ⟨t2, ht2⟩ : ∃ z, ts ++ [(⟨2, s.f3, 0, 0⟩ : S43)] = z := ⟨_, rfl⟩; rw [ht2] at ho; obtain ⟨A_r, c_r, rfl⟩ := Kd.R_slice ho; have HB2 := Aside0.mk (HB.out.push hg hb ho); have HLt2 : Aside0 (t2.length ≤ 8002 * 4000 + 2) := ⟨by rw [← ht2, List.length_append, List.length_singleton]; have := HLts.out; omega⟩; have HEt2 := Aside0.mk ht2; clear hx0 ha0 fa0 hx1 ha1 fa1 hx2 ha2 fa2 hx3 ha3 fa3 hx4 ha4 fa4 hx5 ha5 fa5 hx6 ha6 fa6 hk0 ho1 fo1; have hx0 : x9.cell? ⟨Bx, 0, none⟩ = some (.slice B0 s.f0.length e0) := (blk_cell (blk_grown HB.out.x hg (Kd.R_ne HB.out.r HB.out.x (by decide))) 0).trans rfl; have hx1 : x9.cell? ⟨Bx, 1, none⟩ = some (.slice B1 s.f1.length e1) := (blk_cell (blk_grown HB.out.x hg (Kd.R_ne HB.out.r HB.out.x (by decide))) 1).trans rfl; have hx2 : x9.cell? ⟨Bx, 2, none⟩ = some (.slice B2 s.f2.length e2) := (blk_cell (blk_grown HB.out.x hg (Kd.R_ne HB.out.r HB.out.x (by decide))) 2).trans rfl; have hx3 : x9.cell? ⟨Bx, 3, none⟩ = some (.int .i64 s.f3) := (blk_cell (blk_grown HB.out.x hg (Kd.R_ne HB.out.r HB.out.x (by decide))) 3).trans rfl; have hx4 : x9.cell? ⟨Bx, 4, none⟩ = some (.int .i64 s.f4) := (blk_cell (blk_grown HB.out.x hg (Kd.R_ne HB.out.r HB.out.x (by decide))) 4).trans rfl; have hx5 : x9.cell? ⟨Bx, 5, none⟩ = some (.bool s.f5) := (blk_cell (blk_grown HB.out.x hg (Kd.R_ne HB.out.r HB.out.x (by decide))) 5).trans rfl; have hx6 : x9.cell? ⟨Bx, 6, none⟩ = some (.bool s.f6) := (blk_cell (blk_grown HB.out.x hg (Kd.R_ne HB.out.r HB.out.x (by decide))) 6).trans rfl; have ha0 : x9.cell? ⟨w.heap.size + 2, 0, none⟩ = some (.slice D0 ah.f0.length d0) := (blk_cell (blk_grown HB.out.a hg (Kd.R_ne HB.out.r HB.out.a (by decide))) 0).trans rfl; have ha1 : x9.cell? ⟨w.heap.size + 2, 1, none⟩ = some (.slice D1 ah.f1.length d1) := (blk_cell (blk_grown HB.out.a hg (Kd.R_ne HB.out.r HB.out.a (by decide))) 1).trans rfl; have ha2 : x9.cell? ⟨w.heap.size + 2, 2, none⟩ = some (.slice D2 ah.f2.length d2) := (blk_cell (blk_grown HB.out.a hg (Kd.R_ne HB.out.r HB.out.a (by decide))) 2).trans rfl; have ha3 : x9.cell? ⟨w.heap.size + 2, 3, none⟩ = some (.int .i64 ah.f3) := (blk_cell (blk_grown HB.out.a hg (Kd.R_ne HB.out.r HB.out.a (by decide))) 3).trans rfl; have ha4 : x9.cell? ⟨w.heap.size + 2, 4, none⟩ = some (.int .i64 ah.f4) := (blk_cell (blk_grown HB.out.a hg (Kd.R_ne HB.out.r HB.out.a (by decide))) 4).trans rfl; have ha5 : x9.cell? ⟨w.heap.size + 2, 5, none⟩ = some (.bool ah.f5) := (blk_cell (blk_grown HB.out.a hg (Kd.R_ne HB.out.r HB.out.a (by decide))) 5).trans rfl; have ha6 : x9.cell? ⟨w.heap.size + 2, 6, none⟩ = some (.bool ah.f6) := (blk_cell (blk_grown HB.out.a hg (Kd.R_ne HB.out.r HB.out.a (by decide))) 6).trans rfl; have fa0 := blk_frozen (blk_grown HB.out.a hg (Kd.R_ne HB.out.r HB.out.a (by decide))) 0; have fa1 := blk_frozen (blk_grown HB.out.a hg (Kd.R_ne HB.out.r HB.out.a (by decide))) 1; have fa2 := blk_frozen (blk_grown HB.out.a hg (Kd.R_ne HB.out.r HB.out.a (by decide))) 2; have fa3 := blk_frozen (blk_grown HB.out.a hg (Kd.R_ne HB.out.r HB.out.a (by decide))) 3; have fa4 := blk_frozen (blk_grown HB.out.a hg (Kd.R_ne HB.out.r HB.out.a (by decide))) 4; have fa5 := blk_frozen (blk_grown HB.out.a hg (Kd.R_ne HB.out.r HB.out.a (by decide))) 5; have fa6 := blk_frozen (blk_grown HB.out.a hg (Kd.R_ne HB.out.r HB.out.a (by decide))) 6; have hk0 : x9.cell? ⟨w.heap.size, 0, none⟩ = some (.int .i64 a1) := (blk_cell (blk_grown HB.out.k0 hg (Kd.R_ne HB.out.r HB.out.k0 (by decide))) 0).trans rfl; have ho1 : x9.cell? ⟨w.heap.size + 1, 0, none⟩ = some (.slice Av ts.length cv) := (blk_cell (blk_grown HB.out.o hg (Kd.R_ne HB.out.r HB.out.o (by decide))) 0).trans rfl; have fo1 := blk_frozen (blk_grown HB.out.o hg (Kd.R_ne HB.out.r HB.out.o (by decide))) 0; clear hb hg hat ho ht2 HB))
          obtain ⟨Tf, hTf⟩ : ∃ z, t2 ++ pages_Flow.itm s s.f0 0 = z := ⟨_, rfl⟩
          have HTf := Aside0.mk hTf
          clear hTf
          gi_loopw [48] (fun i wr => ∃ (k : Nat) (Aq : Option Addr) (cq : Nat) (q : List S43), k ≤ s.f0.length ∧ i = .int .i64 (k : Int) ∧ Aside0 (pages_Flow.Bd w W wr a1 Bx [.slice B0 s.f0.length e0, .slice B1 s.f1.length e1, .slice B2 s.f2.length e2, .int .i64 s.f3, .int .i64 s.f4, .bool s.f5, .bool s.f6] [.slice D0 ah.f0.length d0, .slice D1 ah.f1.length d1, .slice D2 ah.f2.length d2, .int .i64 ah.f3, .int .i64 ah.f4, .bool ah.f5, .bool ah.f6] (.slice Aq q.length cq) q) ∧ Aside0 (q ++ pages_Flow.itm s (s.f0.drop k) k = Tf) ∧ Aside0 (q.length ≤ 8002 * 4000 + 3 + 2 * k))
            (fun i _ => s.f0.length - (intOf i).toNat)
          case atStart => exact ⟨0, _, _, t2, Nat.zero_le _, rfl, HB2, ⟨by rw [List.drop_zero]; exact HTf.out⟩, ⟨by have := HLt2.out; omega⟩⟩
          case round =>
            clear HB2 HLt2
            obtain ⟨k, Aq, cq, q, hk, rfl, HBq, HQ, HLq⟩ := hrel
            by_cases hlt : k < s.f0.length
            · have hb4 := HBG.out
              have kc1 : ((k : Int) < (s.f0.length : Int)) = True := eq_true (by omega)
              have kc2 : (k < s.f0.length) = True := eq_true hlt
              have kc3 : ((0 : Int) ≤ (k : Int)) = True := eq_true (by omega)
              have kc6 : IntKind.i64.wrap ((k : Int) + 1) = (k : Int) + 1 := by rw [IntKind.wrap_i64]; omega
              have kc7 : IntKind.i64.wrap ((k : Int) - 1) = (k : Int) - 1 := by rw [IntKind.wrap_i64]; omega
              have hq := HQ.out
              rw [pages_Flow.dropI hlt, pages_Flow.itm] at hq
              have HQ2 := Aside0.mk hq
              clear hq HQ
              obtain ⟨ad, e0_, y0⟩ := Kd.at_int HG0.out.2 (k : Int) (by omega) (by omega)
              simp only [Int.toNat_natCast] at y0
              replace y0 := (HBq.out.b.cell (World.block_lt_of_cell? w _ y0)).trans y0
              by_cases hk0 : k = 0
              · have kg : ((0 : Int) < (k : Int)) = False := eq_false (by omega)
                have kg2 : (0 < k) = False := eq_false (by omega)
                have HK0 := Aside0.mk hk0
                clear hk0
                gi_wp2
                have m0_ := Aside0.mk (HBq.out.drew)
                clear HBq
                have HBq := m0_
                clear m0_
                refine Rnd.start_in (m := 10) (S := fun w' => w'.cell? ⟨w.heap.size + 1, 0, none⟩ = some (.slice Aq q.length cq) ∧ w'.cell? ⟨Bx, 1, none⟩ = some (.slice B1 s.f1.length e1)) (ds := [9]) #[false, false, false, false, false, false, false, false, false, false] (by kernel_rfl) rfl rfl (by kernel_rfl) (fun ⟨_, _, h_⟩ => h_) ⟨(blk_cell HBq.out.o 0).trans rfl, (blk_cell HBq.out.x 1).trans rfl⟩ (fun hHeld => ?_)
                generalize wr.drew = z2 at HBq hHeld ⊢
                refine take_ (i := 0) (N := some 64) (v := ?_) (a' := ?_) #[true, false, false, false, false, false, false, false, false, false] rfl rfl (by kernel_rfl) (fun _ _ _ h => h) (Or.inl ⟨by rfl, ?_⟩) hHeld ?_ ?_
                rotate_left
                · rintro w' ⟨s0, s1⟩
                  go_simp
                  with_reducible rfl
                rotate_left
                · simp only [Act.put, List.setIfInBounds_toArray, List.set_cons_zero, List.set_cons_succ, i64_w, i32_w]
                  rfl
                refine pure_ (i := 1) (N := some 65) (v := ?_) (a' := ?_) #[true, true, false, false, false, false, false, false, false, false] rfl rfl (by kernel_rfl) (fun _ _ _ h => h) (Or.inl ⟨by rfl, ?_⟩) ?_ ?_
                rotate_left
                · intro w'
                  go_simp
                  with_reducible rfl
                rotate_left
                · simp only [Act.put, List.setIfInBounds_toArray, List.set_cons_zero, List.set_cons_succ, i64_w, i32_w]
                  rfl
                refine pure_ (i := 2) (N := some 66) (v := ?_) (a' := ?_) #[true, true, true, false, false, false, false, false, false, false] rfl rfl (by kernel_rfl) (fun _ _ _ h => h) (Or.inl ⟨by rfl, ?_⟩) ?_ ?_
                rotate_left
                · intro w'
                  go_simp
                  with_reducible rfl
                rotate_left
                · simp only [Act.put, List.setIfInBounds_toArray, List.set_cons_zero, List.set_cons_succ, i64_w, i32_w]
                  rfl
                refine take_ (i := 3) (N := some 67) (v := ?_) (a' := ?_) #[true, true, true, true, false, false, false, false, false, false] rfl rfl (by kernel_rfl) (fun _ _ _ h => h) (Or.inl ⟨by rfl, ?_⟩) hHeld ?_ ?_
                rotate_left
                · rintro w' ⟨s0, s1⟩
                  go_simp
                  with_reducible rfl
                rotate_left
                · simp only [Act.put, List.setIfInBounds_toArray, List.set_cons_zero, List.set_cons_succ, i64_w, i32_w]
                  rfl
                refine pure_ (i := 4) (N := some 68) (v := ?_) (a' := ?_) #[true, true, true, true, true, false, false, false, false, false] rfl rfl (by kernel_rfl) (fun _ _ _ h => h) (Or.inl ⟨by rfl, ?_⟩) ?_ ?_
                rotate_left
                · intro w'
                  go_simp
                  with_reducible rfl
                rotate_left
                · simp only [Act.put, List.setIfInBounds_toArray, List.set_cons_zero, List.set_cons_succ, i64_w, i32_w]
                  rfl
                refine one_ (i := 5) (N := some 69) #[true, true, true, true, true, true, false, false, false, false] rfl rfl (by kernel_rfl) (by decide) (fun K hK => ?_)
                refine goes_ Try.func50 (by kernel_rfl) rfl #[.slice B1 s.f1.length e1, .int .i64 ((k : Int))] (by rfl) rfl rfl (by (try simp only [List.map_toArray, List.map_cons, List.map_nil]); first | done | rfl) ?_
                with_reducible refine (pages_at.calls _ _ _ ((k : Int)) _ _ (Kd.C_below HG1.out.2 HBq.out.b) HG1.out.1 (pages_Flow.at_eq _ _ (by omega))).mono ?_
                rintro e z3 ⟨rfl, hd⟩
                refine ⟨_, rfl, ?_⟩
                have m0_ := Aside0.mk (HBq.out.drawn hd)
                clear HBq hd
                have HBq := m0_
                clear m0_
                refine hK.out _ _ ⟨(blk_cell HBq.out.o 0).trans rfl, (blk_cell HBq.out.x 1).trans rfl⟩ (fun hHeld => ?_)
                clear hK K
                refine norm_ (a' := ?_) ?_ ?_
                rotate_left
                · show Act.put _ (some 69) _ = _
                  simp only [Act.put, List.setIfInBounds_toArray, List.set_cons_zero, List.set_cons_succ, i64_w, i32_w]
                  rfl
                refine pure_ (i := 6) (N := some 70) (v := ?_) (a' := ?_) #[true, true, true, true, true, true, true, false, false, false] rfl rfl (by kernel_rfl) (fun _ _ _ h => h) (Or.inl ⟨by rfl, ?_⟩) ?_ ?_
                rotate_left
                · intro w'
                  go_simp
                  with_reducible rfl
                rotate_left
                · simp only [Act.put, List.setIfInBounds_toArray, List.set_cons_zero, List.set_cons_succ, i64_w, i32_w]
                  rfl
                refine one_ (i := 7) (N := some 71) #[true, true, true, true, true, true, true, true, false, false] rfl rfl (by kernel_rfl) (by decide) (fun K hK => ?_)
                refine value_ (w1 := ?_) (v := ?_) (by rfl) rfl ?_ ?_
                rotate_left 2
                · go_simp
                  constructor
                  · rfl
                  · rfl
                refine hK.out _ _ ⟨(blk_cell (blk_alloc HBq.out.o _) 0).trans rfl, (blk_cell (blk_alloc HBq.out.x _) 1).trans rfl⟩ (fun hHeld => ?_)
                clear hK K
                refine norm_ (a' := ?_) ?_ ?_
                rotate_left
                · show Act.put _ (some 71) _ = _
                  simp only [Act.put, List.setIfInBounds_toArray, List.set_cons_zero, List.set_cons_succ, i64_w, i32_w]
                  rfl
                refine one_ (i := 8) (N := some 72) #[true, true, true, true, true, true, true, true, true, false] rfl rfl (by kernel_rfl) (by decide) (fun K hK => ?_)
                refine Kd.R_append_step k43 (w0 := w) w.heap.size (by rfl) (.tmp 64) (.tmp 71) 22 43 (.agg #[(.int .i64 0), (.int .i64 0), (.int .i64 0), (.int .i64 0)]) 32 rfl Try.underlying22 info43 rfl (by decide) (by omega) (.slice Aq q.length cq) q (⟨1, (rd s.f0 (k : Int)), pages_Flow.atT s.f1 (k : Int), 0⟩ : S43) [.int .i64 (1), .int .i64 ((rd s.f0 (k : Int))), .int .i64 (pages_Flow.atT s.f1 (k : Int)), .int .i64 (0)] (fun _ => True) (fun _ => False) rfl rfl (k43_mkM _ _ _ _) (fun _ hk => hk.elim) (fun _ _ => trivial) HBq.out.r HBq.out.b HBq.out.b.size ?hl ?_
                case hl => have := HLq.out; omega
                intro v4 z4 ho hb hg hat
                obtain ⟨t3, ht3⟩ : ∃ z, q ++ [(⟨1, (rd s.f0 (k : Int)), pages_Flow.atT s.f1 (k : Int), 0⟩ : S43)] = z := ⟨_, rfl⟩
                rw [ht3] at ho
                obtain ⟨A_t3, c_t3, rfl⟩ := Kd.R_slice ho
                have HBz := Aside0.mk (HBq.out.push hg hb ho)
                have HLt3 : Aside0 (t3.length ≤ 8002 * 4000 + 3 + (2 * k + 1)) := ⟨by rw [← ht3, List.length_append, List.length_singleton]; have := HLq.out; omega⟩
                have HEt3 := Aside0.mk ht3
                have PO := Aside0.mk (blk_grown HBq.out.o hg (Kd.R_ne HBq.out.r HBq.out.o (by decide)))
                have PX := Aside0.mk (blk_grown HBq.out.x hg (Kd.R_ne HBq.out.r HBq.out.x (by decide)))
                clear hb hg hat ho ht3 HBq
                refine hK.out _ _ ⟨(blk_cell PO.out 0).trans rfl, (blk_cell PX.out 1).trans rfl⟩ (fun hHeld => ?_)
                clear hK K
                refine norm_ (a' := ?_) ?_ ?_
                rotate_left
                · show Act.put _ (some 72) _ = _
                  simp only [Act.put, List.setIfInBounds_toArray, List.set_cons_zero, List.set_cons_succ, i64_w, i32_w]
                  rfl
                refine last_ (i := 9) (N := none) #[true, true, true, true, true, true, true, true, true, true] rfl rfl (by kernel_rfl) (by decide) (fun K hK => ?_)
                have hs_ : z4.cell? ⟨w.heap.size + 1, 0, none⟩ = some (.slice Aq q.length cq) := (blk_cell PO.out 0).trans rfl
                have hf_ := blk_frozen PO.out 0
                refine skip_ (w1 := ?_) (by rfl) rfl ?_ ?_
                rotate_left
                · go_simp
                  rfl
                refine hK.out _ _ ?_
                clear hK K
                refine done_ (by kernel_rfl) ?_
                clear PO PX
                obtain ⟨t3_w, ew⟩ : ∃ z, z4.setCell ⟨w.heap.size + 1, 0, none⟩ (.slice A_t3 t3.length c_t3) = z := ⟨_, rfl⟩
                rw [ew] at HBz
                rw [ew]
                clear ew
                gi_wp2
                go_roundw
                case rel => exact ⟨k + 1, _, _, t3, by omega, by simp, HBz, ⟨by have := HQ2.out; rw [if_pos HK0.out, List.nil_append] at this; rw [← HEt3.out, List.append_assoc]; exact this⟩, ⟨by have := HLt3.out; omega⟩⟩
                case measure => (try simp [intOf]); omega
              · have kg : ((0 : Int) < (k : Int)) = True := eq_true (by omega)
                have kg2 : (0 < k) = True := eq_true (by omega)
                have HK0 := Aside0.mk hk0
                clear hk0
                gi_wp2
                have m0_ := Aside0.mk (HBq.out.drew)
                clear HBq
                have HBq := m0_
                clear m0_
                refine Rnd.start_in (m := 10) (S := fun w' => w'.cell? ⟨w.heap.size + 1, 0, none⟩ = some (.slice Aq q.length cq) ∧ w'.cell? ⟨Bx, 2, none⟩ = some (.slice B2 s.f2.length e2)) (ds := [9]) #[false, false, false, false, false, false, false, false, false, false] (by kernel_rfl) rfl rfl (by kernel_rfl) (fun ⟨_, _, h_⟩ => h_) ⟨(blk_cell HBq.out.o 0).trans rfl, (blk_cell HBq.out.x 2).trans rfl⟩ (fun hHeld => ?_)
                generalize wr.drew = z2 at HBq hHeld ⊢
                refine take_ (i := 0) (N := some 55) (v := ?_) (a' := ?_) #[true, false, false, false, false, false, false, false, false, false] rfl rfl (by kernel_rfl) (fun _ _ _ h => h) (Or.inl ⟨by rfl, ?_⟩) hHeld ?_ ?_
                rotate_left
                · rintro w' ⟨s0, s1⟩
                  go_simp
                  with_reducible rfl
                rotate_left
                · simp only [Act.put, List.setIfInBounds_toArray, List.set_cons_zero, List.set_cons_succ, i64_w, i32_w]
                  rfl
                refine pure_ (i := 1) (N := some 56) (v := ?_) (a' := ?_) #[true, true, false, false, false, false, false, false, false, false] rfl rfl (by kernel_rfl) (fun _ _ _ h => h) (Or.inl ⟨by rfl, ?_⟩) ?_ ?_
                rotate_left
                · intro w'
                  go_simp
                  with_reducible rfl
                rotate_left
                · simp only [Act.put, List.setIfInBounds_toArray, List.set_cons_zero, List.set_cons_succ, i64_w, i32_w]
                  rfl
                refine take_ (i := 2) (N := some 57) (v := ?_) (a' := ?_) #[true, true, true, false, false, false, false, false, false, false] rfl rfl (by kernel_rfl) (fun _ _ _ h => h) (Or.inl ⟨by rfl, ?_⟩) hHeld ?_ ?_
                rotate_left
                · rintro w' ⟨s0, s1⟩
                  go_simp
                  with_reducible rfl
                rotate_left
                · simp only [Act.put, List.setIfInBounds_toArray, List.set_cons_zero, List.set_cons_succ, i64_w, i32_w]
                  rfl
                refine pure_ (i := 3) (N := some 58) (v := ?_) (a' := ?_) #[true, true, true, true, false, false, false, false, false, false] rfl rfl (by kernel_rfl) (fun _ _ _ h => h) (Or.inl ⟨by rfl, ?_⟩) ?_ ?_
                rotate_left
                · intro w'
                  go_simp
                  with_reducible rfl
                rotate_left
                · simp only [Act.put, List.setIfInBounds_toArray, List.set_cons_zero, List.set_cons_succ, i64_w, i32_w]
                  rfl
                refine pure_ (i := 4) (N := some 59) (v := ?_) (a' := ?_) #[true, true, true, true, true, false, false, false, false, false] rfl rfl (by kernel_rfl) (fun _ _ _ h => h) (Or.inl ⟨by rfl, ?_⟩) ?_ ?_
                rotate_left
                · intro w'
                  go_simp
                  with_reducible rfl
                rotate_left
                · simp only [Act.put, List.setIfInBounds_toArray, List.set_cons_zero, List.set_cons_succ, i64_w, i32_w]
                  rfl
                refine one_ (i := 5) (N := some 60) #[true, true, true, true, true, true, false, false, false, false] rfl rfl (by kernel_rfl) (by decide) (fun K hK => ?_)
                refine goes_ Try.func50 (by kernel_rfl) rfl #[.slice B2 s.f2.length e2, .int .i64 ((k : Int) - 1)] (by rfl) rfl rfl (by (try simp only [List.map_toArray, List.map_cons, List.map_nil]); first | done | rfl) ?_
                with_reducible refine (pages_at.calls _ _ _ ((k : Int) - 1) _ _ (Kd.C_below HG2.out.2 HBq.out.b) HG2.out.1 (pages_Flow.at_eq _ _ (by have := HK0.out; omega))).mono ?_
                rintro e z3 ⟨rfl, hd⟩
                refine ⟨_, rfl, ?_⟩
                have m0_ := Aside0.mk (HBq.out.drawn hd)
                clear HBq hd
                have HBq := m0_
                clear m0_
                refine hK.out _ _ ⟨(blk_cell HBq.out.o 0).trans rfl, (blk_cell HBq.out.x 2).trans rfl⟩ (fun hHeld => ?_)
                clear hK K
                refine norm_ (a' := ?_) ?_ ?_
                rotate_left
                · show Act.put _ (some 60) _ = _
                  simp only [Act.put, List.setIfInBounds_toArray, List.set_cons_zero, List.set_cons_succ, i64_w, i32_w]
                  rfl
                refine pure_ (i := 6) (N := some 61) (v := ?_) (a' := ?_) #[true, true, true, true, true, true, true, false, false, false] rfl rfl (by kernel_rfl) (fun _ _ _ h => h) (Or.inl ⟨by rfl, ?_⟩) ?_ ?_
                rotate_left
                · intro w'
                  go_simp
                  with_reducible rfl
                rotate_left
                · simp only [Act.put, List.setIfInBounds_toArray, List.set_cons_zero, List.set_cons_succ, i64_w, i32_w]
                  rfl
                refine one_ (i := 7) (N := some 62) #[true, true, true, true, true, true, true, true, false, false] rfl rfl (by kernel_rfl) (by decide) (fun K hK => ?_)
                refine value_ (w1 := ?_) (v := ?_) (by rfl) rfl ?_ ?_
                rotate_left 2
                · go_simp
                  constructor
                  · rfl
                  · rfl
                refine hK.out _ _ ⟨(blk_cell (blk_alloc HBq.out.o _) 0).trans rfl, (blk_cell (blk_alloc HBq.out.x _) 2).trans rfl⟩ (fun hHeld => ?_)
                clear hK K
                refine norm_ (a' := ?_) ?_ ?_
                rotate_left
                · show Act.put _ (some 62) _ = _
                  simp only [Act.put, List.setIfInBounds_toArray, List.set_cons_zero, List.set_cons_succ, i64_w, i32_w]
                  rfl
                refine one_ (i := 8) (N := some 63) #[true, true, true, true, true, true, true, true, true, false] rfl rfl (by kernel_rfl) (by decide) (fun K hK => ?_)
                refine Kd.R_append_step k43 (w0 := w) w.heap.size (by rfl) (.tmp 55) (.tmp 62) 22 43 (.agg #[(.int .i64 0), (.int .i64 0), (.int .i64 0), (.int .i64 0)]) 32 rfl Try.underlying22 info43 rfl (by decide) (by omega) (.slice Aq q.length cq) q (⟨3, 0, 0, pages_Flow.atT s.f2 ((k : Int) - 1)⟩ : S43) [.int .i64 (3), .int .i64 (0), .int .i64 (0), .int .i64 (pages_Flow.atT s.f2 ((k : Int) - 1))] (fun _ => True) (fun _ => False) rfl rfl (k43_mkM _ _ _ _) (fun _ hk => hk.elim) (fun _ _ => trivial) HBq.out.r HBq.out.b HBq.out.b.size ?hl ?_
                case hl => have := HLq.out; omega
                intro v4 z4 ho hb hg hat
                obtain ⟨ta, hta⟩ : ∃ z, q ++ [(⟨3, 0, 0, pages_Flow.atT s.f2 ((k : Int) - 1)⟩ : S43)] = z := ⟨_, rfl⟩
                rw [hta] at ho
                obtain ⟨A_ta, c_ta, rfl⟩ := Kd.R_slice ho
                have HBy := Aside0.mk (HBq.out.push hg hb ho)
                have HLta : Aside0 (ta.length ≤ 8002 * 4000 + 3 + (2 * k + 1)) := ⟨by rw [← hta, List.length_append, List.length_singleton]; have := HLq.out; omega⟩
                have HEta := Aside0.mk hta
                have PO := Aside0.mk (blk_grown HBq.out.o hg (Kd.R_ne HBq.out.r HBq.out.o (by decide)))
                have PX := Aside0.mk (blk_grown HBq.out.x hg (Kd.R_ne HBq.out.r HBq.out.x (by decide)))
                clear hb hg hat ho hta HBq
                refine hK.out _ _ ⟨(blk_cell PO.out 0).trans rfl, (blk_cell PX.out 2).trans rfl⟩ (fun hHeld => ?_)
                clear hK K
                refine norm_ (a' := ?_) ?_ ?_
                rotate_left
                · show Act.put _ (some 63) _ = _
                  simp only [Act.put, List.setIfInBounds_toArray, List.set_cons_zero, List.set_cons_succ, i64_w, i32_w]
                  rfl
                refine last_ (i := 9) (N := none) #[true, true, true, true, true, true, true, true, true, true] rfl rfl (by kernel_rfl) (by decide) (fun K hK => ?_)
                have hs_ : z4.cell? ⟨w.heap.size + 1, 0, none⟩ = some (.slice Aq q.length cq) := (blk_cell PO.out 0).trans rfl
                have hf_ := blk_frozen PO.out 0
                refine skip_ (w1 := ?_) (by rfl) rfl ?_ ?_
                rotate_left
                · go_simp
                  rfl
                refine hK.out _ _ ?_
                clear hK K
                refine done_ (by kernel_rfl) ?_
                clear PO PX
                obtain ⟨ta_w, ew⟩ : ∃ z, z4.setCell ⟨w.heap.size + 1, 0, none⟩ (.slice A_ta ta.length c_ta) = z := ⟨_, rfl⟩
                rw [ew] at HBy
                rw [ew]
                clear ew
                gi_wp2
                have m0_ := Aside0.mk (HBy.out.drew)
                clear HBy
                have HBy := m0_
                clear m0_
                refine Rnd.start_in (m := 10) (S := fun w' => w'.cell? ⟨w.heap.size + 1, 0, none⟩ = some (.slice A_ta ta.length c_ta) ∧ w'.cell? ⟨Bx, 1, none⟩ = some (.slice B1 s.f1.length e1)) (ds := [9]) #[false, false, false, false, false, false, false, false, false, false] (by kernel_rfl) rfl rfl (by kernel_rfl) (fun ⟨_, _, h_⟩ => h_) ⟨(blk_cell HBy.out.o 0).trans rfl, (blk_cell HBy.out.x 1).trans rfl⟩ (fun hHeld => ?_)
                generalize ta_w.drew = z2 at HBy hHeld ⊢
                refine take_ (i := 0) (N := some 64) (v := ?_) (a' := ?_) #[true, false, false, false, false, false, false, false, false, false] rfl rfl (by kernel_rfl) (fun _ _ _ h => h) (Or.inl ⟨by rfl, ?_⟩) hHeld ?_ ?_
                rotate_left
                · rintro w' ⟨s0, s1⟩
                  go_simp
                  with_reducible rfl
                rotate_left
                · simp only [Act.put, List.setIfInBounds_toArray, List.set_cons_zero, List.set_cons_succ, i64_w, i32_w]
                  rfl
                refine pure_ (i := 1) (N := some 65) (v := ?_) (a' := ?_) #[true, true, false, false, false, false, false, false, false, false] rfl rfl (by kernel_rfl) (fun _ _ _ h => h) (Or.inl ⟨by rfl, ?_⟩) ?_ ?_
                rotate_left
                · intro w'
                  go_simp
                  with_reducible rfl
                rotate_left
                · simp only [Act.put, List.setIfInBounds_toArray, List.set_cons_zero, List.set_cons_succ, i64_w, i32_w]
                  rfl
                refine pure_ (i := 2) (N := some 66) (v := ?_) (a' := ?_) #[true, true, true, false, false, false, false, false, false, false] rfl rfl (by kernel_rfl) (fun _ _ _ h => h) (Or.inl ⟨by rfl, ?_⟩) ?_ ?_
                rotate_left
                · intro w'
                  go_simp
                  with_reducible rfl
                rotate_left
                · simp only [Act.put, List.setIfInBounds_toArray, List.set_cons_zero, List.set_cons_succ, i64_w, i32_w]
                  rfl
                refine take_ (i := 3) (N := some 67) (v := ?_) (a' := ?_) #[true, true, true, true, false, false, false, false, false, false] rfl rfl (by kernel_rfl) (fun _ _ _ h => h) (Or.inl ⟨by rfl, ?_⟩) hHeld ?_ ?_
                rotate_left
                · rintro w' ⟨s0, s1⟩
                  go_simp
                  with_reducible rfl
                rotate_left
                · simp only [Act.put, List.setIfInBounds_toArray, List.set_cons_zero, List.set_cons_succ, i64_w, i32_w]
                  rfl
                refine pure_ (i := 4) (N := some 68) (v := ?_) (a' := ?_) #[true, true, true, true, true, false, false, false, false, false] rfl rfl (by kernel_rfl) (fun _ _ _ h => h) (Or.inl ⟨by rfl, ?_⟩) ?_ ?_
                rotate_left
                · intro w'
                  go_simp
                  with_reducible rfl
                rotate_left
                · simp only [Act.put, List.setIfInBounds_toArray, List.set_cons_zero, List.set_cons_succ, i64_w, i32_w]
                  rfl
                refine one_ (i := 5) (N := some 69) #[true, true, true, true, true, true, false, false, false, false] rfl rfl (by kernel_rfl) (by decide) (fun K hK => ?_)
                refine goes_ Try.func50 (by kernel_rfl) rfl #[.slice B1 s.f1.length e1, .int .i64 ((k : Int))] (by rfl) rfl rfl (by (try simp only [List.map_toArray, List.map_cons, List.map_nil]); first | done | rfl) ?_
                with_reducible refine (pages_at.calls _ _ _ ((k : Int)) _ _ (Kd.C_below HG1.out.2 HBy.out.b) HG1.out.1 (pages_Flow.at_eq _ _ (by omega))).mono ?_
                rintro e z3 ⟨rfl, hd⟩
                refine ⟨_, rfl, ?_⟩
                have m0_ := Aside0.mk (HBy.out.drawn hd)
                clear HBy hd
                have HBy := m0_
                clear m0_
                refine hK.out _ _ ⟨(blk_cell HBy.out.o 0).trans rfl, (blk_cell HBy.out.x 1).trans rfl⟩ (fun hHeld => ?_)
                clear hK K
                refine norm_ (a' := ?_) ?_ ?_
                rotate_left
                · show Act.put _ (some 69) _ = _
                  simp only [Act.put, List.setIfInBounds_toArray, List.set_cons_zero, List.set_cons_succ, i64_w, i32_w]
                  rfl
                refine pure_ (i := 6) (N := some 70) (v := ?_) (a' := ?_) #[true, true, true, true, true, true, true, false, false, false] rfl rfl (by kernel_rfl) (fun _ _ _ h => h) (Or.inl ⟨by rfl, ?_⟩) ?_ ?_
                rotate_left
                · intro w'
                  go_simp
                  with_reducible rfl
                rotate_left
                · simp only [Act.put, List.setIfInBounds_toArray, List.set_cons_zero, List.set_cons_succ, i64_w, i32_w]
                  rfl
                refine one_ (i := 7) (N := some 71) #[true, true, true, true, true, true, true, true, false, false] rfl rfl (by kernel_rfl) (by decide) (fun K hK => ?_)
                refine value_ (w1 := ?_) (v := ?_) (by rfl) rfl ?_ ?_
                rotate_left 2
                · go_simp
                  constructor
                  · rfl
                  · rfl
                refine hK.out _ _ ⟨(blk_cell (blk_alloc HBy.out.o _) 0).trans rfl, (blk_cell (blk_alloc HBy.out.x _) 1).trans rfl⟩ (fun hHeld => ?_)
                clear hK K
                refine norm_ (a' := ?_) ?_ ?_
                rotate_left
                · show Act.put _ (some 71) _ = _
                  simp only [Act.put, List.setIfInBounds_toArray, List.set_cons_zero, List.set_cons_succ, i64_w, i32_w]
                  rfl
                refine one_ (i := 8) (N := some 72) #[true, true, true, true, true, true, true, true, true, false] rfl rfl (by kernel_rfl) (by decide) (fun K hK => ?_)
                refine Kd.R_append_step k43 (w0 := w) w.heap.size (by rfl) (.tmp 64) (.tmp 71) 22 43 (.agg #[(.int .i64 0), (.int .i64 0), (.int .i64 0), (.int .i64 0)]) 32 rfl Try.underlying22 info43 rfl (by decide) (by omega) (.slice A_ta ta.length c_ta) ta (⟨1, (rd s.f0 (k : Int)), pages_Flow.atT s.f1 (k : Int), 0⟩ : S43) [.int .i64 (1), .int .i64 ((rd s.f0 (k : Int))), .int .i64 (pages_Flow.atT s.f1 (k : Int)), .int .i64 (0)] (fun _ => True) (fun _ => False) rfl rfl (k43_mkM _ _ _ _) (fun _ hk => hk.elim) (fun _ _ => trivial) HBy.out.r HBy.out.b HBy.out.b.size ?hl ?_
                case hl => have := HLta.out; omega
                intro v4 z4 ho hb hg hat
                obtain ⟨t3, ht3⟩ : ∃ z, ta ++ [(⟨1, (rd s.f0 (k : Int)), pages_Flow.atT s.f1 (k : Int), 0⟩ : S43)] = z := ⟨_, rfl⟩
                rw [ht3] at ho
                obtain ⟨A_t3, c_t3, rfl⟩ := Kd.R_slice ho
                have HBz := Aside0.mk (HBy.out.push hg hb ho)
                have HLt3 : Aside0 (t3.length ≤ 8002 * 4000 + 3 + (2 * k + 2)) := ⟨by rw [← ht3, List.length_append, List.length_singleton]; have := HLta.out; omega⟩
                have HEt3 := Aside0.mk ht3
                have PO := Aside0.mk (blk_grown HBy.out.o hg (Kd.R_ne HBy.out.r HBy.out.o (by decide)))
                have PX := Aside0.mk (blk_grown HBy.out.x hg (Kd.R_ne HBy.out.r HBy.out.x (by decide)))
                clear hb hg hat ho ht3 HBy
                refine hK.out _ _ ⟨(blk_cell PO.out 0).trans rfl, (blk_cell PX.out 1).trans rfl⟩ (fun hHeld => ?_)
                clear hK K
                refine norm_ (a' := ?_) ?_ ?_
                rotate_left
                · show Act.put _ (some 72) _ = _
                  simp only [Act.put, List.setIfInBounds_toArray, List.set_cons_zero, List.set_cons_succ, i64_w, i32_w]
                  rfl
                refine last_ (i := 9) (N := none) #[true, true, true, true, true, true, true, true, true, true] rfl rfl (by kernel_rfl) (by decide) (fun K hK => ?_)
                have hs_ : z4.cell? ⟨w.heap.size + 1, 0, none⟩ = some (.slice A_ta ta.length c_ta) := (blk_cell PO.out 0).trans rfl
                have hf_ := blk_frozen PO.out 0
                refine skip_ (w1 := ?_) (by rfl) rfl ?_ ?_
                rotate_left
                · go_simp
                  rfl
                refine hK.out _ _ ?_
                clear hK K
                refine done_ (by kernel_rfl) ?_
                clear PO PX
                obtain ⟨t3_w, ew⟩ : ∃ z, z4.setCell ⟨w.heap.size + 1, 0, none⟩ (.slice A_t3 t3.length c_t3) = z := ⟨_, rfl⟩
                rw [ew] at HBz
                rw [ew]
                clear ew
                gi_wp2
                go_roundw
                case rel => exact ⟨k + 1, _, _, t3, by omega, by simp, HBz, ⟨by have := HQ2.out; rw [if_neg HK0.out] at this; rw [← HEt3.out, ← HEta.out, List.append_assoc, List.append_assoc]; exact this⟩, ⟨by have := HLt3.out; omega⟩⟩
                case measure => (try simp [intOf]); omega
            · obtain rfl : k = s.f0.length := by omega
              have kc1 : ((s.f0.length : Int) < (s.f0.length : Int)) = False := eq_false (by omega)
              have kc2 : (s.f0.length < s.f0.length) = False := eq_false (by omega)
              have hq : q = Tf := by have := HQ.out; rw [List.drop_eq_nil_of_le (Nat.le_refl _), pages_Flow.itm, List.append_nil] at this; exact this
              clear HQ
              have hx0 : wr.cell? ⟨Bx, 0, none⟩ = some (.slice B0 s.f0.length e0) := (blk_cell HBq.out.x 0).trans rfl
              have hx1 : wr.cell? ⟨Bx, 1, none⟩ = some (.slice B1 s.f1.length e1) := (blk_cell HBq.out.x 1).trans rfl
              have hx2 : wr.cell? ⟨Bx, 2, none⟩ = some (.slice B2 s.f2.length e2) := (blk_cell HBq.out.x 2).trans rfl
              have hx3 : wr.cell? ⟨Bx, 3, none⟩ = some (.int .i64 s.f3) := (blk_cell HBq.out.x 3).trans rfl
              have hx4 : wr.cell? ⟨Bx, 4, none⟩ = some (.int .i64 s.f4) := (blk_cell HBq.out.x 4).trans rfl
              have hx5 : wr.cell? ⟨Bx, 5, none⟩ = some (.bool s.f5) := (blk_cell HBq.out.x 5).trans rfl
              have hx6 : wr.cell? ⟨Bx, 6, none⟩ = some (.bool s.f6) := (blk_cell HBq.out.x 6).trans rfl
              have ha0 : wr.cell? ⟨w.heap.size + 2, 0, none⟩ = some (.slice D0 ah.f0.length d0) := (blk_cell HBq.out.a 0).trans rfl
              have ha1 : wr.cell? ⟨w.heap.size + 2, 1, none⟩ = some (.slice D1 ah.f1.length d1) := (blk_cell HBq.out.a 1).trans rfl
              have ha2 : wr.cell? ⟨w.heap.size + 2, 2, none⟩ = some (.slice D2 ah.f2.length d2) := (blk_cell HBq.out.a 2).trans rfl
              have ha3 : wr.cell? ⟨w.heap.size + 2, 3, none⟩ = some (.int .i64 ah.f3) := (blk_cell HBq.out.a 3).trans rfl
              have ha4 : wr.cell? ⟨w.heap.size + 2, 4, none⟩ = some (.int .i64 ah.f4) := (blk_cell HBq.out.a 4).trans rfl
              have ha5 : wr.cell? ⟨w.heap.size + 2, 5, none⟩ = some (.bool ah.f5) := (blk_cell HBq.out.a 5).trans rfl
              have ha6 : wr.cell? ⟨w.heap.size + 2, 6, none⟩ = some (.bool ah.f6) := (blk_cell HBq.out.a 6).trans rfl
              have fa0 := blk_frozen HBq.out.a 0
              have fa1 := blk_frozen HBq.out.a 1
              have fa2 := blk_frozen HBq.out.a 2
              have fa3 := blk_frozen HBq.out.a 3
              have fa4 := blk_frozen HBq.out.a 4
              have fa5 := blk_frozen HBq.out.a 5
              have fa6 := blk_frozen HBq.out.a 6
              have hk0 : wr.cell? ⟨w.heap.size, 0, none⟩ = some (.int .i64 a1) := (blk_cell HBq.out.k0 0).trans rfl
              have ho1 : wr.cell? ⟨w.heap.size + 1, 0, none⟩ = some (.slice Aq q.length cq) := (blk_cell HBq.out.o 0).trans rfl
              have fo1 := blk_frozen HBq.out.o 0
              gi_wp2
              have HB7 := (((((((HBq.out.ahead 0 (.slice B0 s.f0.length e0)).ahead 1 (.slice B1 s.f1.length e1)).ahead 2 (.slice B2 s.f2.length e2)).ahead 3 (.int .i64 s.f3)).ahead 4 (.int .i64 s.f4)).ahead 5 (.bool s.f5)).ahead 6 (.bool false))
              exact ⟨HB7.kf.from _, HB7.bw, HB7.iv (x := xe) (by rw [hxe, h6]; rfl) (by rw [HTL.out, hxe]; dsimp only; unfold pages_Flow.rnd; rw [if_neg (show ¬ s.f6 = true by rw [h6]; decide), if_pos h7, if_pos h7, hq, ← HTf.out, ← HEt2.out]; simp) (by rw [HTL.out]; exact HN.out) HSZ.out⟩

        | false =>
          rw [h7] at ha6
          by_cases hm : s.f3 < ah.f4
          · have kme : (s.f3 < ah.f4) = True := eq_true hm
            have HM := Aside0.mk hm
            clear hm
            cases h5 : ah.f5 with
            | true =>
              rw [h5] at ha5
              gi_wp2_with ( first | (gi_at_builtin; refine Rnd.R_append_in k43 (w0 := w) w.heap.size rfl (.tmp 31) (.tmp 34) 22 43 (.agg #[(.int .i64 0), (.int .i64 0), (.int .i64 0), (.int .i64 0)]) 32 rfl Try.underlying22 info43 rfl (by decide) (by omega) (.slice Av ts.length cv) ts (⟨3, 0, 0, a1⟩ : S43) [.int .i64 (3), .int .i64 (0), .int .i64 (0), .int .i64 (a1)] (fun _ => True) (fun _ => False) rfl (by first | rfl | (simp; rfl)) (k43_mkM _ _ _ _) (fun _ hk => hk.elim) (fun _ _ => trivial) HB.out.r HB.out.b HB.out.b.size ?hl ?_; (case hl => have := HLts.out; omega); intro v4 u9 ho hb hg hat; obtain ⟨t1, ht1⟩ : ∃ z, ts ++ [(⟨3, 0, 0, a1⟩ : S43)] = z := ⟨_, rfl⟩; rw [ht1] at ho; obtain ⟨A_q, c_q, rfl⟩ := Kd.R_slice ho; have HB1 := Aside0.mk (HB.out.push hg hb ho); have HLt1 : Aside0 (t1.length ≤ 8002 * 4000 + 1) := ⟨by rw [← ht1, List.length_append, List.length_singleton]; have := HLts.out; omega⟩; have HEt1 := Aside0.mk ht1; clear hx0 ha0 fa0 hx1 ha1 fa1 hx2 ha2 fa2 hx3 ha3 fa3 hx4 ha4 fa4 hx5 ha5 fa5 hx6 ha6 fa6 hk0 ho1 fo1; have hx0 : u9.cell? ⟨Bx, 0, none⟩ = some (.slice B0 s.f0.length e0) := (blk_cell (blk_grown HB.out.x hg (Kd.R_ne HB.out.r HB.out.x (by decide))) 0).trans rfl; have hx1 : u9.cell? ⟨Bx, 1, none⟩ = some (.slice B1 s.f1.length e1) := (blk_cell (blk_grown HB.out.x hg (Kd.R_ne HB.out.r HB.out.x (by decide))) 1).trans rfl; have hx2 : u9.cell? ⟨Bx, 2, none⟩ = some (.slice B2 s.f2.length e2) := (blk_cell (blk_grown HB.out.x hg (Kd.R_ne HB.out.r HB.out.x (by decide))) 2).trans rfl; have hx3 : u9.cell? ⟨Bx, 3, none⟩ = some (.int .i64 s.f3) := (blk_cell (blk_grown HB.out.x hg (Kd.R_ne HB.out.r HB.out.x (by decide))) 3).trans rfl; have hx4 : u9.cell? ⟨Bx, 4, none⟩ = some (.int .i64 s.f4) := (blk_cell (blk_grown HB.out.x hg (Kd.R_ne HB.out.r HB.out.x (by decide))) 4).trans rfl; have hx5 : u9.cell? ⟨Bx, 5, none⟩ = some (.bool s.f5) := (blk_cell (blk_grown HB.out.x hg (Kd.R_ne HB.out.r HB.out.x (by decide))) 5).trans rfl; have hx6 : u9.cell? ⟨Bx, 6, none⟩ = some (.bool s.f6) := (blk_cell (blk_grown HB.out.x hg (Kd.R_ne HB.out.r HB.out.x (by decide))) 6).trans rfl; have ha0 : u9.cell? ⟨w.heap.size + 2, 0, none⟩ = some (.slice D0 ah.f0.length d0) := (blk_cell (blk_grown HB.out.a hg (Kd.R_ne HB.out.r HB.out.a (by decide))) 0).trans rfl; have ha1 : u9.cell? ⟨w.heap.size + 2, 1, none⟩ = some (.slice D1 ah.f1.length d1) := (blk_cell (blk_grown HB.out.a hg (Kd.R_ne HB.out.r HB.out.a (by decide))) 1).trans rfl; have ha2 : u9.cell? ⟨w.heap.size + 2, 2, none⟩ = some (.slice D2 ah.f2.length d2) := (blk_cell (blk_grown HB.out.a hg (Kd.R_ne HB.out.r HB.out.a (by decide))) 2).trans rfl; have ha3 : u9.cell? ⟨w.heap.size + 2, 3, none⟩ = some (.int .i64 ah.f3) := (blk_cell (blk_grown HB.out.a hg (Kd.R_ne HB.out.r HB.out.a (by decide))) 3).trans rfl; have ha4 : u9.cell? ⟨w.heap.size + 2, 4, none⟩ = some (.int .i64 ah.f4) := (blk_cell (blk_grown HB.out.a hg (Kd.R_ne HB.out.r HB.out.a (by decide))) 4).trans rfl; have ha5 : u9.cell? ⟨w.heap.size + 2, 5, none⟩ = some (.bool ah.f5) := (blk_cell (blk_grown HB.out.a hg (Kd.R_ne HB.out.r HB.out.a (by decide))) 5).trans rfl; have ha6 : u9.cell? ⟨w.heap.size + 2, 6, none⟩ = some (.bool ah.f6) := (blk_cell (blk_grown HB.out.a hg (Kd.R_ne HB.out.r HB.out.a (by decide))) 6).trans rfl; have fa0 := blk_frozen (blk_grown HB.out.a hg (Kd.R_ne HB.out.r HB.out.a (by decide))) 0; have fa1 := blk_frozen (blk_grown HB.out.a hg (Kd.R_ne HB.out.r HB.out.a (by decide))) 1; have fa2 := blk_frozen (blk_grown HB.out.a hg (Kd.R_ne HB.out.r HB.out.a (by decide))) 2; have fa3 := blk_frozen (blk_grown HB.out.a hg (Kd.R_ne HB.out.r HB.out.a (by decide))) 3; have fa4 := blk_frozen (blk_grown HB.out.a hg (Kd.R_ne HB.out.r HB.out.a (by decide))) 4; have fa5 := blk_frozen (blk_grown HB.out.a hg (Kd.R_ne HB.out.r HB.out.a (by decide))) 5; have fa6 := blk_frozen (blk_grown HB.out.a hg (Kd.R_ne HB.out.r HB.out.a (by decide))) 6; have hk0 : u9.cell? ⟨w.heap.size, 0, none⟩ = some (.int .i64 a1) := (blk_cell (blk_grown HB.out.k0 hg (Kd.R_ne HB.out.r HB.out.k0 (by decide))) 0).trans rfl; have ho1 : u9.cell? ⟨w.heap.size + 1, 0, none⟩ = some (.slice Av ts.length cv) := (blk_cell (blk_grown HB.out.o hg (Kd.R_ne HB.out.r HB.out.o (by decide))) 0).trans rfl; have fo1 := blk_frozen (blk_grown HB.out.o hg (Kd.R_ne HB.out.r HB.out.o (by decide))) 0; clear hb hg hat ho ht1 HB) | (gi_at_builtin; refine Rnd.R_append_in k43 (w0 := w) w.heap.size rfl (.tmp 40) (.tmp 43) 22 43 (.agg #[(.int .i64 0), (.int .i64 0), (.int .i64 0), (.int .i64 0)]) 32 rfl Try.underlying22 info43 rfl (by decide) (by omega) (.slice A_q t1.length c_q) t1 (⟨2, ah.f4, 0, 0⟩ : S43) [.int .i64 (2), .int .i64 (ah.f4), .int .i64 (0), .int .i64 (0)] (fun _ => True) (fun _ => False) rfl (by first | rfl | (simp; rfl)) (k43_mkM _ _ _ _) (fun _ hk => hk.elim) (fun _ _ => trivial) HB1.out.r HB1.out.b HB1.out.b.size ?hl ?_; (case hl => have := HLt1.out; omega); intro v4 x9 ho hb hg hat; obtain ⟨t2, ht2⟩ : ∃ z, t1 ++ [(⟨2, ah.f4, 0, 0⟩ : S43)] = z := ⟨_, rfl⟩; rw [ht2] at ho; obtain ⟨A_r, c_r, rfl⟩ := Kd.R_slice ho; have HB2 := Aside0.mk (HB1.out.push hg hb ho); have HLt2 : Aside0 (t2.length ≤ 8002 * 4000 + 2) := ⟨by rw [← ht2, List.length_append, List.length_singleton]; have := HLt1.out; omega⟩; have HEt2 := Aside0.mk ht2; clear hx0 ha0 fa0 hx1 ha1 fa1 hx2 ha2 fa2 hx3 ha3 fa3 hx4 ha4 fa4 hx5 ha5 fa5 hx6 ha6 fa6 hk0 ho1 fo1; have hx0 : x9.cell? ⟨Bx, 0, none⟩ = some (.slice B0 s.f0.length e0) := (blk_cell (blk_grown HB1.out.x hg (Kd.R_ne HB1.out.r HB1.out.x (by decide))) 0).trans rfl; have hx1 : x9.cell? ⟨Bx, 1, none⟩ = some (.slice B1 s.f1.length e1) := (blk_cell (blk_grown HB1.out.x hg (Kd.R_ne HB1.out.r HB1.out.x (by decide))) 1).trans rfl; have hx2 : x9.cell? ⟨Bx, 2, none⟩ = some (.slice B2 s.f2.length e2) := (blk_cell (blk_grown HB1.out.x hg (Kd.R_ne HB1.out.r HB1.out.x (by decide))) 2).trans rfl; have hx3 : x9.cell? ⟨Bx, 3, none⟩ = some (.int .i64 s.f3) := (blk_cell (blk_grown HB1.out.x hg (Kd.R_ne HB1.out.r HB1.out.x (by decide))) 3).trans rfl; have hx4 : x9.cell? ⟨Bx, 4, none⟩ = some (.int .i64 s.f4) := (blk_cell (blk_grown HB1.out.x hg (Kd.R_ne HB1.out.r HB1.out.x (by decide))) 4).trans rfl; have hx5 : x9.cell? ⟨Bx, 5, none⟩ = some (.bool s.f5) := (blk_cell (blk_grown HB1.out.x hg (Kd.R_ne HB1.out.r HB1.out.x (by decide))) 5).trans rfl; have hx6 : x9.cell? ⟨Bx, 6, none⟩ = some (.bool s.f6) := (blk_cell (blk_grown HB1.out.x hg (Kd.R_ne HB1.out.r HB1.out.x (by decide))) 6).trans rfl; have ha0 : x9.cell? ⟨w.heap.size + 2, 0, none⟩ = some (.slice D0 ah.f0.length d0) := (blk_cell (blk_grown HB1.out.a hg (Kd.R_ne HB1.out.r HB1.out.a (by decide))) 0).trans rfl; have ha1 : x9.cell? ⟨w.heap.size + 2, 1, none⟩ = some (.slice D1 ah.f1.length d1) := (blk_cell (blk_grown HB1.out.a hg (Kd.R_ne HB1.out.r HB1.out.a (by decide))) 1).trans rfl; have ha2 : x9.cell? ⟨w.heap.size + 2, 2, none⟩ = some (.slice D2 ah.f2.length d2) := (blk_cell (blk_grown HB1.out.a hg (Kd.R_ne HB1.out.r HB1.out.a (by decide))) 2).trans rfl; have ha3 : x9.cell? ⟨w.heap.size + 2, 3, none⟩ = some (.int .i64 ah.f3) := (blk_cell (blk_grown HB1.out.a hg (Kd.R_ne HB1.out.r HB1.out.a (by decide))) 3).trans rfl; have ha4 : x9.cell? ⟨w.heap.size + 2, 4, none⟩ = some (.int .i64 ah.f4) := (blk_cell (blk_grown HB1.out.a hg (Kd.R_ne HB1.out.r HB1.out.a (by decide))) 4).trans rfl; have ha5 : x9.cell? ⟨w.heap.size + 2, 5, none⟩ = some (.bool ah.f5) := (blk_cell (blk_grown HB1.out.a hg (Kd.R_ne HB1.out.r HB1.out.a (by decide))) 5).trans rfl; have ha6 : x9.cell? ⟨w.heap.size + 2, 6, none⟩ = some (.bool ah.f6) := (blk_cell (blk_grown HB1.out.a hg (Kd.R_ne HB1.out.r HB1.out.a (by decide))) 6).trans rfl; have fa0 := blk_frozen (blk_grown HB1.out.a hg (Kd.R_ne HB1.out.r HB1.out.a (by decide))) 0; have fa1 := blk_frozen (blk_grown HB1.out.a hg (Kd.R_ne HB1.out.r HB1.out.a (by decide))) 1; have fa2 := blk_frozen (blk_grown HB1.out.a hg (Kd.R_ne HB1.out.r HB1.out.a (by decide))) 2; have fa3 := blk_frozen (blk_grown HB1.out.a hg (Kd.R_ne HB1.out.r HB1.out.a (by decide))) 3; have fa4 := blk_frozen (blk_grown HB1.out.a hg (Kd.R_ne HB1.out.r HB1.out.a (by decide))) 4; have fa5 := blk_frozen (blk_grown HB1.out.a hg (Kd.R_ne HB1.out.r HB1.out.a (by decide))) 5; have fa6 := blk_frozen (blk_grown HB1.out.a hg (Kd.R_ne HB1.out.r HB1.out.a (by decide))) 6; have hk0 : x9.cell? ⟨w.heap.size, 0, none⟩ = some (.int .i64 a1) := (blk_cell (blk_grown HB1.out.k0 hg (Kd.R_ne HB1.out.r HB1.out.k0 (by decide))) 0).trans rfl; have ho1 : x9.cell? ⟨w.heap.size + 1, 0, none⟩ = some (.slice A_q t1.length c_q) := (blk_cell (blk_grown HB1.out.o hg (Kd.R_ne HB1.out.r HB1.out.o (by decide))) 0).trans rfl; have fo1 := blk_frozen (blk_grown HB1.out.o hg (Kd.R_ne HB1.out.r HB1.out.o (by decide))) 0; clear hb hg hat ho ht2 HB1))
              obtain ⟨Tf, hTf⟩ : ∃ z, t2 ++ pages_Flow.itm s s.f0 0 = z := ⟨_, rfl⟩
              have HTf := Aside0.mk hTf
              clear hTf
              gi_loopw [48] (fun i wr => ∃ (k : Nat) (Aq : Option Addr) (cq : Nat) (q : List S43), k ≤ s.f0.length ∧ i = .int .i64 (k : Int) ∧ Aside0 (pages_Flow.Bd w W wr a1 Bx [.slice B0 s.f0.length e0, .slice B1 s.f1.length e1, .slice B2 s.f2.length e2, .int .i64 s.f3, .int .i64 s.f4, .bool s.f5, .bool s.f6] [.slice D0 ah.f0.length d0, .slice D1 ah.f1.length d1, .slice D2 ah.f2.length d2, .int .i64 ah.f3, .int .i64 ah.f4, .bool ah.f5, .bool ah.f6] (.slice Aq q.length cq) q) ∧ Aside0 (q ++ pages_Flow.itm s (s.f0.drop k) k = Tf) ∧ Aside0 (q.length ≤ 8002 * 4000 + 3 + 2 * k))
                (fun i _ => s.f0.length - (intOf i).toNat)
              case atStart => exact ⟨0, _, _, t2, Nat.zero_le _, rfl, HB2, ⟨by rw [List.drop_zero]; exact HTf.out⟩, ⟨by have := HLt2.out; omega⟩⟩
              case round =>
                clear HB2 HLt2
                obtain ⟨k, Aq, cq, q, hk, rfl, HBq, HQ, HLq⟩ := hrel
                by_cases hlt : k < s.f0.length
                · have hb4 := HBG.out
                  have kc1 : ((k : Int) < (s.f0.length : Int)) = True := eq_true (by omega)
                  have kc2 : (k < s.f0.length) = True := eq_true hlt
                  have kc3 : ((0 : Int) ≤ (k : Int)) = True := eq_true (by omega)
                  have kc6 : IntKind.i64.wrap ((k : Int) + 1) = (k : Int) + 1 := by rw [IntKind.wrap_i64]; omega
                  have kc7 : IntKind.i64.wrap ((k : Int) - 1) = (k : Int) - 1 := by rw [IntKind.wrap_i64]; omega
                  have hq := HQ.out
                  rw [pages_Flow.dropI hlt, pages_Flow.itm] at hq
                  have HQ2 := Aside0.mk hq
                  clear hq HQ
                  obtain ⟨ad, e0_, y0⟩ := Kd.at_int HG0.out.2 (k : Int) (by omega) (by omega)
                  simp only [Int.toNat_natCast] at y0
                  replace y0 := (HBq.out.b.cell (World.block_lt_of_cell? w _ y0)).trans y0
                  by_cases hk0 : k = 0
                  · have kg : ((0 : Int) < (k : Int)) = False := eq_false (by omega)
                    have kg2 : (0 < k) = False := eq_false (by omega)
                    have HK0 := Aside0.mk hk0
                    clear hk0
                    gi_wp2
                    have m0_ := Aside0.mk (HBq.out.drew)
                    clear HBq
                    have HBq := m0_
                    clear m0_
                    refine Rnd.start_in (m := 10) (S := fun w' => w'.cell? ⟨w.heap.size + 1, 0, none⟩ = some (.slice Aq q.length cq) ∧ w'.cell? ⟨Bx, 1, none⟩ = some (.slice B1 s.f1.length e1)) (ds := [9]) #[false, false, false, false, false, false, false, false, false, false] (by kernel_rfl) rfl rfl (by kernel_rfl) (fun ⟨_, _, h_⟩ => h_) ⟨(blk_cell HBq.out.o 0).trans rfl, (blk_cell HBq.out.x 1).trans rfl⟩ (fun hHeld => ?_)
                    generalize wr.drew = z2 at HBq hHeld ⊢
                    refine take_ (i := 0) (N := some 64) (v := ?_) (a' := ?_) #[true, false, false, false, false, false, false, false, false, false] rfl rfl (by kernel_rfl) (fun _ _ _ h => h) (Or.inl ⟨by rfl, ?_⟩) hHeld ?_ ?_
                    rotate_left
                    · rintro w' ⟨s0, s1⟩
                      go_simp
                      with_reducible rfl
                    rotate_left
                    · simp only [Act.put, List.setIfInBounds_toArray, List.set_cons_zero, List.set_cons_succ, i64_w, i32_w]
                      rfl
                    refine pure_ (i := 1) (N := some 65) (v := ?_) (a' := ?_) #[true, true, false, false, false, false, false, false, false, false] rfl rfl (by kernel_rfl) (fun _ _ _ h => h) (Or.inl ⟨by rfl, ?_⟩) ?_ ?_
                    rotate_left
                    · intro w'
                      go_simp
                      with_reducible rfl
                    rotate_left
                    · simp only [Act.put, List.setIfInBounds_toArray, List.set_cons_zero, List.set_cons_succ, i64_w, i32_w]
                      rfl
                    refine pure_ (i := 2) (N := some 66) (v := ?_) (a' := ?_) #[true, true, true, false, false, false, false, false, false, false] rfl rfl (by kernel_rfl) (fun _ _ _ h => h) (Or.inl ⟨by rfl, ?_⟩) ?_ ?_
                    rotate_left
                    · intro w'
                      go_simp
                      with_reducible rfl
                    rotate_left
                    · simp only [Act.put, List.setIfInBounds_toArray, List.set_cons_zero, List.set_cons_succ, i64_w, i32_w]
                      rfl
                    refine take_ (i := 3) (N := some 67) (v := ?_) (a' := ?_) #[true, true, true, true, false, false, false, false, false, false] rfl rfl (by kernel_rfl) (fun _ _ _ h => h) (Or.inl ⟨by rfl, ?_⟩) hHeld ?_ ?_
                    rotate_left
                    · rintro w' ⟨s0, s1⟩
                      go_simp
                      with_reducible rfl
                    rotate_left
                    · simp only [Act.put, List.setIfInBounds_toArray, List.set_cons_zero, List.set_cons_succ, i64_w, i32_w]
                      rfl
                    refine pure_ (i := 4) (N := some 68) (v := ?_) (a' := ?_) #[true, true, true, true, true, false, false, false, false, false] rfl rfl (by kernel_rfl) (fun _ _ _ h => h) (Or.inl ⟨by rfl, ?_⟩) ?_ ?_
                    rotate_left
                    · intro w'
                      go_simp
                      with_reducible rfl
                    rotate_left
                    · simp only [Act.put, List.setIfInBounds_toArray, List.set_cons_zero, List.set_cons_succ, i64_w, i32_w]
                      rfl
                    refine one_ (i := 5) (N := some 69) #[true, true, true, true, true, true, false, false, false, false] rfl rfl (by kernel_rfl) (by decide) (fun K hK => ?_)
                    refine goes_ Try.func50 (by kernel_rfl) rfl #[.slice B1 s.f1.length e1, .int .i64 ((k : Int))] (by rfl) rfl rfl (by (try simp only [List.map_toArray, List.map_cons, List.map_nil]); first | done | rfl) ?_
                    with_reducible refine (pages_at.calls _ _ _ ((k : Int)) _ _ (Kd.C_below HG1.out.2 HBq.out.b) HG1.out.1 (pages_Flow.at_eq _ _ (by omega))).mono ?_
                    rintro e z3 ⟨rfl, hd⟩
                    refine ⟨_, rfl, ?_⟩
                    have m0_ := Aside0.mk (HBq.out.drawn hd)
                    clear HBq hd
                    have HBq := m0_
                    clear m0_
                    refine hK.out _ _ ⟨(blk_cell HBq.out.o 0).trans rfl, (blk_cell HBq.out.x 1).trans rfl⟩ (fun hHeld => ?_)
                    clear hK K
                    refine norm_ (a' := ?_) ?_ ?_
                    rotate_left
                    · show Act.put _ (some 69) _ = _
                      simp only [Act.put, List.setIfInBounds_toArray, List.set_cons_zero, List.set_cons_succ, i64_w, i32_w]
                      rfl
                    refine pure_ (i := 6) (N := some 70) (v := ?_) (a' := ?_) #[true, true, true, true, true, true, true, false, false, false] rfl rfl (by kernel_rfl) (fun _ _ _ h => h) (Or.inl ⟨by rfl, ?_⟩) ?_ ?_
                    rotate_left
                    · intro w'
                      go_simp
                      with_reducible rfl
                    rotate_left
                    · simp only [Act.put, List.setIfInBounds_toArray, List.set_cons_zero, List.set_cons_succ, i64_w, i32_w]
                      rfl
                    refine one_ (i := 7) (N := some 71) #[true, true, true, true, true, true, true, true, false, false] rfl rfl (by kernel_rfl) (by decide) (fun K hK => ?_)
                    refine value_ (w1 := ?_) (v := ?_) (by rfl) rfl ?_ ?_
                    rotate_left 2
                    · go_simp
                      constructor
                      · rfl
                      · rfl
                    refine hK.out _ _ ⟨(blk_cell (blk_alloc HBq.out.o _) 0).trans rfl, (blk_cell (blk_alloc HBq.out.x _) 1).trans rfl⟩ (fun hHeld => ?_)
                    clear hK K
                    refine norm_ (a' := ?_) ?_ ?_
                    rotate_left
                    · show Act.put _ (some 71) _ = _
                      simp only [Act.put, List.setIfInBounds_toArray, List.set_cons_zero, List.set_cons_succ, i64_w, i32_w]
                      rfl
                    refine one_ (i := 8) (N := some 72) #[true, true, true, true, true, true, true, true, true, false] rfl rfl (by kernel_rfl) (by decide) (fun K hK => ?_)
                    refine Kd.R_append_step k43 (w0 := w) w.heap.size (by rfl) (.tmp 64) (.tmp 71) 22 43 (.agg #[(.int .i64 0), (.int .i64 0), (.int .i64 0), (.int .i64 0)]) 32 rfl Try.underlying22 info43 rfl (by decide) (by omega) (.slice Aq q.length cq) q (⟨1, (rd s.f0 (k : Int)), pages_Flow.atT s.f1 (k : Int), 0⟩ : S43) [.int .i64 (1), .int .i64 ((rd s.f0 (k : Int))), .int .i64 (pages_Flow.atT s.f1 (k : Int)), .int .i64 (0)] (fun _ => True) (fun _ => False) rfl rfl (k43_mkM _ _ _ _) (fun _ hk => hk.elim) (fun _ _ => trivial) HBq.out.r HBq.out.b HBq.out.b.size ?hl ?_
                    case hl => have := HLq.out; omega
                    intro v4 z4 ho hb hg hat
                    obtain ⟨t3, ht3⟩ : ∃ z, q ++ [(⟨1, (rd s.f0 (k : Int)), pages_Flow.atT s.f1 (k : Int), 0⟩ : S43)] = z := ⟨_, rfl⟩
                    rw [ht3] at ho
                    obtain ⟨A_t3, c_t3, rfl⟩ := Kd.R_slice ho
                    have HBz := Aside0.mk (HBq.out.push hg hb ho)
                    have HLt3 : Aside0 (t3.length ≤ 8002 * 4000 + 3 + (2 * k + 1)) := ⟨by rw [← ht3, List.length_append, List.length_singleton]; have := HLq.out; omega⟩
                    have HEt3 := Aside0.mk ht3
                    have PO := Aside0.mk (blk_grown HBq.out.o hg (Kd.R_ne HBq.out.r HBq.out.o (by decide)))
                    have PX := Aside0.mk (blk_grown HBq.out.x hg (Kd.R_ne HBq.out.r HBq.out.x (by decide)))
                    clear hb hg hat ho ht3 HBq
                    refine hK.out _ _ ⟨(blk_cell PO.out 0).trans rfl, (blk_cell PX.out 1).trans rfl⟩ (fun hHeld => ?_)
                    clear hK K
                    refine norm_ (a' := ?_) ?_ ?_
                    rotate_left
                    · show Act.put _ (some 72) _ = _
                      simp only [Act.put, List.setIfInBounds_toArray, List.set_cons_zero, List.set_cons_succ, i64_w, i32_w]
                      rfl
                    refine last_ (i := 9) (N := none) #[true, true, true, true, true, true, true, true, true, true] rfl rfl (by kernel_rfl) (by decide) (fun K hK => ?_)
                    have hs_ : z4.cell? ⟨w.heap.size + 1, 0, none⟩ = some (.slice Aq q.length cq) := (blk_cell PO.out 0).trans rfl
                    have hf_ := blk_frozen PO.out 0
                    refine skip_ (w1 := ?_) (by rfl) rfl ?_ ?_
                    rotate_left
                    · go_simp
                      rfl
                    refine hK.out _ _ ?_
                    clear hK K
                    refine done_ (by kernel_rfl) ?_
                    clear PO PX
                    obtain ⟨t3_w, ew⟩ : ∃ z, z4.setCell ⟨w.heap.size + 1, 0, none⟩ (.slice A_t3 t3.length c_t3) = z := ⟨_, rfl⟩
                    rw [ew] at HBz
                    rw [ew]
                    clear ew
                    gi_wp2
                    go_roundw
                    case rel => exact ⟨k + 1, _, _, t3, by omega, by simp, HBz, ⟨by have := HQ2.out; rw [if_pos HK0.out, List.nil_append] at this; rw [← HEt3.out, List.append_assoc]; exact this⟩, ⟨by have := HLt3.out; omega⟩⟩
                    case measure => (try simp [intOf]); omega
                  · have kg : ((0 : Int) < (k : Int)) = True := eq_true (by omega)
                    have kg2 : (0 < k) = True := eq_true (by omega)
                    have HK0 := Aside0.mk hk0
                    clear hk0
                    gi_wp2
                    have m0_ := Aside0.mk (HBq.out.drew)
                    clear HBq
                    have HBq := m0_
                    clear m0_
                    refine Rnd.start_in (m := 10) (S := fun w' => w'.cell? ⟨w.heap.size + 1, 0, none⟩ = some (.slice Aq q.length cq) ∧ w'.cell? ⟨Bx, 2, none⟩ = some (.slice B2 s.f2.length e2)) (ds := [9]) #[false, false, false, false, false, false, false, false, false, false] (by kernel_rfl) rfl rfl (by kernel_rfl) (fun ⟨_, _, h_⟩ => h_) ⟨(blk_cell HBq.out.o 0).trans rfl, (blk_cell HBq.out.x 2).trans rfl⟩ (fun hHeld => ?_)
                    generalize wr.drew = z2 at HBq hHeld ⊢
                    refine take_ (i := 0) (N := some 55) (v := ?_) (a' := ?_) #[true, false, false, false, false, false, false, false, false, false] rfl rfl (by kernel_rfl) (fun _ _ _ h => h) (Or.inl ⟨by rfl, ?_⟩) hHeld ?_ ?_
                    rotate_left
                    · rintro w' ⟨s0, s1⟩
                      go_simp
                      with_reducible rfl
                    rotate_left
                    · simp only [Act.put, List.setIfInBounds_toArray, List.set_cons_zero, List.set_cons_succ, i64_w, i32_w]
                      rfl
                    refine pure_ (i := 1) (N := some 56) (v := ?_) (a' := ?_) #[true, true, false, false, false, false, false, false, false, false] rfl rfl (by kernel_rfl) (fun _ _ _ h => h) (Or.inl ⟨by rfl, ?_⟩) ?_ ?_
                    rotate_left
                    · intro w'
                      go_simp
                      with_reducible rfl
                    rotate_left
                    · simp only [Act.put, List.setIfInBounds_toArray, List.set_cons_zero, List.set_cons_succ, i64_w, i32_w]
                      rfl
                    refine take_ (i := 2) (N := some 57) (v := ?_) (a' := ?_) #[true, true, true, false, false, false, false, false, false, false] rfl rfl (by kernel_rfl) (fun _ _ _ h => h) (Or.inl ⟨by rfl, ?_⟩) hHeld ?_ ?_
                    rotate_left
                    · rintro w' ⟨s0, s1⟩
                      go_simp
                      with_reducible rfl
                    rotate_left
                    · simp only [Act.put, List.setIfInBounds_toArray, List.set_cons_zero, List.set_cons_succ, i64_w, i32_w]
                      rfl
                    refine pure_ (i := 3) (N := some 58) (v := ?_) (a' := ?_) #[true, true, true, true, false, false, false, false, false, false] rfl rfl (by kernel_rfl) (fun _ _ _ h => h) (Or.inl ⟨by rfl, ?_⟩) ?_ ?_
                    rotate_left
                    · intro w'
                      go_simp
                      with_reducible rfl
                    rotate_left
                    · simp only [Act.put, List.setIfInBounds_toArray, List.set_cons_zero, List.set_cons_succ, i64_w, i32_w]
                      rfl
                    refine pure_ (i := 4) (N := some 59) (v := ?_) (a' := ?_) #[true, true, true, true, true, false, false, false, false, false] rfl rfl (by kernel_rfl) (fun _ _ _ h => h) (Or.inl ⟨by rfl, ?_⟩) ?_ ?_
                    rotate_left
                    · intro w'
                      go_simp
                      with_reducible rfl
                    rotate_left
                    · simp only [Act.put, List.setIfInBounds_toArray, List.set_cons_zero, List.set_cons_succ, i64_w, i32_w]
                      rfl
                    refine one_ (i := 5) (N := some 60) #[true, true, true, true, true, true, false, false, false, false] rfl rfl (by kernel_rfl) (by decide) (fun K hK => ?_)
                    refine goes_ Try.func50 (by kernel_rfl) rfl #[.slice B2 s.f2.length e2, .int .i64 ((k : Int) - 1)] (by rfl) rfl rfl (by (try simp only [List.map_toArray, List.map_cons, List.map_nil]); first | done | rfl) ?_
                    with_reducible refine (pages_at.calls _ _ _ ((k : Int) - 1) _ _ (Kd.C_below HG2.out.2 HBq.out.b) HG2.out.1 (pages_Flow.at_eq _ _ (by have := HK0.out; omega))).mono ?_
                    rintro e z3 ⟨rfl, hd⟩
                    refine ⟨_, rfl, ?_⟩
                    have m0_ := Aside0.mk (HBq.out.drawn hd)
                    clear HBq hd
                    have HBq := m0_
                    clear m0_
                    refine hK.out _ _ ⟨(blk_cell HBq.out.o 0).trans rfl, (blk_cell HBq.out.x 2).trans rfl⟩ (fun hHeld => ?_)
                    clear hK K
                    refine norm_ (a' := ?_) ?_ ?_
                    rotate_left
                    · show Act.put _ (some 60) _ = _
                      simp only [Act.put, List.setIfInBounds_toArray, List.set_cons_zero, List.set_cons_succ, i64_w, i32_w]
                      rfl
                    refine pure_ (i := 6) (N := some 61) (v := ?_) (a' := ?_) #[true, true, true, true, true, true, true, false, false, false] rfl rfl (by kernel_rfl) (fun _ _ _ h => h) (Or.inl ⟨by rfl, ?_⟩) ?_ ?_
                    rotate_left
                    · intro w'
                      go_simp
                      with_reducible rfl
                    rotate_left
                    · simp only [Act.put, List.setIfInBounds_toArray, List.set_cons_zero, List.set_cons_succ, i64_w, i32_w]
                      rfl
                    refine one_ (i := 7) (N := some 62) #[true, true, true, true, true, true, true, true, false, false] rfl rfl (by kernel_rfl) (by decide) (fun K hK => ?_)
                    refine value_ (w1 := ?_) (v := ?_) (by rfl) rfl ?_ ?_
                    rotate_left 2
                    · go_simp
                      constructor
                      · rfl
                      · rfl
                    refine hK.out _ _ ⟨(blk_cell (blk_alloc HBq.out.o _) 0).trans rfl, (blk_cell (blk_alloc HBq.out.x _) 2).trans rfl⟩ (fun hHeld => ?_)
                    clear hK K
                    refine norm_ (a' := ?_) ?_ ?_
                    rotate_left
                    · show Act.put _ (some 62) _ = _
                      simp only [Act.put, List.setIfInBounds_toArray, List.set_cons_zero, List.set_cons_succ, i64_w, i32_w]
                      rfl
                    refine one_ (i := 8) (N := some 63) #[true, true, true, true, true, true, true, true, true, false] rfl rfl (by kernel_rfl) (by decide) (fun K hK => ?_)
                    refine Kd.R_append_step k43 (w0 := w) w.heap.size (by rfl) (.tmp 55) (.tmp 62) 22 43 (.agg #[(.int .i64 0), (.int .i64 0), (.int .i64 0), (.int .i64 0)]) 32 rfl Try.underlying22 info43 rfl (by decide) (by omega) (.slice Aq q.length cq) q (⟨3, 0, 0, pages_Flow.atT s.f2 ((k : Int) - 1)⟩ : S43) [.int .i64 (3), .int .i64 (0), .int .i64 (0), .int .i64 (pages_Flow.atT s.f2 ((k : Int) - 1))] (fun _ => True) (fun _ => False) rfl rfl (k43_mkM _ _ _ _) (fun _ hk => hk.elim) (fun _ _ => trivial) HBq.out.r HBq.out.b HBq.out.b.size ?hl ?_
                    case hl => have := HLq.out; omega
                    intro v4 z4 ho hb hg hat
                    obtain ⟨ta, hta⟩ : ∃ z, q ++ [(⟨3, 0, 0, pages_Flow.atT s.f2 ((k : Int) - 1)⟩ : S43)] = z := ⟨_, rfl⟩
                    rw [hta] at ho
                    obtain ⟨A_ta, c_ta, rfl⟩ := Kd.R_slice ho
                    have HBy := Aside0.mk (HBq.out.push hg hb ho)
                    have HLta : Aside0 (ta.length ≤ 8002 * 4000 + 3 + (2 * k + 1)) := ⟨by rw [← hta, List.length_append, List.length_singleton]; have := HLq.out; omega⟩
                    have HEta := Aside0.mk hta
                    have PO := Aside0.mk (blk_grown HBq.out.o hg (Kd.R_ne HBq.out.r HBq.out.o (by decide)))
                    have PX := Aside0.mk (blk_grown HBq.out.x hg (Kd.R_ne HBq.out.r HBq.out.x (by decide)))
                    clear hb hg hat ho hta HBq
                    refine hK.out _ _ ⟨(blk_cell PO.out 0).trans rfl, (blk_cell PX.out 2).trans rfl⟩ (fun hHeld => ?_)
                    clear hK K
                    refine norm_ (a' := ?_) ?_ ?_
                    rotate_left
                    · show Act.put _ (some 63) _ = _
                      simp only [Act.put, List.setIfInBounds_toArray, List.set_cons_zero, List.set_cons_succ, i64_w, i32_w]
                      rfl
                    refine last_ (i := 9) (N := none) #[true, true, true, true, true, true, true, true, true, true] rfl rfl (by kernel_rfl) (by decide) (fun K hK => ?_)
                    have hs_ : z4.cell? ⟨w.heap.size + 1, 0, none⟩ = some (.slice Aq q.length cq) := (blk_cell PO.out 0).trans rfl
                    have hf_ := blk_frozen PO.out 0
                    refine skip_ (w1 := ?_) (by rfl) rfl ?_ ?_
                    rotate_left
                    · go_simp
                      rfl
                    refine hK.out _ _ ?_
                    clear hK K
                    refine done_ (by kernel_rfl) ?_
                    clear PO PX
                    obtain ⟨ta_w, ew⟩ : ∃ z, z4.setCell ⟨w.heap.size + 1, 0, none⟩ (.slice A_ta ta.length c_ta) = z := ⟨_, rfl⟩
                    rw [ew] at HBy
                    rw [ew]
                    clear ew
                    gi_wp2
                    have m0_ := Aside0.mk (HBy.out.drew)
                    clear HBy
                    have HBy := m0_
                    clear m0_
                    refine Rnd.start_in (m := 10) (S := fun w' => w'.cell? ⟨w.heap.size + 1, 0, none⟩ = some (.slice A_ta ta.length c_ta) ∧ w'.cell? ⟨Bx, 1, none⟩ = some (.slice B1 s.f1.length e1)) (ds := [9]) #[false, false, false, false, false, false, false, false, false, false] (by kernel_rfl) rfl rfl (by kernel_rfl) (fun ⟨_, _, h_⟩ => h_) ⟨(blk_cell HBy.out.o 0).trans rfl, (blk_cell HBy.out.x 1).trans rfl⟩ (fun hHeld => ?_)
                    generalize ta_w.drew = z2 at HBy hHeld ⊢
                    refine take_ (i := 0) (N := some 64) (v := ?_) (a' := ?_) #[true, false, false, false, false, false, false, false, false, false] rfl rfl (by kernel_rfl) (fun _ _ _ h => h) (Or.inl ⟨by rfl, ?_⟩) hHeld ?_ ?_
                    rotate_left
                    · rintro w' ⟨s0, s1⟩
                      go_simp
                      with_reducible rfl
                    rotate_left
                    · simp only [Act.put, List.setIfInBounds_toArray, List.set_cons_zero, List.set_cons_succ, i64_w, i32_w]
                      rfl
                    refine pure_ (i := 1) (N := some 65) (v := ?_) (a' := ?_) #[true, true, false, false, false, false, false, false, false, false] rfl rfl (by kernel_rfl) (fun _ _ _ h => h) (Or.inl ⟨by rfl, ?_⟩) ?_ ?_
                    rotate_left
                    · intro w'
                      go_simp
                      with_reducible rfl
                    rotate_left
                    · simp only [Act.put, List.setIfInBounds_toArray, List.set_cons_zero, List.set_cons_succ, i64_w, i32_w]
                      rfl
                    refine pure_ (i := 2) (N := some 66) (v := ?_) (a' := ?_) #[true, true, true, false, false, false, false, false, false, false] rfl rfl (by kernel_rfl) (fun _ _ _ h => h) (Or.inl ⟨by rfl, ?_⟩) ?_ ?_
                    rotate_left
                    · intro w'
                      go_simp
                      with_reducible rfl
                    rotate_left
                    · simp only [Act.put, List.setIfInBounds_toArray, List.set_cons_zero, List.set_cons_succ, i64_w, i32_w]
                      rfl
                    refine take_ (i := 3) (N := some 67) (v := ?_) (a' := ?_) #[true, true, true, true, false, false, false, false, false, false] rfl rfl (by kernel_rfl) (fun _ _ _ h => h) (Or.inl ⟨by rfl, ?_⟩) hHeld ?_ ?_
                    rotate_left
                    · rintro w' ⟨s0, s1⟩
                      go_simp
                      with_reducible rfl
                    rotate_left
                    · simp only [Act.put, List.setIfInBounds_toArray, List.set_cons_zero, List.set_cons_succ, i64_w, i32_w]
                      rfl
                    refine pure_ (i := 4) (N := some 68) (v := ?_) (a' := ?_) #[true, true, true, true, true, false, false, false, false, false] rfl rfl (by kernel_rfl) (fun _ _ _ h => h) (Or.inl ⟨by rfl, ?_⟩) ?_ ?_
                    rotate_left
                    · intro w'
                      go_simp
                      with_reducible rfl
                    rotate_left
                    · simp only [Act.put, List.setIfInBounds_toArray, List.set_cons_zero, List.set_cons_succ, i64_w, i32_w]
                      rfl
                    refine one_ (i := 5) (N := some 69) #[true, true, true, true, true, true, false, false, false, false] rfl rfl (by kernel_rfl) (by decide) (fun K hK => ?_)
                    refine goes_ Try.func50 (by kernel_rfl) rfl #[.slice B1 s.f1.length e1, .int .i64 ((k : Int))] (by rfl) rfl rfl (by (try simp only [List.map_toArray, List.map_cons, List.map_nil]); first | done | rfl) ?_
                    with_reducible refine (pages_at.calls _ _ _ ((k : Int)) _ _ (Kd.C_below HG1.out.2 HBy.out.b) HG1.out.1 (pages_Flow.at_eq _ _ (by omega))).mono ?_
                    rintro e z3 ⟨rfl, hd⟩
                    refine ⟨_, rfl, ?_⟩
                    have m0_ := Aside0.mk (HBy.out.drawn hd)
                    clear HBy hd
                    have HBy := m0_
                    clear m0_
                    refine hK.out _ _ ⟨(blk_cell HBy.out.o 0).trans rfl, (blk_cell HBy.out.x 1).trans rfl⟩ (fun hHeld => ?_)
                    clear hK K
                    refine norm_ (a' := ?_) ?_ ?_
                    rotate_left
                    · show Act.put _ (some 69) _ = _
                      simp only [Act.put, List.setIfInBounds_toArray, List.set_cons_zero, List.set_cons_succ, i64_w, i32_w]
                      rfl
                    refine pure_ (i := 6) (N := some 70) (v := ?_) (a' := ?_) #[true, true, true, true, true, true, true, false, false, false] rfl rfl (by kernel_rfl) (fun _ _ _ h => h) (Or.inl ⟨by rfl, ?_⟩) ?_ ?_
                    rotate_left
                    · intro w'
                      go_simp
                      with_reducible rfl
                    rotate_left
                    · simp only [Act.put, List.setIfInBounds_toArray, List.set_cons_zero, List.set_cons_succ, i64_w, i32_w]
                      rfl
                    refine one_ (i := 7) (N := some 71) #[true, true, true, true, true, true, true, true, false, false] rfl rfl (by kernel_rfl) (by decide) (fun K hK => ?_)
                    refine value_ (w1 := ?_) (v := ?_) (by rfl) rfl ?_ ?_
                    rotate_left 2
                    · go_simp
                      constructor
                      · rfl
                      · rfl
                    refine hK.out _ _ ⟨(blk_cell (blk_alloc HBy.out.o _) 0).trans rfl, (blk_cell (blk_alloc HBy.out.x _) 1).trans rfl⟩ (fun hHeld => ?_)
                    clear hK K
                    refine norm_ (a' := ?_) ?_ ?_
                    rotate_left
                    · show Act.put _ (some 71) _ = _
                      simp only [Act.put, List.setIfInBounds_toArray, List.set_cons_zero, List.set_cons_succ, i64_w, i32_w]
                      rfl
                    refine one_ (i := 8) (N := some 72) #[true, true, true, true, true, true, true, true, true, false] rfl rfl (by kernel_rfl) (by decide) (fun K hK => ?_)
                    refine Kd.R_append_step k43 (w0 := w) w.heap.size (by rfl) (.tmp 64) (.tmp 71) 22 43 (.agg #[(.int .i64 0), (.int .i64 0), (.int .i64 0), (.int .i64 0)]) 32 rfl Try.underlying22 info43 rfl (by decide) (by omega) (.slice A_ta ta.length c_ta) ta (⟨1, (rd s.f0 (k : Int)), pages_Flow.atT s.f1 (k : Int), 0⟩ : S43) [.int .i64 (1), .int .i64 ((rd s.f0 (k : Int))), .int .i64 (pages_Flow.atT s.f1 (k : Int)), .int .i64 (0)] (fun _ => True) (fun _ => False) rfl rfl (k43_mkM _ _ _ _) (fun _ hk => hk.elim) (fun _ _ => trivial) HBy.out.r HBy.out.b HBy.out.b.size ?hl ?_
                    case hl => have := HLta.out; omega
                    intro v4 z4 ho hb hg hat
                    obtain ⟨t3, ht3⟩ : ∃ z, ta ++ [(⟨1, (rd s.f0 (k : Int)), pages_Flow.atT s.f1 (k : Int), 0⟩ : S43)] = z := ⟨_, rfl⟩
                    rw [ht3] at ho
                    obtain ⟨A_t3, c_t3, rfl⟩ := Kd.R_slice ho
                    have HBz := Aside0.mk (HBy.out.push hg hb ho)
                    have HLt3 : Aside0 (t3.length ≤ 8002 * 4000 + 3 + (2 * k + 2)) := ⟨by rw [← ht3, List.length_append, List.length_singleton]; have := HLta.out; omega⟩
                    have HEt3 := Aside0.mk ht3
                    have PO := Aside0.mk (blk_grown HBy.out.o hg (Kd.R_ne HBy.out.r HBy.out.o (by decide)))
                    have PX := Aside0.mk (blk_grown HBy.out.x hg (Kd.R_ne HBy.out.r HBy.out.x (by decide)))
                    clear hb hg hat ho ht3 HBy
                    refine hK.out _ _ ⟨(blk_cell PO.out 0).trans rfl, (blk_cell PX.out 1).trans rfl⟩ (fun hHeld => ?_)
                    clear hK K
                    refine norm_ (a' := ?_) ?_ ?_
                    rotate_left
                    · show Act.put _ (some 72) _ = _
                      simp only [Act.put, List.setIfInBounds_toArray, List.set_cons_zero, List.set_cons_succ, i64_w, i32_w]
                      rfl
                    refine last_ (i := 9) (N := none) #[true, true, true, true, true, true, true, true, true, true] rfl rfl (by kernel_rfl) (by decide) (fun K hK => ?_)
                    have hs_ : z4.cell? ⟨w.heap.size + 1, 0, none⟩ = some (.slice A_ta ta.length c_ta) := (blk_cell PO.out 0).trans rfl
                    have hf_ := blk_frozen PO.out 0
                    refine skip_ (w1 := ?_) (by rfl) rfl ?_ ?_
                    rotate_left
                    · go_simp
                      rfl
                    refine hK.out _ _ ?_
                    clear hK K
                    refine done_ (by kernel_rfl) ?_
                    clear PO PX
                    obtain ⟨t3_w, ew⟩ : ∃ z, z4.setCell ⟨w.heap.size + 1, 0, none⟩ (.slice A_t3 t3.length c_t3) = z := ⟨_, rfl⟩
                    rw [ew] at HBz
                    rw [ew]
                    clear ew
                    gi_wp2
                    go_roundw
                    case rel => exact ⟨k + 1, _, _, t3, by omega, by simp, HBz, ⟨by have := HQ2.out; rw [if_neg HK0.out] at this; rw [← HEt3.out, ← HEta.out, List.append_assoc, List.append_assoc]; exact this⟩, ⟨by have := HLt3.out; omega⟩⟩
                    case measure => (try simp [intOf]); omega
                · obtain rfl : k = s.f0.length := by omega
                  have kc1 : ((s.f0.length : Int) < (s.f0.length : Int)) = False := eq_false (by omega)
                  have kc2 : (s.f0.length < s.f0.length) = False := eq_false (by omega)
                  have hq : q = Tf := by have := HQ.out; rw [List.drop_eq_nil_of_le (Nat.le_refl _), pages_Flow.itm, List.append_nil] at this; exact this
                  clear HQ
                  have hx0 : wr.cell? ⟨Bx, 0, none⟩ = some (.slice B0 s.f0.length e0) := (blk_cell HBq.out.x 0).trans rfl
                  have hx1 : wr.cell? ⟨Bx, 1, none⟩ = some (.slice B1 s.f1.length e1) := (blk_cell HBq.out.x 1).trans rfl
                  have hx2 : wr.cell? ⟨Bx, 2, none⟩ = some (.slice B2 s.f2.length e2) := (blk_cell HBq.out.x 2).trans rfl
                  have hx3 : wr.cell? ⟨Bx, 3, none⟩ = some (.int .i64 s.f3) := (blk_cell HBq.out.x 3).trans rfl
                  have hx4 : wr.cell? ⟨Bx, 4, none⟩ = some (.int .i64 s.f4) := (blk_cell HBq.out.x 4).trans rfl
                  have hx5 : wr.cell? ⟨Bx, 5, none⟩ = some (.bool s.f5) := (blk_cell HBq.out.x 5).trans rfl
                  have hx6 : wr.cell? ⟨Bx, 6, none⟩ = some (.bool s.f6) := (blk_cell HBq.out.x 6).trans rfl
                  have ha0 : wr.cell? ⟨w.heap.size + 2, 0, none⟩ = some (.slice D0 ah.f0.length d0) := (blk_cell HBq.out.a 0).trans rfl
                  have ha1 : wr.cell? ⟨w.heap.size + 2, 1, none⟩ = some (.slice D1 ah.f1.length d1) := (blk_cell HBq.out.a 1).trans rfl
                  have ha2 : wr.cell? ⟨w.heap.size + 2, 2, none⟩ = some (.slice D2 ah.f2.length d2) := (blk_cell HBq.out.a 2).trans rfl
                  have ha3 : wr.cell? ⟨w.heap.size + 2, 3, none⟩ = some (.int .i64 ah.f3) := (blk_cell HBq.out.a 3).trans rfl
                  have ha4 : wr.cell? ⟨w.heap.size + 2, 4, none⟩ = some (.int .i64 ah.f4) := (blk_cell HBq.out.a 4).trans rfl
                  have ha5 : wr.cell? ⟨w.heap.size + 2, 5, none⟩ = some (.bool ah.f5) := (blk_cell HBq.out.a 5).trans rfl
                  have ha6 : wr.cell? ⟨w.heap.size + 2, 6, none⟩ = some (.bool ah.f6) := (blk_cell HBq.out.a 6).trans rfl
                  have fa0 := blk_frozen HBq.out.a 0
                  have fa1 := blk_frozen HBq.out.a 1
                  have fa2 := blk_frozen HBq.out.a 2
                  have fa3 := blk_frozen HBq.out.a 3
                  have fa4 := blk_frozen HBq.out.a 4
                  have fa5 := blk_frozen HBq.out.a 5
                  have fa6 := blk_frozen HBq.out.a 6
                  have hk0 : wr.cell? ⟨w.heap.size, 0, none⟩ = some (.int .i64 a1) := (blk_cell HBq.out.k0 0).trans rfl
                  have ho1 : wr.cell? ⟨w.heap.size + 1, 0, none⟩ = some (.slice Aq q.length cq) := (blk_cell HBq.out.o 0).trans rfl
                  have fo1 := blk_frozen HBq.out.o 0
                  gi_wp2
                  have HB7 := (((((((HBq.out.ahead 0 (.slice B0 s.f0.length e0)).ahead 1 (.slice B1 s.f1.length e1)).ahead 2 (.slice B2 s.f2.length e2)).ahead 3 (.int .i64 s.f3)).ahead 4 (.int .i64 s.f4)).ahead 5 (.bool s.f5)).ahead 6 (.bool false))
                  exact ⟨HB7.kf.from _, HB7.bw, HB7.iv (x := xe) (by rw [hxe, h6]; rfl) (by rw [HTL.out, hxe]; dsimp only; unfold pages_Flow.rnd; rw [if_neg (show ¬ s.f6 = true by rw [h6]; decide), if_neg (show ¬ ah.f6 = true by rw [h7]; decide), if_neg (show ¬ ah.f6 = true by rw [h7]; decide), show mx s.f3 ah.f4 = ah.f4 from if_pos HM.out, if_pos h5, hq, ← HTf.out, ← HEt2.out, ← HEt1.out]; simp) (by rw [HTL.out]; exact HN.out) HSZ.out⟩

            | false =>
              rw [h5] at ha5
              gi_wp2_with ( first | (gi_at_builtin; refine Rnd.R_append_in k43 (w0 := w) w.heap.size rfl (.tmp 31) (.tmp 34) 22 43 (.agg #[(.int .i64 0), (.int .i64 0), (.int .i64 0), (.int .i64 0)]) 32 rfl Try.underlying22 info43 rfl (by decide) (by omega) (.slice Av ts.length cv) ts (⟨3, 0, 0, 0⟩ : S43) [.int .i64 (3), .int .i64 (0), .int .i64 (0), .int .i64 (0)] (fun _ => True) (fun _ => False) rfl (by first | rfl | (simp; rfl)) (k43_mkM _ _ _ _) (fun _ hk => hk.elim) (fun _ _ => trivial) HB.out.r HB.out.b HB.out.b.size ?hl ?_; (case hl => have := HLts.out; omega); intro v4 u9 ho hb hg hat; obtain ⟨t1, ht1⟩ : ∃ z, ts ++ [(⟨3, 0, 0, 0⟩ : S43)] = z := ⟨_, rfl⟩; rw [ht1] at ho; obtain ⟨A_q, c_q, rfl⟩ := Kd.R_slice ho; have HB1 := Aside0.mk (HB.out.push hg hb ho); have HLt1 : Aside0 (t1.length ≤ 8002 * 4000 + 1) := ⟨by rw [← ht1, List.length_append, List.length_singleton]; have := HLts.out; omega⟩; have HEt1 := Aside0.mk ht1; clear hx0 ha0 fa0 hx1 ha1 fa1 hx2 ha2 fa2 hx3 ha3 fa3 hx4 ha4 fa4 hx5 ha5 fa5 hx6 ha6 fa6 hk0 ho1 fo1; have hx0 : u9.cell? ⟨Bx, 0, none⟩ = some (.slice B0 s.f0.length e0) := (blk_cell (blk_grown HB.out.x hg (Kd.R_ne HB.out.r HB.out.x (by decide))) 0).trans rfl; have hx1 : u9.cell? ⟨Bx, 1, none⟩ = some (.slice B1 s.f1.length e1) := (blk_cell (blk_grown HB.out.x hg (Kd.R_ne HB.out.r HB.out.x (by decide))) 1).trans rfl; have hx2 : u9.cell? ⟨Bx, 2, none⟩ = some (.slice B2 s.f2.length e2) := (blk_cell (blk_grown HB.out.x hg (Kd.R_ne HB.out.r HB.out.x (by decide))) 2).trans rfl; have hx3 : u9.cell? ⟨Bx, 3, none⟩ = some (.int .i64 s.f3) := (blk_cell (blk_grown HB.out.x hg (Kd.R_ne HB.out.r HB.out.x (by decide))) 3).trans rfl; have hx4 : u9.cell? ⟨Bx, 4, none⟩ = some (.int .i64 s.f4) := (blk_cell (blk_grown HB.out.x hg (Kd.R_ne HB.out.r HB.out.x (by decide))) 4).trans rfl; have hx5 : u9.cell? ⟨Bx, 5, none⟩ = some (.bool s.f5) := (blk_cell (blk_grown HB.out.x hg (Kd.R_ne HB.out.r HB.out.x (by decide))) 5).trans rfl; have hx6 : u9.cell? ⟨Bx, 6, none⟩ = some (.bool s.f6) := (blk_cell (blk_grown HB.out.x hg (Kd.R_ne HB.out.r HB.out.x (by decide))) 6).trans rfl; have ha0 : u9.cell? ⟨w.heap.size + 2, 0, none⟩ = some (.slice D0 ah.f0.length d0) := (blk_cell (blk_grown HB.out.a hg (Kd.R_ne HB.out.r HB.out.a (by decide))) 0).trans rfl; have ha1 : u9.cell? ⟨w.heap.size + 2, 1, none⟩ = some (.slice D1 ah.f1.length d1) := (blk_cell (blk_grown HB.out.a hg (Kd.R_ne HB.out.r HB.out.a (by decide))) 1).trans rfl; have ha2 : u9.cell? ⟨w.heap.size + 2, 2, none⟩ = some (.slice D2 ah.f2.length d2) := (blk_cell (blk_grown HB.out.a hg (Kd.R_ne HB.out.r HB.out.a (by decide))) 2).trans rfl; have ha3 : u9.cell? ⟨w.heap.size + 2, 3, none⟩ = some (.int .i64 ah.f3) := (blk_cell (blk_grown HB.out.a hg (Kd.R_ne HB.out.r HB.out.a (by decide))) 3).trans rfl; have ha4 : u9.cell? ⟨w.heap.size + 2, 4, none⟩ = some (.int .i64 ah.f4) := (blk_cell (blk_grown HB.out.a hg (Kd.R_ne HB.out.r HB.out.a (by decide))) 4).trans rfl; have ha5 : u9.cell? ⟨w.heap.size + 2, 5, none⟩ = some (.bool ah.f5) := (blk_cell (blk_grown HB.out.a hg (Kd.R_ne HB.out.r HB.out.a (by decide))) 5).trans rfl; have ha6 : u9.cell? ⟨w.heap.size + 2, 6, none⟩ = some (.bool ah.f6) := (blk_cell (blk_grown HB.out.a hg (Kd.R_ne HB.out.r HB.out.a (by decide))) 6).trans rfl; have fa0 := blk_frozen (blk_grown HB.out.a hg (Kd.R_ne HB.out.r HB.out.a (by decide))) 0; have fa1 := blk_frozen (blk_grown HB.out.a hg (Kd.R_ne HB.out.r HB.out.a (by decide))) 1; have fa2 := blk_frozen (blk_grown HB.out.a hg (Kd.R_ne HB.out.r HB.out.a (by decide))) 2; have fa3 := blk_frozen (blk_grown HB.out.a hg (Kd.R_ne HB.out.r HB.out.a (by decide))) 3; have fa4 := blk_frozen (blk_grown HB.out.a hg (Kd.R_ne HB.out.r HB.out.a (by decide))) 4; have fa5 := blk_frozen (blk_grown HB.out.a hg (Kd.R_ne HB.out.r HB.out.a (by decide))) 5; have fa6 := blk_frozen (blk_grown HB.out.a hg (Kd.R_ne HB.out.r HB.out.a (by decide))) 6; have hk0 : u9.cell? ⟨w.heap.size, 0, none⟩ = some (.int .i64 a1) := (blk_cell (blk_grown HB.out.k0 hg (Kd.R_ne HB.out.r HB.out.k0 (by decide))) 0).trans rfl; have ho1 : u9.cell? ⟨w.heap.size + 1, 0, none⟩ = some (.slice Av ts.length cv) := (blk_cell (blk_grown HB.out.o hg (Kd.R_ne HB.out.r HB.out.o (by decide))) 0).trans rfl; have fo1 := blk_frozen (blk_grown HB.out.o hg (Kd.R_ne HB.out.r HB.out.o (by decide))) 0; clear hb hg hat ho ht1 HB) | (gi_at_builtin; refine Rnd.R_append_in k43 (w0 := w) w.heap.size rfl (.tmp 40) (.tmp 43) 22 43 (.agg #[(.int .i64 0), (.int .i64 0), (.int .i64 0), (.int .i64 0)]) 32 rfl Try.underlying22 info43 rfl (by decide) (by omega) (.slice A_q t1.length c_q) t1 (⟨2, ah.f4, 0, 0⟩ : S43) [.int .i64 (2), .int .i64 (ah.f4), .int .i64 (0), .int .i64 (0)] (fun _ => True) (fun _ => False) rfl (by first | rfl | (simp; rfl)) (k43_mkM _ _ _ _) (fun _ hk => hk.elim) (fun _ _ => trivial) HB1.out.r HB1.out.b HB1.out.b.size ?hl ?_; (case hl => have := HLt1.out; omega); intro v4 x9 ho hb hg hat; obtain ⟨t2, ht2⟩ : ∃ z, t1 ++ [(⟨2, ah.f4, 0, 0⟩ : S43)] = z := ⟨_, rfl⟩; rw [ht2] at ho; obtain ⟨A_r, c_r, rfl⟩ := Kd.R_slice ho; have HB2 := Aside0.mk (HB1.out.push hg hb ho); have HLt2 : Aside0 (t2.length ≤ 8002 * 4000 + 2) := ⟨by rw [← ht2, List.length_append, List.length_singleton]; have := HLt1.out; omega⟩; have HEt2 := Aside0.mk ht2; clear hx0 ha0 fa0 hx1 ha1 fa1 hx2 ha2 fa2 hx3 ha3 fa3 hx4 ha4 fa4 hx5 ha5 fa5 hx6 ha6 fa6 hk0 ho1 fo1; have hx0 : x9.cell? ⟨Bx, 0, none⟩ = some (.slice B0 s.f0.length e0) := (blk_cell (blk_grown HB1.out.x hg (Kd.R_ne HB1.out.r HB1.out.x (by decide))) 0).trans rfl; have hx1 : x9.cell? ⟨Bx, 1, none⟩ = some (.slice B1 s.f1.length e1) := (blk_cell (blk_grown HB1.out.x hg (Kd.R_ne HB1.out.r HB1.out.x (by decide))) 1).trans rfl; have hx2 : x9.cell? ⟨Bx, 2, none⟩ = some (.slice B2 s.f2.length e2) := (blk_cell (blk_grown HB1.out.x hg (Kd.R_ne HB1.out.r HB1.out.x (by decide))) 2).trans rfl; have hx3 : x9.cell? ⟨Bx, 3, none⟩ = some (.int .i64 s.f3) := (blk_cell (blk_grown HB1.out.x hg (Kd.R_ne HB1.out.r HB1.out.x (by decide))) 3).trans rfl; have hx4 : x9.cell? ⟨Bx, 4, none⟩ = some (.int .i64 s.f4) := (blk_cell (blk_grown HB1.out.x hg (Kd.R_ne HB1.out.r HB1.out.x (by decide))) 4).trans rfl; have hx5 : x9.cell? ⟨Bx, 5, none⟩ = some (.bool s.f5) := (blk_cell (blk_grown HB1.out.x hg (Kd.R_ne HB1.out.r HB1.out.x (by decide))) 5).trans rfl; have hx6 : x9.cell? ⟨Bx, 6, none⟩ = some (.bool s.f6) := (blk_cell (blk_grown HB1.out.x hg (Kd.R_ne HB1.out.r HB1.out.x (by decide))) 6).trans rfl; have ha0 : x9.cell? ⟨w.heap.size + 2, 0, none⟩ = some (.slice D0 ah.f0.length d0) := (blk_cell (blk_grown HB1.out.a hg (Kd.R_ne HB1.out.r HB1.out.a (by decide))) 0).trans rfl; have ha1 : x9.cell? ⟨w.heap.size + 2, 1, none⟩ = some (.slice D1 ah.f1.length d1) := (blk_cell (blk_grown HB1.out.a hg (Kd.R_ne HB1.out.r HB1.out.a (by decide))) 1).trans rfl; have ha2 : x9.cell? ⟨w.heap.size + 2, 2, none⟩ = some (.slice D2 ah.f2.length d2) := (blk_cell (blk_grown HB1.out.a hg (Kd.R_ne HB1.out.r HB1.out.a (by decide))) 2).trans rfl; have ha3 : x9.cell? ⟨w.heap.size + 2, 3, none⟩ = some (.int .i64 ah.f3) := (blk_cell (blk_grown HB1.out.a hg (Kd.R_ne HB1.out.r HB1.out.a (by decide))) 3).trans rfl; have ha4 : x9.cell? ⟨w.heap.size + 2, 4, none⟩ = some (.int .i64 ah.f4) := (blk_cell (blk_grown HB1.out.a hg (Kd.R_ne HB1.out.r HB1.out.a (by decide))) 4).trans rfl; have ha5 : x9.cell? ⟨w.heap.size + 2, 5, none⟩ = some (.bool ah.f5) := (blk_cell (blk_grown HB1.out.a hg (Kd.R_ne HB1.out.r HB1.out.a (by decide))) 5).trans rfl; have ha6 : x9.cell? ⟨w.heap.size + 2, 6, none⟩ = some (.bool ah.f6) := (blk_cell (blk_grown HB1.out.a hg (Kd.R_ne HB1.out.r HB1.out.a (by decide))) 6).trans rfl; have fa0 := blk_frozen (blk_grown HB1.out.a hg (Kd.R_ne HB1.out.r HB1.out.a (by decide))) 0; have fa1 := blk_frozen (blk_grown HB1.out.a hg (Kd.R_ne HB1.out.r HB1.out.a (by decide))) 1; have fa2 := blk_frozen (blk_grown HB1.out.a hg (Kd.R_ne HB1.out.r HB1.out.a (by decide))) 2; have fa3 := blk_frozen (blk_grown HB1.out.a hg (Kd.R_ne HB1.out.r HB1.out.a (by decide))) 3; have fa4 := blk_frozen (blk_grown HB1.out.a hg (Kd.R_ne HB1.out.r HB1.out.a (by decide))) 4; have fa5 := blk_frozen (blk_grown HB1.out.a hg (Kd.R_ne HB1.out.r HB1.out.a (by decide))) 5; have fa6 := blk_frozen (blk_grown HB1.out.a hg (Kd.R_ne HB1.out.r HB1.out.a (by decide))) 6; have hk0 : x9.cell? ⟨w.heap.size, 0, none⟩ = some (.int .i64 a1) := (blk_cell (blk_grown HB1.out.k0 hg (Kd.R_ne HB1.out.r HB1.out.k0 (by decide))) 0).trans rfl; have ho1 : x9.cell? ⟨w.heap.size + 1, 0, none⟩ = some (.slice A_q t1.length c_q) := (blk_cell (blk_grown HB1.out.o hg (Kd.R_ne HB1.out.r HB1.out.o (by decide))) 0).trans rfl; have fo1 := blk_frozen (blk_grown HB1.out.o hg (Kd.R_ne HB1.out.r HB1.out.o (by decide))) 0; clear hb hg hat ho ht2 HB1))
              obtain ⟨Tf, hTf⟩ : ∃ z, t2 ++ pages_Flow.itm s s.f0 0 = z := ⟨_, rfl⟩
              have HTf := Aside0.mk hTf
              clear hTf
              gi_loopw [48] (fun i wr => ∃ (k : Nat) (Aq : Option Addr) (cq : Nat) (q : List S43), k ≤ s.f0.length ∧ i = .int .i64 (k : Int) ∧ Aside0 (pages_Flow.Bd w W wr a1 Bx [.slice B0 s.f0.length e0, .slice B1 s.f1.length e1, .slice B2 s.f2.length e2, .int .i64 s.f3, .int .i64 s.f4, .bool s.f5, .bool s.f6] [.slice D0 ah.f0.length d0, .slice D1 ah.f1.length d1, .slice D2 ah.f2.length d2, .int .i64 ah.f3, .int .i64 ah.f4, .bool ah.f5, .bool ah.f6] (.slice Aq q.length cq) q) ∧ Aside0 (q ++ pages_Flow.itm s (s.f0.drop k) k = Tf) ∧ Aside0 (q.length ≤ 8002 * 4000 + 3 + 2 * k))
                (fun i _ => s.f0.length - (intOf i).toNat)
              case atStart => exact ⟨0, _, _, t2, Nat.zero_le _, rfl, HB2, ⟨by rw [List.drop_zero]; exact HTf.out⟩, ⟨by have := HLt2.out; omega⟩⟩
              case round =>
                clear HB2 HLt2
                obtain ⟨k, Aq, cq, q, hk, rfl, HBq, HQ, HLq⟩ := hrel
                by_cases hlt : k < s.f0.length
                · have hb4 := HBG.out
                  have kc1 : ((k : Int) < (s.f0.length : Int)) = True := eq_true (by omega)
                  have kc2 : (k < s.f0.length) = True := eq_true hlt
                  have kc3 : ((0 : Int) ≤ (k : Int)) = True := eq_true (by omega)
                  have kc6 : IntKind.i64.wrap ((k : Int) + 1) = (k : Int) + 1 := by rw [IntKind.wrap_i64]; omega
                  have kc7 : IntKind.i64.wrap ((k : Int) - 1) = (k : Int) - 1 := by rw [IntKind.wrap_i64]; omega
                  have hq := HQ.out
                  rw [pages_Flow.dropI hlt, pages_Flow.itm] at hq
                  have HQ2 := Aside0.mk hq
                  clear hq HQ
                  obtain ⟨ad, e0_, y0⟩ := Kd.at_int HG0.out.2 (k : Int) (by omega) (by omega)
                  simp only [Int.toNat_natCast] at y0
                  replace y0 := (HBq.out.b.cell (World.block_lt_of_cell? w _ y0)).trans y0
                  by_cases hk0 : k = 0
                  · have kg : ((0 : Int) < (k : Int)) = False := eq_false (by omega)
                    have kg2 : (0 < k) = False := eq_false (by omega)
                    have HK0 := Aside0.mk hk0
                    clear hk0
                    gi_wp2
                    have m0_ := Aside0.mk (HBq.out.drew)
                    clear HBq
                    have HBq := m0_
                    clear m0_
                    refine Rnd.start_in (m := 10) (S := fun w' => w'.cell? ⟨w.heap.size + 1, 0, none⟩ = some (.slice Aq q.length cq) ∧ w'.cell? ⟨Bx, 1, none⟩ = some (.slice B1 s.f1.length e1)) (ds := [9]) #[false, false, false, false, false, false, false, false, false, false] (by kernel_rfl) rfl rfl (by kernel_rfl) (fun ⟨_, _, h_⟩ => h_) ⟨(blk_cell HBq.out.o 0).trans rfl, (blk_cell HBq.out.x 1).trans rfl⟩ (fun hHeld => ?_)
                    generalize wr.drew = z2 at HBq hHeld ⊢
                    refine take_ (i := 0) (N := some 64) (v := ?_) (a' := ?_) #[true, false, false, false, false, false, false, false, false, false] rfl rfl (by kernel_rfl) (fun _ _ _ h => h) (Or.inl ⟨by rfl, ?_⟩) hHeld ?_ ?_
                    rotate_left
                    · rintro w' ⟨s0, s1⟩
                      go_simp
                      with_reducible rfl
                    rotate_left
                    · simp only [Act.put, List.setIfInBounds_toArray, List.set_cons_zero, List.set_cons_succ, i64_w, i32_w]
                      rfl
                    refine pure_ (i := 1) (N := some 65) (v := ?_) (a' := ?_) #[true, true, false, false, false, false, false, false, false, false] rfl rfl (by kernel_rfl) (fun _ _ _ h => h) (Or.inl ⟨by rfl, ?_⟩) ?_ ?_
                    rotate_left
                    · intro w'
                      go_simp
                      with_reducible rfl
                    rotate_left
                    · simp only [Act.put, List.setIfInBounds_toArray, List.set_cons_zero, List.set_cons_succ, i64_w, i32_w]
                      rfl
                    refine pure_ (i := 2) (N := some 66) (v := ?_) (a' := ?_) #[true, true, true, false, false, false, false, false, false, false] rfl rfl (by kernel_rfl) (fun _ _ _ h => h) (Or.inl ⟨by rfl, ?_⟩) ?_ ?_
                    rotate_left
                    · intro w'
                      go_simp
                      with_reducible rfl
                    rotate_left
                    · simp only [Act.put, List.setIfInBounds_toArray, List.set_cons_zero, List.set_cons_succ, i64_w, i32_w]
                      rfl
                    refine take_ (i := 3) (N := some 67) (v := ?_) (a' := ?_) #[true, true, true, true, false, false, false, false, false, false] rfl rfl (by kernel_rfl) (fun _ _ _ h => h) (Or.inl ⟨by rfl, ?_⟩) hHeld ?_ ?_
                    rotate_left
                    · rintro w' ⟨s0, s1⟩
                      go_simp
                      with_reducible rfl
                    rotate_left
                    · simp only [Act.put, List.setIfInBounds_toArray, List.set_cons_zero, List.set_cons_succ, i64_w, i32_w]
                      rfl
                    refine pure_ (i := 4) (N := some 68) (v := ?_) (a' := ?_) #[true, true, true, true, true, false, false, false, false, false] rfl rfl (by kernel_rfl) (fun _ _ _ h => h) (Or.inl ⟨by rfl, ?_⟩) ?_ ?_
                    rotate_left
                    · intro w'
                      go_simp
                      with_reducible rfl
                    rotate_left
                    · simp only [Act.put, List.setIfInBounds_toArray, List.set_cons_zero, List.set_cons_succ, i64_w, i32_w]
                      rfl
                    refine one_ (i := 5) (N := some 69) #[true, true, true, true, true, true, false, false, false, false] rfl rfl (by kernel_rfl) (by decide) (fun K hK => ?_)
                    refine goes_ Try.func50 (by kernel_rfl) rfl #[.slice B1 s.f1.length e1, .int .i64 ((k : Int))] (by rfl) rfl rfl (by (try simp only [List.map_toArray, List.map_cons, List.map_nil]); first | done | rfl) ?_
                    with_reducible refine (pages_at.calls _ _ _ ((k : Int)) _ _ (Kd.C_below HG1.out.2 HBq.out.b) HG1.out.1 (pages_Flow.at_eq _ _ (by omega))).mono ?_
                    rintro e z3 ⟨rfl, hd⟩
                    refine ⟨_, rfl, ?_⟩
                    have m0_ := Aside0.mk (HBq.out.drawn hd)
                    clear HBq hd
                    have HBq := m0_
                    clear m0_
                    refine hK.out _ _ ⟨(blk_cell HBq.out.o 0).trans rfl, (blk_cell HBq.out.x 1).trans rfl⟩ (fun hHeld => ?_)
                    clear hK K
                    refine norm_ (a' := ?_) ?_ ?_
                    rotate_left
                    · show Act.put _ (some 69) _ = _
                      simp only [Act.put, List.setIfInBounds_toArray, List.set_cons_zero, List.set_cons_succ, i64_w, i32_w]
                      rfl
                    refine pure_ (i := 6) (N := some 70) (v := ?_) (a' := ?_) #[true, true, true, true, true, true, true, false, false, false] rfl rfl (by kernel_rfl) (fun _ _ _ h => h) (Or.inl ⟨by rfl, ?_⟩) ?_ ?_
                    rotate_left
                    · intro w'
                      go_simp
                      with_reducible rfl
                    rotate_left
                    · simp only [Act.put, List.setIfInBounds_toArray, List.set_cons_zero, List.set_cons_succ, i64_w, i32_w]
                      rfl
                    refine one_ (i := 7) (N := some 71) #[true, true, true, true, true, true, true, true, false, false] rfl rfl (by kernel_rfl) (by decide) (fun K hK => ?_)
                    refine value_ (w1 := ?_) (v := ?_) (by rfl) rfl ?_ ?_
                    rotate_left 2
                    · go_simp
                      constructor
                      · rfl
                      · rfl
                    refine hK.out _ _ ⟨(blk_cell (blk_alloc HBq.out.o _) 0).trans rfl, (blk_cell (blk_alloc HBq.out.x _) 1).trans rfl⟩ (fun hHeld => ?_)
                    clear hK K
                    refine norm_ (a' := ?_) ?_ ?_
                    rotate_left
                    · show Act.put _ (some 71) _ = _
                      simp only [Act.put, List.setIfInBounds_toArray, List.set_cons_zero, List.set_cons_succ, i64_w, i32_w]
                      rfl
                    refine one_ (i := 8) (N := some 72) #[true, true, true, true, true, true, true, true, true, false] rfl rfl (by kernel_rfl) (by decide) (fun K hK => ?_)
                    refine Kd.R_append_step k43 (w0 := w) w.heap.size (by rfl) (.tmp 64) (.tmp 71) 22 43 (.agg #[(.int .i64 0), (.int .i64 0), (.int .i64 0), (.int .i64 0)]) 32 rfl Try.underlying22 info43 rfl (by decide) (by omega) (.slice Aq q.length cq) q (⟨1, (rd s.f0 (k : Int)), pages_Flow.atT s.f1 (k : Int), 0⟩ : S43) [.int .i64 (1), .int .i64 ((rd s.f0 (k : Int))), .int .i64 (pages_Flow.atT s.f1 (k : Int)), .int .i64 (0)] (fun _ => True) (fun _ => False) rfl rfl (k43_mkM _ _ _ _) (fun _ hk => hk.elim) (fun _ _ => trivial) HBq.out.r HBq.out.b HBq.out.b.size ?hl ?_
                    case hl => have := HLq.out; omega
                    intro v4 z4 ho hb hg hat
                    obtain ⟨t3, ht3⟩ : ∃ z, q ++ [(⟨1, (rd s.f0 (k : Int)), pages_Flow.atT s.f1 (k : Int), 0⟩ : S43)] = z := ⟨_, rfl⟩
                    rw [ht3] at ho
                    obtain ⟨A_t3, c_t3, rfl⟩ := Kd.R_slice ho
                    have HBz := Aside0.mk (HBq.out.push hg hb ho)
                    have HLt3 : Aside0 (t3.length ≤ 8002 * 4000 + 3 + (2 * k + 1)) := ⟨by rw [← ht3, List.length_append, List.length_singleton]; have := HLq.out; omega⟩
                    have HEt3 := Aside0.mk ht3
                    have PO := Aside0.mk (blk_grown HBq.out.o hg (Kd.R_ne HBq.out.r HBq.out.o (by decide)))
                    have PX := Aside0.mk (blk_grown HBq.out.x hg (Kd.R_ne HBq.out.r HBq.out.x (by decide)))
                    clear hb hg hat ho ht3 HBq
                    refine hK.out _ _ ⟨(blk_cell PO.out 0).trans rfl, (blk_cell PX.out 1).trans rfl⟩ (fun hHeld => ?_)
                    clear hK K
                    refine norm_ (a' := ?_) ?_ ?_
                    rotate_left
                    · show Act.put _ (some 72) _ = _
                      simp only [Act.put, List.setIfInBounds_toArray, List.set_cons_zero, List.set_cons_succ, i64_w, i32_w]
                      rfl
                    refine last_ (i := 9) (N := none) #[true, true, true, true, true, true, true, true, true, true] rfl rfl (by kernel_rfl) (by decide) (fun K hK => ?_)
                    have hs_ : z4.cell? ⟨w.heap.size + 1, 0, none⟩ = some (.slice Aq q.length cq) := (blk_cell PO.out 0).trans rfl
                    have hf_ := blk_frozen PO.out 0
                    refine skip_ (w1 := ?_) (by rfl) rfl ?_ ?_
                    rotate_left
                    · go_simp
                      rfl
                    refine hK.out _ _ ?_
                    clear hK K
                    refine done_ (by kernel_rfl) ?_
                    clear PO PX
                    obtain ⟨t3_w, ew⟩ : ∃ z, z4.setCell ⟨w.heap.size + 1, 0, none⟩ (.slice A_t3 t3.length c_t3) = z := ⟨_, rfl⟩
                    rw [ew] at HBz
                    rw [ew]
                    clear ew
                    gi_wp2
                    go_roundw
                    case rel => exact ⟨k + 1, _, _, t3, by omega, by simp, HBz, ⟨by have := HQ2.out; rw [if_pos HK0.out, List.nil_append] at this; rw [← HEt3.out, List.append_assoc]; exact this⟩, ⟨by have := HLt3.out; omega⟩⟩
                    case measure => (try simp [intOf]); omega
                  · have kg : ((0 : Int) < (k : Int)) = True := eq_true (by omega)
                    have kg2 : (0 < k) = True := eq_true (by omega)
                    have HK0 := Aside0.mk hk0
                    clear hk0
                    gi_wp2
                    have m0_ := Aside0.mk (HBq.out.drew)
                    clear HBq
                    have HBq := m0_
                    clear m0_
                    refine Rnd.start_in (m := 10) (S := fun w' => w'.cell? ⟨w.heap.size + 1, 0, none⟩ = some (.slice Aq q.length cq) ∧ w'.cell? ⟨Bx, 2, none⟩ = some (.slice B2 s.f2.length e2)) (ds := [9]) #[false, false, false, false, false, false, false, false, false, false] (by kernel_rfl) rfl rfl (by kernel_rfl) (fun ⟨_, _, h_⟩ => h_) ⟨(blk_cell HBq.out.o 0).trans rfl, (blk_cell HBq.out.x 2).trans rfl⟩ (fun hHeld => ?_)
                    generalize wr.drew = z2 at HBq hHeld ⊢
                    refine take_ (i := 0) (N := some 55) (v := ?_) (a' := ?_) #[true, false, false, false, false, false, false, false, false, false] rfl rfl (by kernel_rfl) (fun _ _ _ h => h) (Or.inl ⟨by rfl, ?_⟩) hHeld ?_ ?_
                    rotate_left
                    · rintro w' ⟨s0, s1⟩
                      go_simp
                      with_reducible rfl
                    rotate_left
                    · simp only [Act.put, List.setIfInBounds_toArray, List.set_cons_zero, List.set_cons_succ, i64_w, i32_w]
                      rfl
                    refine pure_ (i := 1) (N := some 56) (v := ?_) (a' := ?_) #[true, true, false, false, false, false, false, false, false, false] rfl rfl (by kernel_rfl) (fun _ _ _ h => h) (Or.inl ⟨by rfl, ?_⟩) ?_ ?_
                    rotate_left
                    · intro w'
                      go_simp
                      with_reducible rfl
                    rotate_left
                    · simp only [Act.put, List.setIfInBounds_toArray, List.set_cons_zero, List.set_cons_succ, i64_w, i32_w]
                      rfl
                    refine take_ (i := 2) (N := some 57) (v := ?_) (a' := ?_) #[true, true, true, false, false, false, false, false, false, false] rfl rfl (by kernel_rfl) (fun _ _ _ h => h) (Or.inl ⟨by rfl, ?_⟩) hHeld ?_ ?_
                    rotate_left
                    · rintro w' ⟨s0, s1⟩
                      go_simp
                      with_reducible rfl
                    rotate_left
                    · simp only [Act.put, List.setIfInBounds_toArray, List.set_cons_zero, List.set_cons_succ, i64_w, i32_w]
                      rfl
                    refine pure_ (i := 3) (N := some 58) (v := ?_) (a' := ?_) #[true, true, true, true, false, false, false, false, false, false] rfl rfl (by kernel_rfl) (fun _ _ _ h => h) (Or.inl ⟨by rfl, ?_⟩) ?_ ?_
                    rotate_left
                    · intro w'
                      go_simp
                      with_reducible rfl
                    rotate_left
                    · simp only [Act.put, List.setIfInBounds_toArray, List.set_cons_zero, List.set_cons_succ, i64_w, i32_w]
                      rfl
                    refine pure_ (i := 4) (N := some 59) (v := ?_) (a' := ?_) #[true, true, true, true, true, false, false, false, false, false] rfl rfl (by kernel_rfl) (fun _ _ _ h => h) (Or.inl ⟨by rfl, ?_⟩) ?_ ?_
                    rotate_left
                    · intro w'
                      go_simp
                      with_reducible rfl
                    rotate_left
                    · simp only [Act.put, List.setIfInBounds_toArray, List.set_cons_zero, List.set_cons_succ, i64_w, i32_w]
                      rfl
                    refine one_ (i := 5) (N := some 60) #[true, true, true, true, true, true, false, false, false, false] rfl rfl (by kernel_rfl) (by decide) (fun K hK => ?_)
                    refine goes_ Try.func50 (by kernel_rfl) rfl #[.slice B2 s.f2.length e2, .int .i64 ((k : Int) - 1)] (by rfl) rfl rfl (by (try simp only [List.map_toArray, List.map_cons, List.map_nil]); first | done | rfl) ?_
                    with_reducible refine (pages_at.calls _ _ _ ((k : Int) - 1) _ _ (Kd.C_below HG2.out.2 HBq.out.b) HG2.out.1 (pages_Flow.at_eq _ _ (by have := HK0.out; omega))).mono ?_
                    rintro e z3 ⟨rfl, hd⟩
                    refine ⟨_, rfl, ?_⟩
                    have m0_ := Aside0.mk (HBq.out.drawn hd)
                    clear HBq hd
                    have HBq := m0_
                    clear m0_
                    refine hK.out _ _ ⟨(blk_cell HBq.out.o 0).trans rfl, (blk_cell HBq.out.x 2).trans rfl⟩ (fun hHeld => ?_)
                    clear hK K
                    refine norm_ (a' := ?_) ?_ ?_
                    rotate_left
                    · show Act.put _ (some 60) _ = _
                      simp only [Act.put, List.setIfInBounds_toArray, List.set_cons_zero, List.set_cons_succ, i64_w, i32_w]
                      rfl
                    refine pure_ (i := 6) (N := some 61) (v := ?_) (a' := ?_) #[true, true, true, true, true, true, true, false, false, false] rfl rfl (by kernel_rfl) (fun _ _ _ h => h) (Or.inl ⟨by rfl, ?_⟩) ?_ ?_
                    rotate_left
                    · intro w'
                      go_simp
                      with_reducible rfl
                    rotate_left
                    · simp only [Act.put, List.setIfInBounds_toArray, List.set_cons_zero, List.set_cons_succ, i64_w, i32_w]
                      rfl
                    refine one_ (i := 7) (N := some 62) #[true, true, true, true, true, true, true, true, false, false] rfl rfl (by kernel_rfl) (by decide) (fun K hK => ?_)
                    refine value_ (w1 := ?_) (v := ?_) (by rfl) rfl ?_ ?_
                    rotate_left 2
                    · go_simp
                      constructor
                      · rfl
                      · rfl
                    refine hK.out _ _ ⟨(blk_cell (blk_alloc HBq.out.o _) 0).trans rfl, (blk_cell (blk_alloc HBq.out.x _) 2).trans rfl⟩ (fun hHeld => ?_)
                    clear hK K
                    refine norm_ (a' := ?_) ?_ ?_
                    rotate_left
                    · show Act.put _ (some 62) _ = _
                      simp only [Act.put, List.setIfInBounds_toArray, List.set_cons_zero, List.set_cons_succ, i64_w, i32_w]
                      rfl
                    refine one_ (i := 8) (N := some 63) #[true, true, true, true, true, true, true, true, true, false] rfl rfl (by kernel_rfl) (by decide) (fun K hK => ?_)
                    refine Kd.R_append_step k43 (w0 := w) w.heap.size (by rfl) (.tmp 55) (.tmp 62) 22 43 (.agg #[(.int .i64 0), (.int .i64 0), (.int .i64 0), (.int .i64 0)]) 32 rfl Try.underlying22 info43 rfl (by decide) (by omega) (.slice Aq q.length cq) q (⟨3, 0, 0, pages_Flow.atT s.f2 ((k : Int) - 1)⟩ : S43) [.int .i64 (3), .int .i64 (0), .int .i64 (0), .int .i64 (pages_Flow.atT s.f2 ((k : Int) - 1))] (fun _ => True) (fun _ => False) rfl rfl (k43_mkM _ _ _ _) (fun _ hk => hk.elim) (fun _ _ => trivial) HBq.out.r HBq.out.b HBq.out.b.size ?hl ?_
                    case hl => have := HLq.out; omega
                    intro v4 z4 ho hb hg hat
                    obtain ⟨ta, hta⟩ : ∃ z, q ++ [(⟨3, 0, 0, pages_Flow.atT s.f2 ((k : Int) - 1)⟩ : S43)] = z := ⟨_, rfl⟩
                    rw [hta] at ho
                    obtain ⟨A_ta, c_ta, rfl⟩ := Kd.R_slice ho
                    have HBy := Aside0.mk (HBq.out.push hg hb ho)
                    have HLta : Aside0 (ta.length ≤ 8002 * 4000 + 3 + (2 * k + 1)) := ⟨by rw [← hta, List.length_append, List.length_singleton]; have := HLq.out; omega⟩
                    have HEta := Aside0.mk hta
                    have PO := Aside0.mk (blk_grown HBq.out.o hg (Kd.R_ne HBq.out.r HBq.out.o (by decide)))
                    have PX := Aside0.mk (blk_grown HBq.out.x hg (Kd.R_ne HBq.out.r HBq.out.x (by decide)))
                    clear hb hg hat ho hta HBq
                    refine hK.out _ _ ⟨(blk_cell PO.out 0).trans rfl, (blk_cell PX.out 2).trans rfl⟩ (fun hHeld => ?_)
                    clear hK K
                    refine norm_ (a' := ?_) ?_ ?_
                    rotate_left
                    · show Act.put _ (some 63) _ = _
                      simp only [Act.put, List.setIfInBounds_toArray, List.set_cons_zero, List.set_cons_succ, i64_w, i32_w]
                      rfl
                    refine last_ (i := 9) (N := none) #[true, true, true, true, true, true, true, true, true, true] rfl rfl (by kernel_rfl) (by decide) (fun K hK => ?_)
                    have hs_ : z4.cell? ⟨w.heap.size + 1, 0, none⟩ = some (.slice Aq q.length cq) := (blk_cell PO.out 0).trans rfl
                    have hf_ := blk_frozen PO.out 0
                    refine skip_ (w1 := ?_) (by rfl) rfl ?_ ?_
                    rotate_left
                    · go_simp
                      rfl
                    refine hK.out _ _ ?_
                    clear hK K
                    refine done_ (by kernel_rfl) ?_
                    clear PO PX
                    obtain ⟨ta_w, ew⟩ : ∃ z, z4.setCell ⟨w.heap.size + 1, 0, none⟩ (.slice A_ta ta.length c_ta) = z := ⟨_, rfl⟩
                    rw [ew] at HBy
                    rw [ew]
                    clear ew
                    gi_wp2
                    have m0_ := Aside0.mk (HBy.out.drew)
                    clear HBy
                    have HBy := m0_
                    clear m0_
                    refine Rnd.start_in (m := 10) (S := fun w' => w'.cell? ⟨w.heap.size + 1, 0, none⟩ = some (.slice A_ta ta.length c_ta) ∧ w'.cell? ⟨Bx, 1, none⟩ = some (.slice B1 s.f1.length e1)) (ds := [9]) #[false, false, false, false, false, false, false, false, false, false] (by kernel_rfl) rfl rfl (by kernel_rfl) (fun ⟨_, _, h_⟩ => h_) ⟨(blk_cell HBy.out.o 0).trans rfl, (blk_cell HBy.out.x 1).trans rfl⟩ (fun hHeld => ?_)
                    generalize ta_w.drew = z2 at HBy hHeld ⊢
                    refine take_ (i := 0) (N := some 64) (v := ?_) (a' := ?_) #[true, false, false, false, false, false, false, false, false, false] rfl rfl (by kernel_rfl) (fun _ _ _ h => h) (Or.inl ⟨by rfl, ?_⟩) hHeld ?_ ?_
                    rotate_left
                    · rintro w' ⟨s0, s1⟩
                      go_simp
                      with_reducible rfl
                    rotate_left
                    · simp only [Act.put, List.setIfInBounds_toArray, List.set_cons_zero, List.set_cons_succ, i64_w, i32_w]
                      rfl
                    refine pure_ (i := 1) (N := some 65) (v := ?_) (a' := ?_) #[true, true, false, false, false, false, false, false, false, false] rfl rfl (by kernel_rfl) (fun _ _ _ h => h) (Or.inl ⟨by rfl, ?_⟩) ?_ ?_
                    rotate_left
                    · intro w'
                      go_simp
                      with_reducible rfl
                    rotate_left
                    · simp only [Act.put, List.setIfInBounds_toArray, List.set_cons_zero, List.set_cons_succ, i64_w, i32_w]
                      rfl
                    refine pure_ (i := 2) (N := some 66) (v := ?_) (a' := ?_) #[true, true, true, false, false, false, false, false, false, false] rfl rfl (by kernel_rfl) (fun _ _ _ h => h) (Or.inl ⟨by rfl, ?_⟩) ?_ ?_
                    rotate_left
                    · intro w'
                      go_simp
                      with_reducible rfl
                    rotate_left
                    · simp only [Act.put, List.setIfInBounds_toArray, List.set_cons_zero, List.set_cons_succ, i64_w, i32_w]
                      rfl
                    refine take_ (i := 3) (N := some 67) (v := ?_) (a' := ?_) #[true, true, true, true, false, false, false, false, false, false] rfl rfl (by kernel_rfl) (fun _ _ _ h => h) (Or.inl ⟨by rfl, ?_⟩) hHeld ?_ ?_
                    rotate_left
                    · rintro w' ⟨s0, s1⟩
                      go_simp
                      with_reducible rfl
                    rotate_left
                    · simp only [Act.put, List.setIfInBounds_toArray, List.set_cons_zero, List.set_cons_succ, i64_w, i32_w]
                      rfl
                    refine pure_ (i := 4) (N := some 68) (v := ?_) (a' := ?_) #[true, true, true, true, true, false, false, false, false, false] rfl rfl (by kernel_rfl) (fun _ _ _ h => h) (Or.inl ⟨by rfl, ?_⟩) ?_ ?_
                    rotate_left
                    · intro w'
                      go_simp
                      with_reducible rfl
                    rotate_left
                    · simp only [Act.put, List.setIfInBounds_toArray, List.set_cons_zero, List.set_cons_succ, i64_w, i32_w]
                      rfl
                    refine one_ (i := 5) (N := some 69) #[true, true, true, true, true, true, false, false, false, false] rfl rfl (by kernel_rfl) (by decide) (fun K hK => ?_)
                    refine goes_ Try.func50 (by kernel_rfl) rfl #[.slice B1 s.f1.length e1, .int .i64 ((k : Int))] (by rfl) rfl rfl (by (try simp only [List.map_toArray, List.map_cons, List.map_nil]); first | done | rfl) ?_
                    with_reducible refine (pages_at.calls _ _ _ ((k : Int)) _ _ (Kd.C_below HG1.out.2 HBy.out.b) HG1.out.1 (pages_Flow.at_eq _ _ (by omega))).mono ?_
                    rintro e z3 ⟨rfl, hd⟩
                    refine ⟨_, rfl, ?_⟩
                    have m0_ := Aside0.mk (HBy.out.drawn hd)
                    clear HBy hd
                    have HBy := m0_
                    clear m0_
                    refine hK.out _ _ ⟨(blk_cell HBy.out.o 0).trans rfl, (blk_cell HBy.out.x 1).trans rfl⟩ (fun hHeld => ?_)
                    clear hK K
                    refine norm_ (a' := ?_) ?_ ?_
                    rotate_left
                    · show Act.put _ (some 69) _ = _
                      simp only [Act.put, List.setIfInBounds_toArray, List.set_cons_zero, List.set_cons_succ, i64_w, i32_w]
                      rfl
                    refine pure_ (i := 6) (N := some 70) (v := ?_) (a' := ?_) #[true, true, true, true, true, true, true, false, false, false] rfl rfl (by kernel_rfl) (fun _ _ _ h => h) (Or.inl ⟨by rfl, ?_⟩) ?_ ?_
                    rotate_left
                    · intro w'
                      go_simp
                      with_reducible rfl
                    rotate_left
                    · simp only [Act.put, List.setIfInBounds_toArray, List.set_cons_zero, List.set_cons_succ, i64_w, i32_w]
                      rfl
                    refine one_ (i := 7) (N := some 71) #[true, true, true, true, true, true, true, true, false, false] rfl rfl (by kernel_rfl) (by decide) (fun K hK => ?_)
                    refine value_ (w1 := ?_) (v := ?_) (by rfl) rfl ?_ ?_
                    rotate_left 2
                    · go_simp
                      constructor
                      · rfl
                      · rfl
                    refine hK.out _ _ ⟨(blk_cell (blk_alloc HBy.out.o _) 0).trans rfl, (blk_cell (blk_alloc HBy.out.x _) 1).trans rfl⟩ (fun hHeld => ?_)
                    clear hK K
                    refine norm_ (a' := ?_) ?_ ?_
                    rotate_left
                    · show Act.put _ (some 71) _ = _
                      simp only [Act.put, List.setIfInBounds_toArray, List.set_cons_zero, List.set_cons_succ, i64_w, i32_w]
                      rfl
                    refine one_ (i := 8) (N := some 72) #[true, true, true, true, true, true, true, true, true, false] rfl rfl (by kernel_rfl) (by decide) (fun K hK => ?_)
                    refine Kd.R_append_step k43 (w0 := w) w.heap.size (by rfl) (.tmp 64) (.tmp 71) 22 43 (.agg #[(.int .i64 0), (.int .i64 0), (.int .i64 0), (.int .i64 0)]) 32 rfl Try.underlying22 info43 rfl (by decide) (by omega) (.slice A_ta ta.length c_ta) ta (⟨1, (rd s.f0 (k : Int)), pages_Flow.atT s.f1 (k : Int), 0⟩ : S43) [.int .i64 (1), .int .i64 ((rd s.f0 (k : Int))), .int .i64 (pages_Flow.atT s.f1 (k : Int)), .int .i64 (0)] (fun _ => True) (fun _ => False) rfl rfl (k43_mkM _ _ _ _) (fun _ hk => hk.elim) (fun _ _ => trivial) HBy.out.r HBy.out.b HBy.out.b.size ?hl ?_
                    case hl => have := HLta.out; omega
                    intro v4 z4 ho hb hg hat
                    obtain ⟨t3, ht3⟩ : ∃ z, ta ++ [(⟨1, (rd s.f0 (k : Int)), pages_Flow.atT s.f1 (k : Int), 0⟩ : S43)] = z := ⟨_, rfl⟩
                    rw [ht3] at ho
                    obtain ⟨A_t3, c_t3, rfl⟩ := Kd.R_slice ho
                    have HBz := Aside0.mk (HBy.out.push hg hb ho)
                    have HLt3 : Aside0 (t3.length ≤ 8002 * 4000 + 3 + (2 * k + 2)) := ⟨by rw [← ht3, List.length_append, List.length_singleton]; have := HLta.out; omega⟩
                    have HEt3 := Aside0.mk ht3
                    have PO := Aside0.mk (blk_grown HBy.out.o hg (Kd.R_ne HBy.out.r HBy.out.o (by decide)))
                    have PX := Aside0.mk (blk_grown HBy.out.x hg (Kd.R_ne HBy.out.r HBy.out.x (by decide)))
                    clear hb hg hat ho ht3 HBy
                    refine hK.out _ _ ⟨(blk_cell PO.out 0).trans rfl, (blk_cell PX.out 1).trans rfl⟩ (fun hHeld => ?_)
                    clear hK K
                    refine norm_ (a' := ?_) ?_ ?_
                    rotate_left
                    · show Act.put _ (some 72) _ = _
                      simp only [Act.put, List.setIfInBounds_toArray, List.set_cons_zero, List.set_cons_succ, i64_w, i32_w]
                      rfl
                    refine last_ (i := 9) (N := none) #[true, true, true, true, true, true, true, true, true, true] rfl rfl (by kernel_rfl) (by decide) (fun K hK => ?_)
                    have hs_ : z4.cell? ⟨w.heap.size + 1, 0, none⟩ = some (.slice A_ta ta.length c_ta) := (blk_cell PO.out 0).trans rfl
                    have hf_ := blk_frozen PO.out 0
                    refine skip_ (w1 := ?_) (by rfl) rfl ?_ ?_
                    rotate_left
                    · go_simp
                      rfl
                    refine hK.out _ _ ?_
                    clear hK K
                    refine done_ (by kernel_rfl) ?_
                    clear PO PX
                    obtain ⟨t3_w, ew⟩ : ∃ z, z4.setCell ⟨w.heap.size + 1, 0, none⟩ (.slice A_t3 t3.length c_t3) = z := ⟨_, rfl⟩
                    rw [ew] at HBz
                    rw [ew]
                    clear ew
                    gi_wp2
                    go_roundw
                    case rel => exact ⟨k + 1, _, _, t3, by omega, by simp, HBz, ⟨by have := HQ2.out; rw [if_neg HK0.out] at this; rw [← HEt3.out, ← HEta.out, List.append_assoc, List.append_assoc]; exact this⟩, ⟨by have := HLt3.out; omega⟩⟩
                    case measure => (try simp [intOf]); omega
                · obtain rfl : k = s.f0.length := by omega
                  have kc1 : ((s.f0.length : Int) < (s.f0.length : Int)) = False := eq_false (by omega)
                  have kc2 : (s.f0.length < s.f0.length) = False := eq_false (by omega)
                  have hq : q = Tf := by have := HQ.out; rw [List.drop_eq_nil_of_le (Nat.le_refl _), pages_Flow.itm, List.append_nil] at this; exact this
                  clear HQ
                  have hx0 : wr.cell? ⟨Bx, 0, none⟩ = some (.slice B0 s.f0.length e0) := (blk_cell HBq.out.x 0).trans rfl
                  have hx1 : wr.cell? ⟨Bx, 1, none⟩ = some (.slice B1 s.f1.length e1) := (blk_cell HBq.out.x 1).trans rfl
                  have hx2 : wr.cell? ⟨Bx, 2, none⟩ = some (.slice B2 s.f2.length e2) := (blk_cell HBq.out.x 2).trans rfl
                  have hx3 : wr.cell? ⟨Bx, 3, none⟩ = some (.int .i64 s.f3) := (blk_cell HBq.out.x 3).trans rfl
                  have hx4 : wr.cell? ⟨Bx, 4, none⟩ = some (.int .i64 s.f4) := (blk_cell HBq.out.x 4).trans rfl
                  have hx5 : wr.cell? ⟨Bx, 5, none⟩ = some (.bool s.f5) := (blk_cell HBq.out.x 5).trans rfl
                  have hx6 : wr.cell? ⟨Bx, 6, none⟩ = some (.bool s.f6) := (blk_cell HBq.out.x 6).trans rfl
                  have ha0 : wr.cell? ⟨w.heap.size + 2, 0, none⟩ = some (.slice D0 ah.f0.length d0) := (blk_cell HBq.out.a 0).trans rfl
                  have ha1 : wr.cell? ⟨w.heap.size + 2, 1, none⟩ = some (.slice D1 ah.f1.length d1) := (blk_cell HBq.out.a 1).trans rfl
                  have ha2 : wr.cell? ⟨w.heap.size + 2, 2, none⟩ = some (.slice D2 ah.f2.length d2) := (blk_cell HBq.out.a 2).trans rfl
                  have ha3 : wr.cell? ⟨w.heap.size + 2, 3, none⟩ = some (.int .i64 ah.f3) := (blk_cell HBq.out.a 3).trans rfl
                  have ha4 : wr.cell? ⟨w.heap.size + 2, 4, none⟩ = some (.int .i64 ah.f4) := (blk_cell HBq.out.a 4).trans rfl
                  have ha5 : wr.cell? ⟨w.heap.size + 2, 5, none⟩ = some (.bool ah.f5) := (blk_cell HBq.out.a 5).trans rfl
                  have ha6 : wr.cell? ⟨w.heap.size + 2, 6, none⟩ = some (.bool ah.f6) := (blk_cell HBq.out.a 6).trans rfl
                  have fa0 := blk_frozen HBq.out.a 0
                  have fa1 := blk_frozen HBq.out.a 1
                  have fa2 := blk_frozen HBq.out.a 2
                  have fa3 := blk_frozen HBq.out.a 3
                  have fa4 := blk_frozen HBq.out.a 4
                  have fa5 := blk_frozen HBq.out.a 5
                  have fa6 := blk_frozen HBq.out.a 6
                  have hk0 : wr.cell? ⟨w.heap.size, 0, none⟩ = some (.int .i64 a1) := (blk_cell HBq.out.k0 0).trans rfl
                  have ho1 : wr.cell? ⟨w.heap.size + 1, 0, none⟩ = some (.slice Aq q.length cq) := (blk_cell HBq.out.o 0).trans rfl
                  have fo1 := blk_frozen HBq.out.o 0
                  gi_wp2
                  have HB7 := (((((((HBq.out.ahead 0 (.slice B0 s.f0.length e0)).ahead 1 (.slice B1 s.f1.length e1)).ahead 2 (.slice B2 s.f2.length e2)).ahead 3 (.int .i64 s.f3)).ahead 4 (.int .i64 s.f4)).ahead 5 (.bool s.f5)).ahead 6 (.bool false))
                  exact ⟨HB7.kf.from _, HB7.bw, HB7.iv (x := xe) (by rw [hxe, h6]; rfl) (by rw [HTL.out, hxe]; dsimp only; unfold pages_Flow.rnd; rw [if_neg (show ¬ s.f6 = true by rw [h6]; decide), if_neg (show ¬ ah.f6 = true by rw [h7]; decide), if_neg (show ¬ ah.f6 = true by rw [h7]; decide), show mx s.f3 ah.f4 = ah.f4 from if_pos HM.out, if_neg (show ¬ ah.f5 = true by rw [h5]; decide), hq, ← HTf.out, ← HEt2.out, ← HEt1.out]; simp) (by rw [HTL.out]; exact HN.out) HSZ.out⟩

          · have kme : (s.f3 < ah.f4) = False := eq_false hm
            have HM := Aside0.mk hm
            clear hm
            cases h5 : ah.f5 with
            | true =>
              rw [h5] at ha5
              gi_wp2_with ( first | (gi_at_builtin; refine Rnd.R_append_in k43 (w0 := w) w.heap.size rfl (.tmp 31) (.tmp 34) 22 43 (.agg #[(.int .i64 0), (.int .i64 0), (.int .i64 0), (.int .i64 0)]) 32 rfl Try.underlying22 info43 rfl (by decide) (by omega) (.slice Av ts.length cv) ts (⟨3, 0, 0, a1⟩ : S43) [.int .i64 (3), .int .i64 (0), .int .i64 (0), .int .i64 (a1)] (fun _ => True) (fun _ => False) rfl (by first | rfl | (simp; rfl)) (k43_mkM _ _ _ _) (fun _ hk => hk.elim) (fun _ _ => trivial) HB.out.r HB.out.b HB.out.b.size ?hl ?_; (case hl => have := HLts.out; omega); intro v4 u9 ho hb hg hat; obtain ⟨t1, ht1⟩ : ∃ z, ts ++ [(⟨3, 0, 0, a1⟩ : S43)] = z := ⟨_, rfl⟩; rw [ht1] at ho; obtain ⟨A_q, c_q, rfl⟩ := Kd.R_slice ho; have HB1 := Aside0.mk (HB.out.push hg hb ho); have HLt1 : Aside0 (t1.length ≤ 8002 * 4000 + 1) := ⟨by rw [← ht1, List.length_append, List.length_singleton]; have := HLts.out; omega⟩; have HEt1 := Aside0.mk ht1; clear hx0 ha0 fa0 hx1 ha1 fa1 hx2 ha2 fa2 hx3 ha3 fa3 hx4 ha4 fa4 hx5 ha5 fa5 hx6 ha6 fa6 hk0 ho1 fo1; have hx0 : u9.cell? ⟨Bx, 0, none⟩ = some (.slice B0 s.f0.length e0) := (blk_cell (blk_grown HB.out.x hg (Kd.R_ne HB.out.r HB.out.x (by decide))) 0).trans rfl; have hx1 : u9.cell? ⟨Bx, 1, none⟩ = some (.slice B1 s.f1.length e1) := (blk_cell (blk_grown HB.out.x hg (Kd.R_ne HB.out.r HB.out.x (by decide))) 1).trans rfl; have hx2 : u9.cell? ⟨Bx, 2, none⟩ = some (.slice B2 s.f2.length e2) := (blk_cell (blk_grown HB.out.x hg (Kd.R_ne HB.out.r HB.out.x (by decide))) 2).trans rfl; have hx3 : u9.cell? ⟨Bx, 3, none⟩ = some (.int .i64 s.f3) := (blk_cell (blk_grown HB.out.x hg (Kd.R_ne HB.out.r HB.out.x (by decide))) 3).trans rfl; have hx4 : u9.cell? ⟨Bx, 4, none⟩ = some (.int .i64 s.f4) := (blk_cell (blk_grown HB.out.x hg (Kd.R_ne HB.out.r HB.out.x (by decide))) 4).trans rfl; have hx5 : u9.cell? ⟨Bx, 5, none⟩ = some (.bool s.f5) := (blk_cell (blk_grown HB.out.x hg (Kd.R_ne HB.out.r HB.out.x (by decide))) 5).trans rfl; have hx6 : u9.cell? ⟨Bx, 6, none⟩ = some (.bool s.f6) := (blk_cell (blk_grown HB.out.x hg (Kd.R_ne HB.out.r HB.out.x (by decide))) 6).trans rfl; have ha0 : u9.cell? ⟨w.heap.size + 2, 0, none⟩ = some (.slice D0 ah.f0.length d0) := (blk_cell (blk_grown HB.out.a hg (Kd.R_ne HB.out.r HB.out.a (by decide))) 0).trans rfl; have ha1 : u9.cell? ⟨w.heap.size + 2, 1, none⟩ = some (.slice D1 ah.f1.length d1) := (blk_cell (blk_grown HB.out.a hg (Kd.R_ne HB.out.r HB.out.a (by decide))) 1).trans rfl; have ha2 : u9.cell? ⟨w.heap.size + 2, 2, none⟩ = some (.slice D2 ah.f2.length d2) := (blk_cell (blk_grown HB.out.a hg (Kd.R_ne HB.out.r HB.out.a (by decide))) 2).trans rfl; have ha3 : u9.cell? ⟨w.heap.size + 2, 3, none⟩ = some (.int .i64 ah.f3) := (blk_cell (blk_grown HB.out.a hg (Kd.R_ne HB.out.r HB.out.a (by decide))) 3).trans rfl; have ha4 : u9.cell? ⟨w.heap.size + 2, 4, none⟩ = some (.int .i64 ah.f4) := (blk_cell (blk_grown HB.out.a hg (Kd.R_ne HB.out.r HB.out.a (by decide))) 4).trans rfl; have ha5 : u9.cell? ⟨w.heap.size + 2, 5, none⟩ = some (.bool ah.f5) := (blk_cell (blk_grown HB.out.a hg (Kd.R_ne HB.out.r HB.out.a (by decide))) 5).trans rfl; have ha6 : u9.cell? ⟨w.heap.size + 2, 6, none⟩ = some (.bool ah.f6) := (blk_cell (blk_grown HB.out.a hg (Kd.R_ne HB.out.r HB.out.a (by decide))) 6).trans rfl; have fa0 := blk_frozen (blk_grown HB.out.a hg (Kd.R_ne HB.out.r HB.out.a (by decide))) 0; have fa1 := blk_frozen (blk_grown HB.out.a hg (Kd.R_ne HB.out.r HB.out.a (by decide))) 1; have fa2 := blk_frozen (blk_grown HB.out.a hg (Kd.R_ne HB.out.r HB.out.a (by decide))) 2; have fa3 := blk_frozen (blk_grown HB.out.a hg (Kd.R_ne HB.out.r HB.out.a (by decide))) 3; have fa4 := blk_frozen (blk_grown HB.out.a hg (Kd.R_ne HB.out.r HB.out.a (by decide))) 4; have fa5 := blk_frozen (blk_grown HB.out.a hg (Kd.R_ne HB.out.r HB.out.a (by decide))) 5; have fa6 := blk_frozen (blk_grown HB.out.a hg (Kd.R_ne HB.out.r HB.out.a (by decide))) 6; have hk0 : u9.cell? ⟨w.heap.size, 0, none⟩ = some (.int .i64 a1) := (blk_cell (blk_grown HB.out.k0 hg (Kd.R_ne HB.out.r HB.out.k0 (by decide))) 0).trans rfl; have ho1 : u9.cell? ⟨w.heap.size + 1, 0, none⟩ = some (.slice Av ts.length cv) := (blk_cell (blk_grown HB.out.o hg (Kd.R_ne HB.out.r HB.out.o (by decide))) 0).trans rfl; have fo1 := blk_frozen (blk_grown HB.out.o hg (Kd.R_ne HB.out.r HB.out.o (by decide))) 0; clear hb hg hat ho ht1 HB) | (gi_at_builtin; refine Rnd.R_append_in k43 (w0 := w) w.heap.size rfl (.tmp 40) (.tmp 43) 22 43 (.agg #[(.int .i64 0), (.int .i64 0), (.int .i64 0), (.int .i64 0)]) 32 rfl Try.underlying22 info43 rfl (by decide) (by omega) (.slice A_q t1.length c_q) t1 (⟨2, s.f3, 0, 0⟩ : S43) [.int .i64 (2), .int .i64 (s.f3), .int .i64 (0), .int .i64 (0)] (fun _ => True) (fun _ => False) rfl (by first | rfl | (simp; rfl)) (k43_mkM _ _ _ _) (fun _ hk => hk.elim) (fun _ _ => trivial) HB1.out.r HB1.out.b HB1.out.b.size ?hl ?_; (case hl => have := HLt1.out; omega); intro v4 x9 ho hb hg hat; obtain ⟨t2, ht2⟩ : ∃ z, t1 ++ [(⟨2, s.f3, 0, 0⟩ : S43)] = z := ⟨_, rfl⟩; rw [ht2] at ho; obtain ⟨A_r, c_r, rfl⟩ := Kd.R_slice ho; have HB2 := Aside0.mk (HB1.out.push hg hb ho); have HLt2 : Aside0 (t2.length ≤ 8002 * 4000 + 2) := ⟨by rw [← ht2, List.length_append, List.length_singleton]; have := HLt1.out; omega⟩; have HEt2 := Aside0.mk ht2; clear hx0 ha0 fa0 hx1 ha1 fa1 hx2 ha2 fa2 hx3 ha3 fa3 hx4 ha4 fa4 hx5 ha5 fa5 hx6 ha6 fa6 hk0 ho1 fo1; have hx0 : x9.cell? ⟨Bx, 0, none⟩ = some (.slice B0 s.f0.length e0) := (blk_cell (blk_grown HB1.out.x hg (Kd.R_ne HB1.out.r HB1.out.x (by decide))) 0).trans rfl; have hx1 : x9.cell? ⟨Bx, 1, none⟩ = some (.slice B1 s.f1.length e1) := (blk_cell (blk_grown HB1.out.x hg (Kd.R_ne HB1.out.r HB1.out.x (by decide))) 1).trans rfl; have hx2 : x9.cell? ⟨Bx, 2, none⟩ = some (.slice B2 s.f2.length e2) := (blk_cell (blk_grown HB1.out.x hg (Kd.R_ne HB1.out.r HB1.out.x (by decide))) 2).trans rfl; have hx3 : x9.cell? ⟨Bx, 3, none⟩ = some (.int .i64 s.f3) := (blk_cell (blk_grown HB1.out.x hg (Kd.R_ne HB1.out.r HB1.out.x (by decide))) 3).trans rfl; have hx4 : x9.cell? ⟨Bx, 4, none⟩ = some (.int .i64 s.f4) := (blk_cell (blk_grown HB1.out.x hg (Kd.R_ne HB1.out.r HB1.out.x (by decide))) 4).trans rfl; have hx5 : x9.cell? ⟨Bx, 5, none⟩ = some (.bool s.f5) := (blk_cell (blk_grown HB1.out.x hg (Kd.R_ne HB1.out.r HB1.out.x (by decide))) 5).trans rfl; have hx6 : x9.cell? ⟨Bx, 6, none⟩ = some (.bool s.f6) := (blk_cell (blk_grown HB1.out.x hg (Kd.R_ne HB1.out.r HB1.out.x (by decide))) 6).trans rfl; have ha0 : x9.cell? ⟨w.heap.size + 2, 0, none⟩ = some (.slice D0 ah.f0.length d0) := (blk_cell (blk_grown HB1.out.a hg (Kd.R_ne HB1.out.r HB1.out.a (by decide))) 0).trans rfl; have ha1 : x9.cell? ⟨w.heap.size + 2, 1, none⟩ = some (.slice D1 ah.f1.length d1) := (blk_cell (blk_grown HB1.out.a hg (Kd.R_ne HB1.out.r HB1.out.a (by decide))) 1).trans rfl; have ha2 : x9.cell? ⟨w.heap.size + 2, 2, none⟩ = some (.slice D2 ah.f2.length d2) := (blk_cell (blk_grown HB1.out.a hg (Kd.R_ne HB1.out.r HB1.out.a (by decide))) 2).trans rfl; have ha3 : x9.cell? ⟨w.heap.size + 2, 3, none⟩ = some (.int .i64 ah.f3) := (blk_cell (blk_grown HB1.out.a hg (Kd.R_ne HB1.out.r HB1.out.a (by decide))) 3).trans rfl; have ha4 : x9.cell? ⟨w.heap.size + 2, 4, none⟩ = some (.int .i64 ah.f4) := (blk_cell (blk_grown HB1.out.a hg (Kd.R_ne HB1.out.r HB1.out.a (by decide))) 4).trans rfl; have ha5 : x9.cell? ⟨w.heap.size + 2, 5, none⟩ = some (.bool ah.f5) := (blk_cell (blk_grown HB1.out.a hg (Kd.R_ne HB1.out.r HB1.out.a (by decide))) 5).trans rfl; have ha6 : x9.cell? ⟨w.heap.size + 2, 6, none⟩ = some (.bool ah.f6) := (blk_cell (blk_grown HB1.out.a hg (Kd.R_ne HB1.out.r HB1.out.a (by decide))) 6).trans rfl; have fa0 := blk_frozen (blk_grown HB1.out.a hg (Kd.R_ne HB1.out.r HB1.out.a (by decide))) 0; have fa1 := blk_frozen (blk_grown HB1.out.a hg (Kd.R_ne HB1.out.r HB1.out.a (by decide))) 1; have fa2 := blk_frozen (blk_grown HB1.out.a hg (Kd.R_ne HB1.out.r HB1.out.a (by decide))) 2; have fa3 := blk_frozen (blk_grown HB1.out.a hg (Kd.R_ne HB1.out.r HB1.out.a (by decide))) 3; have fa4 := blk_frozen (blk_grown HB1.out.a hg (Kd.R_ne HB1.out.r HB1.out.a (by decide))) 4; have fa5 := blk_frozen (blk_grown HB1.out.a hg (Kd.R_ne HB1.out.r HB1.out.a (by decide))) 5; have fa6 := blk_frozen (blk_grown HB1.out.a hg (Kd.R_ne HB1.out.r HB1.out.a (by decide))) 6; have hk0 : x9.cell? ⟨w.heap.size, 0, none⟩ = some (.int .i64 a1) := (blk_cell (blk_grown HB1.out.k0 hg (Kd.R_ne HB1.out.r HB1.out.k0 (by decide))) 0).trans rfl; have ho1 : x9.cell? ⟨w.heap.size + 1, 0, none⟩ = some (.slice A_q t1.length c_q) := (blk_cell (blk_grown HB1.out.o hg (Kd.R_ne HB1.out.r HB1.out.o (by decide))) 0).trans rfl; have fo1 := blk_frozen (blk_grown HB1.out.o hg (Kd.R_ne HB1.out.r HB1.out.o (by decide))) 0; clear hb hg hat ho ht2 HB1))
              obtain ⟨Tf, hTf⟩ : ∃ z, t2 ++ pages_Flow.itm s s.f0 0 = z := ⟨_, rfl⟩
              have HTf := Aside0.mk hTf
              clear hTf
              gi_loopw [48] (fun i wr => ∃ (k : Nat) (Aq : Option Addr) (cq : Nat) (q : List S43), k ≤ s.f0.length ∧ i = .int .i64 (k : Int) ∧ Aside0 (pages_Flow.Bd w W wr a1 Bx [.slice B0 s.f0.length e0, .slice B1 s.f1.length e1, .slice B2 s.f2.length e2, .int .i64 s.f3, .int .i64 s.f4, .bool s.f5, .bool s.f6] [.slice D0 ah.f0.length d0, .slice D1 ah.f1.length d1, .slice D2 ah.f2.length d2, .int .i64 ah.f3, .int .i64 ah.f4, .bool ah.f5, .bool ah.f6] (.slice Aq q.length cq) q) ∧ Aside0 (q ++ pages_Flow.itm s (s.f0.drop k) k = Tf) ∧ Aside0 (q.length ≤ 8002 * 4000 + 3 + 2 * k))
                (fun i _ => s.f0.length - (intOf i).toNat)
              case atStart => exact ⟨0, _, _, t2, Nat.zero_le _, rfl, HB2, ⟨by rw [List.drop_zero]; exact HTf.out⟩, ⟨by have := HLt2.out; omega⟩⟩
              case round =>
                clear HB2 HLt2
                obtain ⟨k, Aq, cq, q, hk, rfl, HBq, HQ, HLq⟩ := hrel
                by_cases hlt : k < s.f0.length
                · have hb4 := HBG.out
                  have kc1 : ((k : Int) < (s.f0.length : Int)) = True := eq_true (by omega)
                  have kc2 : (k < s.f0.length) = True := eq_true hlt
                  have kc3 : ((0 : Int) ≤ (k : Int)) = True := eq_true (by omega)
                  have kc6 : IntKind.i64.wrap ((k : Int) + 1) = (k : Int) + 1 := by rw [IntKind.wrap_i64]; omega
                  have kc7 : IntKind.i64.wrap ((k : Int) - 1) = (k : Int) - 1 := by rw [IntKind.wrap_i64]; omega
                  have hq := HQ.out
                  rw [pages_Flow.dropI hlt, pages_Flow.itm] at hq
                  have HQ2 := Aside0.mk hq
                  clear hq HQ
                  obtain ⟨ad, e0_, y0⟩ := Kd.at_int HG0.out.2 (k : Int) (by omega) (by omega)
                  simp only [Int.toNat_natCast] at y0
                  replace y0 := (HBq.out.b.cell (World.block_lt_of_cell? w _ y0)).trans y0
                  by_cases hk0 : k = 0
                  · have kg : ((0 : Int) < (k : Int)) = False := eq_false (by omega)
                    have kg2 : (0 < k) = False := eq_false (by omega)
                    have HK0 := Aside0.mk hk0
                    clear hk0
                    gi_wp2
                    have m0_ := Aside0.mk (HBq.out.drew)
                    clear HBq
                    have HBq := m0_
                    clear m0_
                    refine Rnd.start_in (m := 10) (S := fun w' => w'.cell? ⟨w.heap.size + 1, 0, none⟩ = some (.slice Aq q.length cq) ∧ w'.cell? ⟨Bx, 1, none⟩ = some (.slice B1 s.f1.length e1)) (ds := [9]) #[false, false, false, false, false, false, false, false, false, false] (by kernel_rfl) rfl rfl (by kernel_rfl) (fun ⟨_, _, h_⟩ => h_) ⟨(blk_cell HBq.out.o 0).trans rfl, (blk_cell HBq.out.x 1).trans rfl⟩ (fun hHeld => ?_)
                    generalize wr.drew = z2 at HBq hHeld ⊢
                    refine take_ (i := 0) (N := some 64) (v := ?_) (a' := ?_) #[true, false, false, false, false, false, false, false, false, false] rfl rfl (by kernel_rfl) (fun _ _ _ h => h) (Or.inl ⟨by rfl, ?_⟩) hHeld ?_ ?_
                    rotate_left
                    · rintro w' ⟨s0, s1⟩
                      go_simp
                      with_reducible rfl
                    rotate_left
                    · simp only [Act.put, List.setIfInBounds_toArray, List.set_cons_zero, List.set_cons_succ, i64_w, i32_w]
                      rfl
                    refine pure_ (i := 1) (N := some 65) (v := ?_) (a' := ?_) #[true, true, false, false, false, false, false, false, false, false] rfl rfl (by kernel_rfl) (fun _ _ _ h => h) (Or.inl ⟨by rfl, ?_⟩) ?_ ?_
                    rotate_left
                    · intro w'
                      go_simp
                      with_reducible rfl
                    rotate_left
                    · simp only [Act.put, List.setIfInBounds_toArray, List.set_cons_zero, List.set_cons_succ, i64_w, i32_w]
                      rfl
                    refine pure_ (i := 2) (N := some 66) (v := ?_) (a' := ?_) #[true, true, true, false, false, false, false, false, false, false] rfl rfl (by kernel_rfl) (fun _ _ _ h => h) (Or.inl ⟨by rfl, ?_⟩) ?_ ?_
                    rotate_left
                    · intro w'
                      go_simp
                      with_reducible rfl
                    rotate_left
                    · simp only [Act.put, List.setIfInBounds_toArray, List.set_cons_zero, List.set_cons_succ, i64_w, i32_w]
                      rfl
                    refine take_ (i := 3) (N := some 67) (v := ?_) (a' := ?_) #[true, true, true, true, false, false, false, false, false, false] rfl rfl (by kernel_rfl) (fun _ _ _ h => h) (Or.inl ⟨by rfl, ?_⟩) hHeld ?_ ?_
                    rotate_left
                    · rintro w' ⟨s0, s1⟩
                      go_simp
                      with_reducible rfl
                    rotate_left
                    · simp only [Act.put, List.setIfInBounds_toArray, List.set_cons_zero, List.set_cons_succ, i64_w, i32_w]
                      rfl
                    refine pure_ (i := 4) (N := some 68) (v := ?_) (a' := ?_) #[true, true, true, true, true, false, false, false, false, false] rfl rfl (by kernel_rfl) (fun _ _ _ h => h) (Or.inl ⟨by rfl, ?_⟩) ?_ ?_
                    rotate_left
                    · intro w'
                      go_simp
                      with_reducible rfl
                    rotate_left
                    · simp only [Act.put, List.setIfInBounds_toArray, List.set_cons_zero, List.set_cons_succ, i64_w, i32_w]
                      rfl
                    refine one_ (i := 5) (N := some 69) #[true, true, true, true, true, true, false, false, false, false] rfl rfl (by kernel_rfl) (by decide) (fun K hK => ?_)
                    refine goes_ Try.func50 (by kernel_rfl) rfl #[.slice B1 s.f1.length e1, .int .i64 ((k : Int))] (by rfl) rfl rfl (by (try simp only [List.map_toArray, List.map_cons, List.map_nil]); first | done | rfl) ?_
                    with_reducible refine (pages_at.calls _ _ _ ((k : Int)) _ _ (Kd.C_below HG1.out.2 HBq.out.b) HG1.out.1 (pages_Flow.at_eq _ _ (by omega))).mono ?_
                    rintro e z3 ⟨rfl, hd⟩
                    refine ⟨_, rfl, ?_⟩
                    have m0_ := Aside0.mk (HBq.out.drawn hd)
                    clear HBq hd
                    have HBq := m0_
                    clear m0_
                    refine hK.out _ _ ⟨(blk_cell HBq.out.o 0).trans rfl, (blk_cell HBq.out.x 1).trans rfl⟩ (fun hHeld => ?_)
                    clear hK K
                    refine norm_ (a' := ?_) ?_ ?_
                    rotate_left
                    · show Act.put _ (some 69) _ = _
                      simp only [Act.put, List.setIfInBounds_toArray, List.set_cons_zero, List.set_cons_succ, i64_w, i32_w]
                      rfl
                    refine pure_ (i := 6) (N := some 70) (v := ?_) (a' := ?_) #[true, true, true, true, true, true, true, false, false, false] rfl rfl (by kernel_rfl) (fun _ _ _ h => h) (Or.inl ⟨by rfl, ?_⟩) ?_ ?_
                    rotate_left
                    · intro w'
                      go_simp
                      with_reducible rfl
                    rotate_left
                    · simp only [Act.put, List.setIfInBounds_toArray, List.set_cons_zero, List.set_cons_succ, i64_w, i32_w]
                      rfl
                    refine one_ (i := 7) (N := some 71) #[true, true, true, true, true, true, true, true, false, false] rfl rfl (by kernel_rfl) (by decide) (fun K hK => ?_)
                    refine value_ (w1 := ?_) (v := ?_) (by rfl) rfl ?_ ?_
                    rotate_left 2
                    · go_simp
                      constructor
                      · rfl
                      · rfl
                    refine hK.out _ _ ⟨(blk_cell (blk_alloc HBq.out.o _) 0).trans rfl, (blk_cell (blk_alloc HBq.out.x _) 1).trans rfl⟩ (fun hHeld => ?_)
                    clear hK K
                    refine norm_ (a' := ?_) ?_ ?_
                    rotate_left
                    · show Act.put _ (some 71) _ = _
                      simp only [Act.put, List.setIfInBounds_toArray, List.set_cons_zero, List.set_cons_succ, i64_w, i32_w]
                      rfl
                    refine one_ (i := 8) (N := some 72) #[true, true, true, true, true, true, true, true, true, false] rfl rfl (by kernel_rfl) (by decide) (fun K hK => ?_)
                    refine Kd.R_append_step k43 (w0 := w) w.heap.size (by rfl) (.tmp 64) (.tmp 71) 22 43 (.agg #[(.int .i64 0), (.int .i64 0), (.int .i64 0), (.int .i64 0)]) 32 rfl Try.underlying22 info43 rfl (by decide) (by omega) (.slice Aq q.length cq) q (⟨1, (rd s.f0 (k : Int)), pages_Flow.atT s.f1 (k : Int), 0⟩ : S43) [.int .i64 (1), .int .i64 ((rd s.f0 (k : Int))), .int .i64 (pages_Flow.atT s.f1 (k : Int)), .int .i64 (0)] (fun _ => True) (fun _ => False) rfl rfl (k43_mkM _ _ _ _) (fun _ hk => hk.elim) (fun _ _ => trivial) HBq.out.r HBq.out.b HBq.out.b.size ?hl ?_
                    case hl => have := HLq.out; omega
                    intro v4 z4 ho hb hg hat
                    obtain ⟨t3, ht3⟩ : ∃ z, q ++ [(⟨1, (rd s.f0 (k : Int)), pages_Flow.atT s.f1 (k : Int), 0⟩ : S43)] = z := ⟨_, rfl⟩
                    rw [ht3] at ho
                    obtain ⟨A_t3, c_t3, rfl⟩ := Kd.R_slice ho
                    have HBz := Aside0.mk (HBq.out.push hg hb ho)
                    have HLt3 : Aside0 (t3.length ≤ 8002 * 4000 + 3 + (2 * k + 1)) := ⟨by rw [← ht3, List.length_append, List.length_singleton]; have := HLq.out; omega⟩
                    have HEt3 := Aside0.mk ht3
                    have PO := Aside0.mk (blk_grown HBq.out.o hg (Kd.R_ne HBq.out.r HBq.out.o (by decide)))
                    have PX := Aside0.mk (blk_grown HBq.out.x hg (Kd.R_ne HBq.out.r HBq.out.x (by decide)))
                    clear hb hg hat ho ht3 HBq
                    refine hK.out _ _ ⟨(blk_cell PO.out 0).trans rfl, (blk_cell PX.out 1).trans rfl⟩ (fun hHeld => ?_)
                    clear hK K
                    refine norm_ (a' := ?_) ?_ ?_
                    rotate_left
                    · show Act.put _ (some 72) _ = _
                      simp only [Act.put, List.setIfInBounds_toArray, List.set_cons_zero, List.set_cons_succ, i64_w, i32_w]
                      rfl
                    refine last_ (i := 9) (N := none) #[true, true, true, true, true, true, true, true, true, true] rfl rfl (by kernel_rfl) (by decide) (fun K hK => ?_)
                    have hs_ : z4.cell? ⟨w.heap.size + 1, 0, none⟩ = some (.slice Aq q.length cq) := (blk_cell PO.out 0).trans rfl
                    have hf_ := blk_frozen PO.out 0
                    refine skip_ (w1 := ?_) (by rfl) rfl ?_ ?_
                    rotate_left
                    · go_simp
                      rfl
                    refine hK.out _ _ ?_
                    clear hK K
                    refine done_ (by kernel_rfl) ?_
                    clear PO PX
                    obtain ⟨t3_w, ew⟩ : ∃ z, z4.setCell ⟨w.heap.size + 1, 0, none⟩ (.slice A_t3 t3.length c_t3) = z := ⟨_, rfl⟩
                    rw [ew] at HBz
                    rw [ew]
                    clear ew
                    gi_wp2
                    go_roundw
                    case rel => exact ⟨k + 1, _, _, t3, by omega, by simp, HBz, ⟨by have := HQ2.out; rw [if_pos HK0.out, List.nil_append] at this; rw [← HEt3.out, List.append_assoc]; exact this⟩, ⟨by have := HLt3.out; omega⟩⟩
                    case measure => (try simp [intOf]); omega
                  · have kg : ((0 : Int) < (k : Int)) = True := eq_true (by omega)
                    have kg2 : (0 < k) = True := eq_true (by omega)
                    have HK0 := Aside0.mk hk0
                    clear hk0
                    gi_wp2
                    have m0_ := Aside0.mk (HBq.out.drew)
                    clear HBq
                    have HBq := m0_
                    clear m0_
                    refine Rnd.start_in (m := 10) (S := fun w' => w'.cell? ⟨w.heap.size + 1, 0, none⟩ = some (.slice Aq q.length cq) ∧ w'.cell? ⟨Bx, 2, none⟩ = some (.slice B2 s.f2.length e2)) (ds := [9]) #[false, false, false, false, false, false, false, false, false, false] (by kernel_rfl) rfl rfl (by kernel_rfl) (fun ⟨_, _, h_⟩ => h_) ⟨(blk_cell HBq.out.o 0).trans rfl, (blk_cell HBq.out.x 2).trans rfl⟩ (fun hHeld => ?_)
                    generalize wr.drew = z2 at HBq hHeld ⊢
                    refine take_ (i := 0) (N := some 55) (v := ?_) (a' := ?_) #[true, false, false, false, false, false, false, false, false, false] rfl rfl (by kernel_rfl) (fun _ _ _ h => h) (Or.inl ⟨by rfl, ?_⟩) hHeld ?_ ?_
                    rotate_left
                    · rintro w' ⟨s0, s1⟩
                      go_simp
                      with_reducible rfl
                    rotate_left
                    · simp only [Act.put, List.setIfInBounds_toArray, List.set_cons_zero, List.set_cons_succ, i64_w, i32_w]
                      rfl
                    refine pure_ (i := 1) (N := some 56) (v := ?_) (a' := ?_) #[true, true, false, false, false, false, false, false, false, false] rfl rfl (by kernel_rfl) (fun _ _ _ h => h) (Or.inl ⟨by rfl, ?_⟩) ?_ ?_
                    rotate_left
                    · intro w'
                      go_simp
                      with_reducible rfl
                    rotate_left
                    · simp only [Act.put, List.setIfInBounds_toArray, List.set_cons_zero, List.set_cons_succ, i64_w, i32_w]
                      rfl
                    refine take_ (i := 2) (N := some 57) (v := ?_) (a' := ?_) #[true, true, true, false, false, false, false, false, false, false] rfl rfl (by kernel_rfl) (fun _ _ _ h => h) (Or.inl ⟨by rfl, ?_⟩) hHeld ?_ ?_
                    rotate_left
                    · rintro w' ⟨s0, s1⟩
                      go_simp
                      with_reducible rfl
                    rotate_left
                    · simp only [Act.put, List.setIfInBounds_toArray, List.set_cons_zero, List.set_cons_succ, i64_w, i32_w]
                      rfl
                    refine pure_ (i := 3) (N := some 58) (v := ?_) (a' := ?_) #[true, true, true, true, false, false, false, false, false, false] rfl rfl (by kernel_rfl) (fun _ _ _ h => h) (Or.inl ⟨by rfl, ?_⟩) ?_ ?_
                    rotate_left
                    · intro w'
                      go_simp
                      with_reducible rfl
                    rotate_left
                    · simp only [Act.put, List.setIfInBounds_toArray, List.set_cons_zero, List.set_cons_succ, i64_w, i32_w]
                      rfl
                    refine pure_ (i := 4) (N := some 59) (v := ?_) (a' := ?_) #[true, true, true, true, true, false, false, false, false, false] rfl rfl (by kernel_rfl) (fun _ _ _ h => h) (Or.inl ⟨by rfl, ?_⟩) ?_ ?_
                    rotate_left
                    · intro w'
                      go_simp
                      with_reducible rfl
                    rotate_left
                    · simp only [Act.put, List.setIfInBounds_toArray, List.set_cons_zero, List.set_cons_succ, i64_w, i32_w]
                      rfl
                    refine one_ (i := 5) (N := some 60) #[true, true, true, true, true, true, false, false, false, false] rfl rfl (by kernel_rfl) (by decide) (fun K hK => ?_)
                    refine goes_ Try.func50 (by kernel_rfl) rfl #[.slice B2 s.f2.length e2, .int .i64 ((k : Int) - 1)] (by rfl) rfl rfl (by (try simp only [List.map_toArray, List.map_cons, List.map_nil]); first | done | rfl) ?_
                    with_reducible refine (pages_at.calls _ _ _ ((k : Int) - 1) _ _ (Kd.C_below HG2.out.2 HBq.out.b) HG2.out.1 (pages_Flow.at_eq _ _ (by have := HK0.out; omega))).mono ?_
                    rintro e z3 ⟨rfl, hd⟩
                    refine ⟨_, rfl, ?_⟩
                    have m0_ := Aside0.mk (HBq.out.drawn hd)
                    clear HBq hd
                    have HBq := m0_
                    clear m0_
                    refine hK.out _ _ ⟨(blk_cell HBq.out.o 0).trans rfl, (blk_cell HBq.out.x 2).trans rfl⟩ (fun hHeld => ?_)
                    clear hK K
                    refine norm_ (a' := ?_) ?_ ?_
                    rotate_left
                    · show Act.put _ (some 60) _ = _
                      simp only [Act.put, List.setIfInBounds_toArray, List.set_cons_zero, List.set_cons_succ, i64_w, i32_w]
                      rfl
                    refine pure_ (i := 6) (N := some 61) (v := ?_) (a' := ?_) #[true, true, true, true, true, true, true, false, false, false] rfl rfl (by kernel_rfl) (fun _ _ _ h => h) (Or.inl ⟨by rfl, ?_⟩) ?_ ?_
                    rotate_left
                    · intro w'
                      go_simp
                      with_reducible rfl
                    rotate_left
                    · simp only [Act.put, List.setIfInBounds_toArray, List.set_cons_zero, List.set_cons_succ, i64_w, i32_w]
                      rfl
                    refine one_ (i := 7) (N := some 62) #[true, true, true, true, true, true, true, true, false, false] rfl rfl (by kernel_rfl) (by decide) (fun K hK => ?_)
                    refine value_ (w1 := ?_) (v := ?_) (by rfl) rfl ?_ ?_
                    rotate_left 2
                    · go_simp
                      constructor
                      · rfl
                      · rfl
                    refine hK.out _ _ ⟨(blk_cell (blk_alloc HBq.out.o _) 0).trans rfl, (blk_cell (blk_alloc HBq.out.x _) 2).trans rfl⟩ (fun hHeld => ?_)
                    clear hK K
                    refine norm_ (a' := ?_) ?_ ?_
                    rotate_left
                    · show Act.put _ (some 62) _ = _
                      simp only [Act.put, List.setIfInBounds_toArray, List.set_cons_zero, List.set_cons_succ, i64_w, i32_w]
                      rfl
                    refine one_ (i := 8) (N := some 63) #[true, true, true, true, true, true, true, true, true, false] rfl rfl (by kernel_rfl) (by decide) (fun K hK => ?_)
                    refine Kd.R_append_step k43 (w0 := w) w.heap.size (by rfl) (.tmp 55) (.tmp 62) 22 43 (.agg #[(.int .i64 0), (.int .i64 0), (.int .i64 0), (.int .i64 0)]) 32 rfl Try.underlying22 info43 rfl (by decide) (by omega) (.slice Aq q.length cq) q (⟨3, 0, 0, pages_Flow.atT s.f2 ((k : Int) - 1)⟩ : S43) [.int .i64 (3), .int .i64 (0), .int .i64 (0), .int .i64 (pages_Flow.atT s.f2 ((k : Int) - 1))] (fun _ => True) (fun _ => False) rfl rfl (k43_mkM _ _ _ _) (fun _ hk => hk.elim) (fun _ _ => trivial) HBq.out.r HBq.out.b HBq.out.b.size ?hl ?_
                    case hl => have := HLq.out; omega
                    intro v4 z4 ho hb hg hat
                    obtain ⟨ta, hta⟩ : ∃ z, q ++ [(⟨3, 0, 0, pages_Flow.atT s.f2 ((k : Int) - 1)⟩ : S43)] = z := ⟨_, rfl⟩
                    rw [hta] at ho
                    obtain ⟨A_ta, c_ta, rfl⟩ := Kd.R_slice ho
                    have HBy := Aside0.mk (HBq.out.push hg hb ho)
                    have HLta : Aside0 (ta.length ≤ 8002 * 4000 + 3 + (2 * k + 1)) := ⟨by rw [← hta, List.length_append, List.length_singleton]; have := HLq.out; omega⟩
                    have HEta := Aside0.mk hta
                    have PO := Aside0.mk (blk_grown HBq.out.o hg (Kd.R_ne HBq.out.r HBq.out.o (by decide)))
                    have PX := Aside0.mk (blk_grown HBq.out.x hg (Kd.R_ne HBq.out.r HBq.out.x (by decide)))
                    clear hb hg hat ho hta HBq
                    refine hK.out _ _ ⟨(blk_cell PO.out 0).trans rfl, (blk_cell PX.out 2).trans rfl⟩ (fun hHeld => ?_)
                    clear hK K
                    refine norm_ (a' := ?_) ?_ ?_
                    rotate_left
                    · show Act.put _ (some 63) _ = _
                      simp only [Act.put, List.setIfInBounds_toArray, List.set_cons_zero, List.set_cons_succ, i64_w, i32_w]
                      rfl
                    refine last_ (i := 9) (N := none) #[true, true, true, true, true, true, true, true, true, true] rfl rfl (by kernel_rfl) (by decide) (fun K hK => ?_)
                    have hs_ : z4.cell? ⟨w.heap.size + 1, 0, none⟩ = some (.slice Aq q.length cq) := (blk_cell PO.out 0).trans rfl
                    have hf_ := blk_frozen PO.out 0
                    refine skip_ (w1 := ?_) (by rfl) rfl ?_ ?_
                    rotate_left
                    · go_simp
                      rfl
                    refine hK.out _ _ ?_
                    clear hK K
                    refine done_ (by kernel_rfl) ?_
                    clear PO PX
                    obtain ⟨ta_w, ew⟩ : ∃ z, z4.setCell ⟨w.heap.size + 1, 0, none⟩ (.slice A_ta ta.length c_ta) = z := ⟨_, rfl⟩
                    rw [ew] at HBy
                    rw [ew]
                    clear ew
                    gi_wp2
                    have m0_ := Aside0.mk (HBy.out.drew)
                    clear HBy
                    have HBy := m0_
                    clear m0_
                    refine Rnd.start_in (m := 10) (S := fun w' => w'.cell? ⟨w.heap.size + 1, 0, none⟩ = some (.slice A_ta ta.length c_ta) ∧ w'.cell? ⟨Bx, 1, none⟩ = some (.slice B1 s.f1.length e1)) (ds := [9]) #[false, false, false, false, false, false, false, false, false, false] (by kernel_rfl) rfl rfl (by kernel_rfl) (fun ⟨_, _, h_⟩ => h_) ⟨(blk_cell HBy.out.o 0).trans rfl, (blk_cell HBy.out.x 1).trans rfl⟩ (fun hHeld => ?_)
                    generalize ta_w.drew = z2 at HBy hHeld ⊢
                    refine take_ (i := 0) (N := some 64) (v := ?_) (a' := ?_) #[true, false, false, false, false, false, false, false, false, false] rfl rfl (by kernel_rfl) (fun _ _ _ h => h) (Or.inl ⟨by rfl, ?_⟩) hHeld ?_ ?_
                    rotate_left
                    · rintro w' ⟨s0, s1⟩
                      go_simp
                      with_reducible rfl
                    rotate_left
                    · simp only [Act.put, List.setIfInBounds_toArray, List.set_cons_zero, List.set_cons_succ, i64_w, i32_w]
                      rfl
                    refine pure_ (i := 1) (N := some 65) (v := ?_) (a' := ?_) #[true, true, false, false, false, false, false, false, false, false] rfl rfl (by kernel_rfl) (fun _ _ _ h => h) (Or.inl ⟨by rfl, ?_⟩) ?_ ?_
                    rotate_left
                    · intro w'
                      go_simp
                      with_reducible rfl
                    rotate_left
                    · simp only [Act.put, List.setIfInBounds_toArray, List.set_cons_zero, List.set_cons_succ, i64_w, i32_w]
                      rfl
                    refine pure_ (i := 2) (N := some 66) (v := ?_) (a' := ?_) #[true, true, true, false, false, false, false, false, false, false] rfl rfl (by kernel_rfl) (fun _ _ _ h => h) (Or.inl ⟨by rfl, ?_⟩) ?_ ?_
                    rotate_left
                    · intro w'
                      go_simp
                      with_reducible rfl
                    rotate_left
                    · simp only [Act.put, List.setIfInBounds_toArray, List.set_cons_zero, List.set_cons_succ, i64_w, i32_w]
                      rfl
                    refine take_ (i := 3) (N := some 67) (v := ?_) (a' := ?_) #[true, true, true, true, false, false, false, false, false, false] rfl rfl (by kernel_rfl) (fun _ _ _ h => h) (Or.inl ⟨by rfl, ?_⟩) hHeld ?_ ?_
                    rotate_left
                    · rintro w' ⟨s0, s1⟩
                      go_simp
                      with_reducible rfl
                    rotate_left
                    · simp only [Act.put, List.setIfInBounds_toArray, List.set_cons_zero, List.set_cons_succ, i64_w, i32_w]
                      rfl
                    refine pure_ (i := 4) (N := some 68) (v := ?_) (a' := ?_) #[true, true, true, true, true, false, false, false, false, false] rfl rfl (by kernel_rfl) (fun _ _ _ h => h) (Or.inl ⟨by rfl, ?_⟩) ?_ ?_
                    rotate_left
                    · intro w'
                      go_simp
                      with_reducible rfl
                    rotate_left
                    · simp only [Act.put, List.setIfInBounds_toArray, List.set_cons_zero, List.set_cons_succ, i64_w, i32_w]
                      rfl
                    refine one_ (i := 5) (N := some 69) #[true, true, true, true, true, true, false, false, false, false] rfl rfl (by kernel_rfl) (by decide) (fun K hK => ?_)
                    refine goes_ Try.func50 (by kernel_rfl) rfl #[.slice B1 s.f1.length e1, .int .i64 ((k : Int))] (by rfl) rfl rfl (by (try simp only [List.map_toArray, List.map_cons, List.map_nil]); first | done | rfl) ?_
                    with_reducible refine (pages_at.calls _ _ _ ((k : Int)) _ _ (Kd.C_below HG1.out.2 HBy.out.b) HG1.out.1 (pages_Flow.at_eq _ _ (by omega))).mono ?_
                    rintro e z3 ⟨rfl, hd⟩
                    refine ⟨_, rfl, ?_⟩
                    have m0_ := Aside0.mk (HBy.out.drawn hd)
                    clear HBy hd
                    have HBy := m0_
                    clear m0_
                    refine hK.out _ _ ⟨(blk_cell HBy.out.o 0).trans rfl, (blk_cell HBy.out.x 1).trans rfl⟩ (fun hHeld => ?_)
                    clear hK K
                    refine norm_ (a' := ?_) ?_ ?_
                    rotate_left
                    · show Act.put _ (some 69) _ = _
                      simp only [Act.put, List.setIfInBounds_toArray, List.set_cons_zero, List.set_cons_succ, i64_w, i32_w]
                      rfl
                    refine pure_ (i := 6) (N := some 70) (v := ?_) (a' := ?_) #[true, true, true, true, true, true, true, false, false, false] rfl rfl (by kernel_rfl) (fun _ _ _ h => h) (Or.inl ⟨by rfl, ?_⟩) ?_ ?_
                    rotate_left
                    · intro w'
                      go_simp
                      with_reducible rfl
                    rotate_left
                    · simp only [Act.put, List.setIfInBounds_toArray, List.set_cons_zero, List.set_cons_succ, i64_w, i32_w]
                      rfl
                    refine one_ (i := 7) (N := some 71) #[true, true, true, true, true, true, true, true, false, false] rfl rfl (by kernel_rfl) (by decide) (fun K hK => ?_)
                    refine value_ (w1 := ?_) (v := ?_) (by rfl) rfl ?_ ?_
                    rotate_left 2
                    · go_simp
                      constructor
                      · rfl
                      · rfl
                    refine hK.out _ _ ⟨(blk_cell (blk_alloc HBy.out.o _) 0).trans rfl, (blk_cell (blk_alloc HBy.out.x _) 1).trans rfl⟩ (fun hHeld => ?_)
                    clear hK K
                    refine norm_ (a' := ?_) ?_ ?_
                    rotate_left
                    · show Act.put _ (some 71) _ = _
                      simp only [Act.put, List.setIfInBounds_toArray, List.set_cons_zero, List.set_cons_succ, i64_w, i32_w]
                      rfl
                    refine one_ (i := 8) (N := some 72) #[true, true, true, true, true, true, true, true, true, false] rfl rfl (by kernel_rfl) (by decide) (fun K hK => ?_)
                    refine Kd.R_append_step k43 (w0 := w) w.heap.size (by rfl) (.tmp 64) (.tmp 71) 22 43 (.agg #[(.int .i64 0), (.int .i64 0), (.int .i64 0), (.int .i64 0)]) 32 rfl Try.underlying22 info43 rfl (by decide) (by omega) (.slice A_ta ta.length c_ta) ta (⟨1, (rd s.f0 (k : Int)), pages_Flow.atT s.f1 (k : Int), 0⟩ : S43) [.int .i64 (1), .int .i64 ((rd s.f0 (k : Int))), .int .i64 (pages_Flow.atT s.f1 (k : Int)), .int .i64 (0)] (fun _ => True) (fun _ => False) rfl rfl (k43_mkM _ _ _ _) (fun _ hk => hk.elim) (fun _ _ => trivial) HBy.out.r HBy.out.b HBy.out.b.size ?hl ?_
                    case hl => have := HLta.out; omega
                    intro v4 z4 ho hb hg hat
                    obtain ⟨t3, ht3⟩ : ∃ z, ta ++ [(⟨1, (rd s.f0 (k : Int)), pages_Flow.atT s.f1 (k : Int), 0⟩ : S43)] = z := ⟨_, rfl⟩
                    rw [ht3] at ho
                    obtain ⟨A_t3, c_t3, rfl⟩ := Kd.R_slice ho
                    have HBz := Aside0.mk (HBy.out.push hg hb ho)
                    have HLt3 : Aside0 (t3.length ≤ 8002 * 4000 + 3 + (2 * k + 2)) := ⟨by rw [← ht3, List.length_append, List.length_singleton]; have := HLta.out; omega⟩
                    have HEt3 := Aside0.mk ht3
                    have PO := Aside0.mk (blk_grown HBy.out.o hg (Kd.R_ne HBy.out.r HBy.out.o (by decide)))
                    have PX := Aside0.mk (blk_grown HBy.out.x hg (Kd.R_ne HBy.out.r HBy.out.x (by decide)))
                    clear hb hg hat ho ht3 HBy
                    refine hK.out _ _ ⟨(blk_cell PO.out 0).trans rfl, (blk_cell PX.out 1).trans rfl⟩ (fun hHeld => ?_)
                    clear hK K
                    refine norm_ (a' := ?_) ?_ ?_
                    rotate_left
                    · show Act.put _ (some 72) _ = _
                      simp only [Act.put, List.setIfInBounds_toArray, List.set_cons_zero, List.set_cons_succ, i64_w, i32_w]
                      rfl
                    refine last_ (i := 9) (N := none) #[true, true, true, true, true, true, true, true, true, true] rfl rfl (by kernel_rfl) (by decide) (fun K hK => ?_)
                    have hs_ : z4.cell? ⟨w.heap.size + 1, 0, none⟩ = some (.slice A_ta ta.length c_ta) := (blk_cell PO.out 0).trans rfl
                    have hf_ := blk_frozen PO.out 0
                    refine skip_ (w1 := ?_) (by rfl) rfl ?_ ?_
                    rotate_left
                    · go_simp
                      rfl
                    refine hK.out _ _ ?_
                    clear hK K
                    refine done_ (by kernel_rfl) ?_
                    clear PO PX
                    obtain ⟨t3_w, ew⟩ : ∃ z, z4.setCell ⟨w.heap.size + 1, 0, none⟩ (.slice A_t3 t3.length c_t3) = z := ⟨_, rfl⟩
                    rw [ew] at HBz
                    rw [ew]
                    clear ew
                    gi_wp2
                    go_roundw
                    case rel => exact ⟨k + 1, _, _, t3, by omega, by simp, HBz, ⟨by have := HQ2.out; rw [if_neg HK0.out] at this; rw [← HEt3.out, ← HEta.out, List.append_assoc, List.append_assoc]; exact this⟩, ⟨by have := HLt3.out; omega⟩⟩
                    case measure => (try simp [intOf]); omega
                · obtain rfl : k = s.f0.length := by omega
                  have kc1 : ((s.f0.length : Int) < (s.f0.length : Int)) = False := eq_false (by omega)
                  have kc2 : (s.f0.length < s.f0.length) = False := eq_false (by omega)
                  have hq : q = Tf := by have := HQ.out; rw [List.drop_eq_nil_of_le (Nat.le_refl _), pages_Flow.itm, List.append_nil] at this; exact this
                  clear HQ
                  have hx0 : wr.cell? ⟨Bx, 0, none⟩ = some (.slice B0 s.f0.length e0) := (blk_cell HBq.out.x 0).trans rfl
                  have hx1 : wr.cell? ⟨Bx, 1, none⟩ = some (.slice B1 s.f1.length e1) := (blk_cell HBq.out.x 1).trans rfl
                  have hx2 : wr.cell? ⟨Bx, 2, none⟩ = some (.slice B2 s.f2.length e2) := (blk_cell HBq.out.x 2).trans rfl
                  have hx3 : wr.cell? ⟨Bx, 3, none⟩ = some (.int .i64 s.f3) := (blk_cell HBq.out.x 3).trans rfl
                  have hx4 : wr.cell? ⟨Bx, 4, none⟩ = some (.int .i64 s.f4) := (blk_cell HBq.out.x 4).trans rfl
                  have hx5 : wr.cell? ⟨Bx, 5, none⟩ = some (.bool s.f5) := (blk_cell HBq.out.x 5).trans rfl
                  have hx6 : wr.cell? ⟨Bx, 6, none⟩ = some (.bool s.f6) := (blk_cell HBq.out.x 6).trans rfl
                  have ha0 : wr.cell? ⟨w.heap.size + 2, 0, none⟩ = some (.slice D0 ah.f0.length d0) := (blk_cell HBq.out.a 0).trans rfl
                  have ha1 : wr.cell? ⟨w.heap.size + 2, 1, none⟩ = some (.slice D1 ah.f1.length d1) := (blk_cell HBq.out.a 1).trans rfl
                  have ha2 : wr.cell? ⟨w.heap.size + 2, 2, none⟩ = some (.slice D2 ah.f2.length d2) := (blk_cell HBq.out.a 2).trans rfl
                  have ha3 : wr.cell? ⟨w.heap.size + 2, 3, none⟩ = some (.int .i64 ah.f3) := (blk_cell HBq.out.a 3).trans rfl
                  have ha4 : wr.cell? ⟨w.heap.size + 2, 4, none⟩ = some (.int .i64 ah.f4) := (blk_cell HBq.out.a 4).trans rfl
                  have ha5 : wr.cell? ⟨w.heap.size + 2, 5, none⟩ = some (.bool ah.f5) := (blk_cell HBq.out.a 5).trans rfl
                  have ha6 : wr.cell? ⟨w.heap.size + 2, 6, none⟩ = some (.bool ah.f6) := (blk_cell HBq.out.a 6).trans rfl
                  have fa0 := blk_frozen HBq.out.a 0
                  have fa1 := blk_frozen HBq.out.a 1
                  have fa2 := blk_frozen HBq.out.a 2
                  have fa3 := blk_frozen HBq.out.a 3
                  have fa4 := blk_frozen HBq.out.a 4
                  have fa5 := blk_frozen HBq.out.a 5
                  have fa6 := blk_frozen HBq.out.a 6
                  have hk0 : wr.cell? ⟨w.heap.size, 0, none⟩ = some (.int .i64 a1) := (blk_cell HBq.out.k0 0).trans rfl
                  have ho1 : wr.cell? ⟨w.heap.size + 1, 0, none⟩ = some (.slice Aq q.length cq) := (blk_cell HBq.out.o 0).trans rfl
                  have fo1 := blk_frozen HBq.out.o 0
                  gi_wp2
                  have HB7 := (((((((HBq.out.ahead 0 (.slice B0 s.f0.length e0)).ahead 1 (.slice B1 s.f1.length e1)).ahead 2 (.slice B2 s.f2.length e2)).ahead 3 (.int .i64 s.f3)).ahead 4 (.int .i64 s.f4)).ahead 5 (.bool s.f5)).ahead 6 (.bool false))
                  exact ⟨HB7.kf.from _, HB7.bw, HB7.iv (x := xe) (by rw [hxe, h6]; rfl) (by rw [HTL.out, hxe]; dsimp only; unfold pages_Flow.rnd; rw [if_neg (show ¬ s.f6 = true by rw [h6]; decide), if_neg (show ¬ ah.f6 = true by rw [h7]; decide), if_neg (show ¬ ah.f6 = true by rw [h7]; decide), show mx s.f3 ah.f4 = s.f3 from if_neg (by have := HM.out; omega), if_pos h5, hq, ← HTf.out, ← HEt2.out, ← HEt1.out]; simp) (by rw [HTL.out]; exact HN.out) HSZ.out⟩

            | false =>
              rw [h5] at ha5
              gi_wp2_with ( first | (gi_at_builtin; refine Rnd.R_append_in k43 (w0 := w) w.heap.size rfl (.tmp 31) (.tmp 34) 22 43 (.agg #[(.int .i64 0), (.int .i64 0), (.int .i64 0), (.int .i64 0)]) 32 rfl Try.underlying22 info43 rfl (by decide) (by omega) (.slice Av ts.length cv) ts (⟨3, 0, 0, 0⟩ : S43) [.int .i64 (3), .int .i64 (0), .int .i64 (0), .int .i64 (0)] (fun _ => True) (fun _ => False) rfl (by first | rfl | (simp; rfl)) (k43_mkM _ _ _ _) (fun _ hk => hk.elim) (fun _ _ => trivial) HB.out.r HB.out.b HB.out.b.size ?hl ?_; (case hl => have := HLts.out; omega); intro v4 u9 ho hb hg hat; obtain ⟨t1, ht1⟩ : ∃ z, ts ++ [(⟨3, 0, 0, 0⟩ : S43)] = z := ⟨_, rfl⟩; rw [ht1] at ho; obtain ⟨A_q, c_q, rfl⟩ := Kd.R_slice ho; have HB1 := Aside0.mk (HB.out.push hg hb ho); have HLt1 : Aside0 (t1.length ≤ 8002 * 4000 + 1) := ⟨by rw [← ht1, List.length_append, List.length_singleton]; have := HLts.out; omega⟩; have HEt1 := Aside0.mk ht1; clear hx0 ha0 fa0 hx1 ha1 fa1 hx2 ha2 fa2 hx3 ha3 fa3 hx4 ha4 fa4 hx5 ha5 fa5 hx6 ha6 fa6 hk0 ho1 fo1; have hx0 : u9.cell? ⟨Bx, 0, none⟩ = some (.slice B0 s.f0.length e0) := (blk_cell (blk_grown HB.out.x hg (Kd.R_ne HB.out.r HB.out.x (by decide))) 0).trans rfl; have hx1 : u9.cell? ⟨Bx, 1, none⟩ = some (.slice B1 s.f1.length e1) := (blk_cell (blk_grown HB.out.x hg (Kd.R_ne HB.out.r HB.out.x (by decide))) 1).trans rfl; have hx2 : u9.cell? ⟨Bx, 2, none⟩ = some (.slice B2 s.f2.length e2) := (blk_cell (blk_grown HB.out.x hg (Kd.R_ne HB.out.r HB.out.x (by decide))) 2).trans rfl; have hx3 : u9.cell? ⟨Bx, 3, none⟩ = some (.int .i64 s.f3) := (blk_cell (blk_grown HB.out.x hg (Kd.R_ne HB.out.r HB.out.x (by decide))) 3).trans rfl; have hx4 : u9.cell? ⟨Bx, 4, none⟩ = some (.int .i64 s.f4) := (blk_cell (blk_grown HB.out.x hg (Kd.R_ne HB.out.r HB.out.x (by decide))) 4).trans rfl; have hx5 : u9.cell? ⟨Bx, 5, none⟩ = some (.bool s.f5) := (blk_cell (blk_grown HB.out.x hg (Kd.R_ne HB.out.r HB.out.x (by decide))) 5).trans rfl; have hx6 : u9.cell? ⟨Bx, 6, none⟩ = some (.bool s.f6) := (blk_cell (blk_grown HB.out.x hg (Kd.R_ne HB.out.r HB.out.x (by decide))) 6).trans rfl; have ha0 : u9.cell? ⟨w.heap.size + 2, 0, none⟩ = some (.slice D0 ah.f0.length d0) := (blk_cell (blk_grown HB.out.a hg (Kd.R_ne HB.out.r HB.out.a (by decide))) 0).trans rfl; have ha1 : u9.cell? ⟨w.heap.size + 2, 1, none⟩ = some (.slice D1 ah.f1.length d1) := (blk_cell (blk_grown HB.out.a hg (Kd.R_ne HB.out.r HB.out.a (by decide))) 1).trans rfl; have ha2 : u9.cell? ⟨w.heap.size + 2, 2, none⟩ = some (.slice D2 ah.f2.length d2) := (blk_cell (blk_grown HB.out.a hg (Kd.R_ne HB.out.r HB.out.a (by decide))) 2).trans rfl; have ha3 : u9.cell? ⟨w.heap.size + 2, 3, none⟩ = some (.int .i64 ah.f3) := (blk_cell (blk_grown HB.out.a hg (Kd.R_ne HB.out.r HB.out.a (by decide))) 3).trans rfl; have ha4 : u9.cell? ⟨w.heap.size + 2, 4, none⟩ = some (.int .i64 ah.f4) := (blk_cell (blk_grown HB.out.a hg (Kd.R_ne HB.out.r HB.out.a (by decide))) 4).trans rfl; have ha5 : u9.cell? ⟨w.heap.size + 2, 5, none⟩ = some (.bool ah.f5) := (blk_cell (blk_grown HB.out.a hg (Kd.R_ne HB.out.r HB.out.a (by decide))) 5).trans rfl; have ha6 : u9.cell? ⟨w.heap.size + 2, 6, none⟩ = some (.bool ah.f6) := (blk_cell (blk_grown HB.out.a hg (Kd.R_ne HB.out.r HB.out.a (by decide))) 6).trans rfl; have fa0 := blk_frozen (blk_grown HB.out.a hg (Kd.R_ne HB.out.r HB.out.a (by decide))) 0; have fa1 := blk_frozen (blk_grown HB.out.a hg (Kd.R_ne HB.out.r HB.out.a (by decide))) 1; have fa2 := blk_frozen (blk_grown HB.out.a hg (Kd.R_ne HB.out.r HB.out.a (by decide))) 2; have fa3 := blk_frozen (blk_grown HB.out.a hg (Kd.R_ne HB.out.r HB.out.a (by decide))) 3; have fa4 := blk_frozen (blk_grown HB.out.a hg (Kd.R_ne HB.out.r HB.out.a (by decide))) 4; have fa5 := blk_frozen (blk_grown HB.out.a hg (Kd.R_ne HB.out.r HB.out.a (by decide))) 5; have fa6 := blk_frozen (blk_grown HB.out.a hg (Kd.R_ne HB.out.r HB.out.a (by decide))) 6; have hk0 : u9.cell? ⟨w.heap.size, 0, none⟩ = some (.int .i64 a1) := (blk_cell (blk_grown HB.out.k0 hg (Kd.R_ne HB.out.r HB.out.k0 (by decide))) 0).trans rfl; have ho1 : u9.cell? ⟨w.heap.size + 1, 0, none⟩ = some (.slice Av ts.length cv) := (blk_cell (blk_grown HB.out.o hg (Kd.R_ne HB.out.r HB.out.o (by decide))) 0).trans rfl; have fo1 := blk_frozen (blk_grown HB.out.o hg (Kd.R_ne HB.out.r HB.out.o (by decide))) 0; clear hb hg hat ho ht1 HB) | (gi_at_builtin; refine Rnd.R_append_in k43 (w0 := w) w.heap.size rfl (.tmp 40) (.tmp 43) 22 43 (.agg #[(.int .i64 0), (.int .i64 0), (.int .i64 0), (.int .i64 0)]) 32 rfl Try.underlying22 info43 rfl (by decide) (by omega) (.slice A_q t1.length c_q) t1 (⟨2, s.f3, 0, 0⟩ : S43) [.int .i64 (2), .int .i64 (s.f3), .int .i64 (0), .int .i64 (0)] (fun _ => True) (fun _ => False) rfl (by first | rfl | (simp; rfl)) (k43_mkM _ _ _ _) (fun _ hk => hk.elim) (fun _ _ => trivial) HB1.out.r HB1.out.b HB1.out.b.size ?hl ?_; (case hl => have := HLt1.out; omega); intro v4 x9 ho hb hg hat; obtain ⟨t2, ht2⟩ : ∃ z, t1 ++ [(⟨2, s.f3, 0, 0⟩ : S43)] = z := ⟨_, rfl⟩; rw [ht2] at ho; obtain ⟨A_r, c_r, rfl⟩ := Kd.R_slice ho; have HB2 := Aside0.mk (HB1.out.push hg hb ho); have HLt2 : Aside0 (t2.length ≤ 8002 * 4000 + 2) := ⟨by rw [← ht2, List.length_append, List.length_singleton]; have := HLt1.out; omega⟩; have HEt2 := Aside0.mk ht2; clear hx0 ha0 fa0 hx1 ha1 fa1 hx2 ha2 fa2 hx3 ha3 fa3 hx4 ha4 fa4 hx5 ha5 fa5 hx6 ha6 fa6 hk0 ho1 fo1; have hx0 : x9.cell? ⟨Bx, 0, none⟩ = some (.slice B0 s.f0.length e0) := (blk_cell (blk_grown HB1.out.x hg (Kd.R_ne HB1.out.r HB1.out.x (by decide))) 0).trans rfl; have hx1 : x9.cell? ⟨Bx, 1, none⟩ = some (.slice B1 s.f1.length e1) := (blk_cell (blk_grown HB1.out.x hg (Kd.R_ne HB1.out.r HB1.out.x (by decide))) 1).trans rfl; have hx2 : x9.cell? ⟨Bx, 2, none⟩ = some (.slice B2 s.f2.length e2) := (blk_cell (blk_grown HB1.out.x hg (Kd.R_ne HB1.out.r HB1.out.x (by decide))) 2).trans rfl; have hx3 : x9.cell? ⟨Bx, 3, none⟩ = some (.int .i64 s.f3) := (blk_cell (blk_grown HB1.out.x hg (Kd.R_ne HB1.out.r HB1.out.x (by decide))) 3).trans rfl; have hx4 : x9.cell? ⟨Bx, 4, none⟩ = some (.int .i64 s.f4) := (blk_cell (blk_grown HB1.out.x hg (Kd.R_ne HB1.out.r HB1.out.x (by decide))) 4).trans rfl; have hx5 : x9.cell? ⟨Bx, 5, none⟩ = some (.bool s.f5) := (blk_cell (blk_grown HB1.out.x hg (Kd.R_ne HB1.out.r HB1.out.x (by decide))) 5).trans rfl; have hx6 : x9.cell? ⟨Bx, 6, none⟩ = some (.bool s.f6) := (blk_cell (blk_grown HB1.out.x hg (Kd.R_ne HB1.out.r HB1.out.x (by decide))) 6).trans rfl; have ha0 : x9.cell? ⟨w.heap.size + 2, 0, none⟩ = some (.slice D0 ah.f0.length d0) := (blk_cell (blk_grown HB1.out.a hg (Kd.R_ne HB1.out.r HB1.out.a (by decide))) 0).trans rfl; have ha1 : x9.cell? ⟨w.heap.size + 2, 1, none⟩ = some (.slice D1 ah.f1.length d1) := (blk_cell (blk_grown HB1.out.a hg (Kd.R_ne HB1.out.r HB1.out.a (by decide))) 1).trans rfl; have ha2 : x9.cell? ⟨w.heap.size + 2, 2, none⟩ = some (.slice D2 ah.f2.length d2) := (blk_cell (blk_grown HB1.out.a hg (Kd.R_ne HB1.out.r HB1.out.a (by decide))) 2).trans rfl; have ha3 : x9.cell? ⟨w.heap.size + 2, 3, none⟩ = some (.int .i64 ah.f3) := (blk_cell (blk_grown HB1.out.a hg (Kd.R_ne HB1.out.r HB1.out.a (by decide))) 3).trans rfl; have ha4 : x9.cell? ⟨w.heap.size + 2, 4, none⟩ = some (.int .i64 ah.f4) := (blk_cell (blk_grown HB1.out.a hg (Kd.R_ne HB1.out.r HB1.out.a (by decide))) 4).trans rfl; have ha5 : x9.cell? ⟨w.heap.size + 2, 5, none⟩ = some (.bool ah.f5) := (blk_cell (blk_grown HB1.out.a hg (Kd.R_ne HB1.out.r HB1.out.a (by decide))) 5).trans rfl; have ha6 : x9.cell? ⟨w.heap.size + 2, 6, none⟩ = some (.bool ah.f6) := (blk_cell (blk_grown HB1.out.a hg (Kd.R_ne HB1.out.r HB1.out.a (by decide))) 6).trans rfl; have fa0 := blk_frozen (blk_grown HB1.out.a hg (Kd.R_ne HB1.out.r HB1.out.a (by decide))) 0; have fa1 := blk_frozen (blk_grown HB1.out.a hg (Kd.R_ne HB1.out.r HB1.out.a (by decide))) 1; have fa2 := blk_frozen (blk_grown HB1.out.a hg (Kd.R_ne HB1.out.r HB1.out.a (by decide))) 2; have fa3 := blk_frozen (blk_grown HB1.out.a hg (Kd.R_ne HB1.out.r HB1.out.a (by decide))) 3; have fa4 := blk_frozen (blk_grown HB1.out.a hg (Kd.R_ne HB1.out.r HB1.out.a (by decide))) 4; have fa5 := blk_frozen (blk_grown HB1.out.a hg (Kd.R_ne HB1.out.r HB1.out.a (by decide))) 5; have fa6 := blk_frozen (blk_grown HB1.out.a hg (Kd.R_ne HB1.out.r HB1.out.a (by decide))) 6; have hk0 : x9.cell? ⟨w.heap.size, 0, none⟩ = some (.int .i64 a1) := (blk_cell (blk_grown HB1.out.k0 hg (Kd.R_ne HB1.out.r HB1.out.k0 (by decide))) 0).trans rfl; have ho1 : x9.cell? ⟨w.heap.size + 1, 0, none⟩ = some (.slice A_q t1.length c_q) := (blk_cell (blk_grown HB1.out.o hg (Kd.R_ne HB1.out.r HB1.out.o (by decide))) 0).trans rfl; have fo1 := blk_frozen (blk_grown HB1.out.o hg (Kd.R_ne HB1.out.r HB1.out.o (by decide))) 0; clear hb hg hat ho ht2 HB1))
              obtain ⟨Tf, hTf⟩ : ∃ z, t2 ++ pages_Flow.itm s s.f0 0 = z := ⟨_, rfl⟩
              have HTf := Aside0.mk hTf
              clear hTf
              gi_loopw [48] (fun i wr => ∃ (k : Nat) (Aq : Option Addr) (cq : Nat) (q : List S43), k ≤ s.f0.length ∧ i = .int .i64 (k : Int) ∧ Aside0 (pages_Flow.Bd w W wr a1 Bx [.slice B0 s.f0.length e0, .slice B1 s.f1.length e1, .slice B2 s.f2.length e2, .int .i64 s.f3, .int .i64 s.f4, .bool s.f5, .bool s.f6] [.slice D0 ah.f0.length d0, .slice D1 ah.f1.length d1, .slice D2 ah.f2.length d2, .int .i64 ah.f3, .int .i64 ah.f4, .bool ah.f5, .bool ah.f6] (.slice Aq q.length cq) q) ∧ Aside0 (q ++ pages_Flow.itm s (s.f0.drop k) k = Tf) ∧ Aside0 (q.length ≤ 8002 * 4000 + 3 + 2 * k))
                (fun i _ => s.f0.length - (intOf i).toNat)
              case atStart => exact ⟨0, _, _, t2, Nat.zero_le _, rfl, HB2, ⟨by rw [List.drop_zero]; exact HTf.out⟩, ⟨by have := HLt2.out; omega⟩⟩
              case round =>
                clear HB2 HLt2
                obtain ⟨k, Aq, cq, q, hk, rfl, HBq, HQ, HLq⟩ := hrel
                by_cases hlt : k < s.f0.length
                · have hb4 := HBG.out
                  have kc1 : ((k : Int) < (s.f0.length : Int)) = True := eq_true (by omega)
                  have kc2 : (k < s.f0.length) = True := eq_true hlt
                  have kc3 : ((0 : Int) ≤ (k : Int)) = True := eq_true (by omega)
                  have kc6 : IntKind.i64.wrap ((k : Int) + 1) = (k : Int) + 1 := by rw [IntKind.wrap_i64]; omega
                  have kc7 : IntKind.i64.wrap ((k : Int) - 1) = (k : Int) - 1 := by rw [IntKind.wrap_i64]; omega
                  have hq := HQ.out
                  rw [pages_Flow.dropI hlt, pages_Flow.itm] at hq
                  have HQ2 := Aside0.mk hq
                  clear hq HQ
                  obtain ⟨ad, e0_, y0⟩ := Kd.at_int HG0.out.2 (k : Int) (by omega) (by omega)
                  simp only [Int.toNat_natCast] at y0
                  replace y0 := (HBq.out.b.cell (World.block_lt_of_cell? w _ y0)).trans y0
                  by_cases hk0 : k = 0
                  · have kg : ((0 : Int) < (k : Int)) = False := eq_false (by omega)
                    have kg2 : (0 < k) = False := eq_false (by omega)
                    have HK0 := Aside0.mk hk0
                    clear hk0
                    gi_wp2
                    have m0_ := Aside0.mk (HBq.out.drew)
                    clear HBq
                    have HBq := m0_
                    clear m0_
                    refine Rnd.start_in (m := 10) (S := fun w' => w'.cell? ⟨w.heap.size + 1, 0, none⟩ = some (.slice Aq q.length cq) ∧ w'.cell? ⟨Bx, 1, none⟩ = some (.slice B1 s.f1.length e1)) (ds := [9]) #[false, false, false, false, false, false, false, false, false, false] (by kernel_rfl) rfl rfl (by kernel_rfl) (fun ⟨_, _, h_⟩ => h_) ⟨(blk_cell HBq.out.o 0).trans rfl, (blk_cell HBq.out.x 1).trans rfl⟩ (fun hHeld => ?_)
                    generalize wr.drew = z2 at HBq hHeld ⊢
                    refine take_ (i := 0) (N := some 64) (v := ?_) (a' := ?_) #[true, false, false, false, false, false, false, false, false, false] rfl rfl (by kernel_rfl) (fun _ _ _ h => h) (Or.inl ⟨by rfl, ?_⟩) hHeld ?_ ?_
                    rotate_left
                    · rintro w' ⟨s0, s1⟩
                      go_simp
                      with_reducible rfl
                    rotate_left
                    · simp only [Act.put, List.setIfInBounds_toArray, List.set_cons_zero, List.set_cons_succ, i64_w, i32_w]
                      rfl
                    refine pure_ (i := 1) (N := some 65) (v := ?_) (a' := ?_) #[true, true, false, false, false, false, false, false, false, false] rfl rfl (by kernel_rfl) (fun _ _ _ h => h) (Or.inl ⟨by rfl, ?_⟩) ?_ ?_
                    rotate_left
                    · intro w'
                      go_simp
                      with_reducible rfl
                    rotate_left
                    · simp only [Act.put, List.setIfInBounds_toArray, List.set_cons_zero, List.set_cons_succ, i64_w, i32_w]
                      rfl
                    refine pure_ (i := 2) (N := some 66) (v := ?_) (a' := ?_) #[true, true, true, false, false, false, false, false, false, false] rfl rfl (by kernel_rfl) (fun _ _ _ h => h) (Or.inl ⟨by rfl, ?_⟩) ?_ ?_
                    rotate_left
                    · intro w'
                      go_simp
                      with_reducible rfl
                    rotate_left
                    · simp only [Act.put, List.setIfInBounds_toArray, List.set_cons_zero, List.set_cons_succ, i64_w, i32_w]
                      rfl
                    refine take_ (i := 3) (N := some 67) (v := ?_) (a' := ?_) #[true, true, true, true, false, false, false, false, false, false] rfl rfl (by kernel_rfl) (fun _ _ _ h => h) (Or.inl ⟨by rfl, ?_⟩) hHeld ?_ ?_
                    rotate_left
                    · rintro w' ⟨s0, s1⟩
                      go_simp
                      with_reducible rfl
                    rotate_left
                    · simp only [Act.put, List.setIfInBounds_toArray, List.set_cons_zero, List.set_cons_succ, i64_w, i32_w]
                      rfl
                    refine pure_ (i := 4) (N := some 68) (v := ?_) (a' := ?_) #[true, true, true, true, true, false, false, false, false, false] rfl rfl (by kernel_rfl) (fun _ _ _ h => h) (Or.inl ⟨by rfl, ?_⟩) ?_ ?_
                    rotate_left
                    · intro w'
                      go_simp
                      with_reducible rfl
                    rotate_left
                    · simp only [Act.put, List.setIfInBounds_toArray, List.set_cons_zero, List.set_cons_succ, i64_w, i32_w]
                      rfl
                    refine one_ (i := 5) (N := some 69) #[true, true, true, true, true, true, false, false, false, false] rfl rfl (by kernel_rfl) (by decide) (fun K hK => ?_)
                    refine goes_ Try.func50 (by kernel_rfl) rfl #[.slice B1 s.f1.length e1, .int .i64 ((k : Int))] (by rfl) rfl rfl (by (try simp only [List.map_toArray, List.map_cons, List.map_nil]); first | done | rfl) ?_
                    with_reducible refine (pages_at.calls _ _ _ ((k : Int)) _ _ (Kd.C_below HG1.out.2 HBq.out.b) HG1.out.1 (pages_Flow.at_eq _ _ (by omega))).mono ?_
                    rintro e z3 ⟨rfl, hd⟩
                    refine ⟨_, rfl, ?_⟩
                    have m0_ := Aside0.mk (HBq.out.drawn hd)
                    clear HBq hd
                    have HBq := m0_
                    clear m0_
                    refine hK.out _ _ ⟨(blk_cell HBq.out.o 0).trans rfl, (blk_cell HBq.out.x 1).trans rfl⟩ (fun hHeld => ?_)
                    clear hK K
                    refine norm_ (a' := ?_) ?_ ?_
                    rotate_left
                    · show Act.put _ (some 69) _ = _
                      simp only [Act.put, List.setIfInBounds_toArray, List.set_cons_zero, List.set_cons_succ, i64_w, i32_w]
                      rfl
                    refine pure_ (i := 6) (N := some 70) (v := ?_) (a' := ?_) #[true, true, true, true, true, true, true, false, false, false] rfl rfl (by kernel_rfl) (fun _ _ _ h => h) (Or.inl ⟨by rfl, ?_⟩) ?_ ?_
                    rotate_left
                    · intro w'
                      go_simp
                      with_reducible rfl
                    rotate_left
                    · simp only [Act.put, List.setIfInBounds_toArray, List.set_cons_zero, List.set_cons_succ, i64_w, i32_w]
                      rfl
                    refine one_ (i := 7) (N := some 71) #[true, true, true, true, true, true, true, true, false, false] rfl rfl (by kernel_rfl) (by decide) (fun K hK => ?_)
                    refine value_ (w1 := ?_) (v := ?_) (by rfl) rfl ?_ ?_
                    rotate_left 2
                    · go_simp
                      constructor
                      · rfl
                      · rfl
                    refine hK.out _ _ ⟨(blk_cell (blk_alloc HBq.out.o _) 0).trans rfl, (blk_cell (blk_alloc HBq.out.x _) 1).trans rfl⟩ (fun hHeld => ?_)
                    clear hK K
                    refine norm_ (a' := ?_) ?_ ?_
                    rotate_left
                    · show Act.put _ (some 71) _ = _
                      simp only [Act.put, List.setIfInBounds_toArray, List.set_cons_zero, List.set_cons_succ, i64_w, i32_w]
                      rfl
                    refine one_ (i := 8) (N := some 72) #[true, true, true, true, true, true, true, true, true, false] rfl rfl (by kernel_rfl) (by decide) (fun K hK => ?_)
                    refine Kd.R_append_step k43 (w0 := w) w.heap.size (by rfl) (.tmp 64) (.tmp 71) 22 43 (.agg #[(.int .i64 0), (.int .i64 0), (.int .i64 0), (.int .i64 0)]) 32 rfl Try.underlying22 info43 rfl (by decide) (by omega) (.slice Aq q.length cq) q (⟨1, (rd s.f0 (k : Int)), pages_Flow.atT s.f1 (k : Int), 0⟩ : S43) [.int .i64 (1), .int .i64 ((rd s.f0 (k : Int))), .int .i64 (pages_Flow.atT s.f1 (k : Int)), .int .i64 (0)] (fun _ => True) (fun _ => False) rfl rfl (k43_mkM _ _ _ _) (fun _ hk => hk.elim) (fun _ _ => trivial) HBq.out.r HBq.out.b HBq.out.b.size ?hl ?_
                    case hl => have := HLq.out; omega
                    intro v4 z4 ho hb hg hat
                    obtain ⟨t3, ht3⟩ : ∃ z, q ++ [(⟨1, (rd s.f0 (k : Int)), pages_Flow.atT s.f1 (k : Int), 0⟩ : S43)] = z := ⟨_, rfl⟩
                    rw [ht3] at ho
                    obtain ⟨A_t3, c_t3, rfl⟩ := Kd.R_slice ho
                    have HBz := Aside0.mk (HBq.out.push hg hb ho)
                    have HLt3 : Aside0 (t3.length ≤ 8002 * 4000 + 3 + (2 * k + 1)) := ⟨by rw [← ht3, List.length_append, List.length_singleton]; have := HLq.out; omega⟩
                    have HEt3 := Aside0.mk ht3
                    have PO := Aside0.mk (blk_grown HBq.out.o hg (Kd.R_ne HBq.out.r HBq.out.o (by decide)))
                    have PX := Aside0.mk (blk_grown HBq.out.x hg (Kd.R_ne HBq.out.r HBq.out.x (by decide)))
                    clear hb hg hat ho ht3 HBq
                    refine hK.out _ _ ⟨(blk_cell PO.out 0).trans rfl, (blk_cell PX.out 1).trans rfl⟩ (fun hHeld => ?_)
                    clear hK K
                    refine norm_ (a' := ?_) ?_ ?_
                    rotate_left
                    · show Act.put _ (some 72) _ = _
                      simp only [Act.put, List.setIfInBounds_toArray, List.set_cons_zero, List.set_cons_succ, i64_w, i32_w]
                      rfl
                    refine last_ (i := 9) (N := none) #[true, true, true, true, true, true, true, true, true, true] rfl rfl (by kernel_rfl) (by decide) (fun K hK => ?_)
                    have hs_ : z4.cell? ⟨w.heap.size + 1, 0, none⟩ = some (.slice Aq q.length cq) := (blk_cell PO.out 0).trans rfl
                    have hf_ := blk_frozen PO.out 0
                    refine skip_ (w1 := ?_) (by rfl) rfl ?_ ?_
                    rotate_left
                    · go_simp
                      rfl
                    refine hK.out _ _ ?_
                    clear hK K
                    refine done_ (by kernel_rfl) ?_
                    clear PO PX
                    obtain ⟨t3_w, ew⟩ : ∃ z, z4.setCell ⟨w.heap.size + 1, 0, none⟩ (.slice A_t3 t3.length c_t3) = z := ⟨_, rfl⟩
                    rw [ew] at HBz
                    rw [ew]
                    clear ew
                    gi_wp2
                    go_roundw
                    case rel => exact ⟨k + 1, _, _, t3, by omega, by simp, HBz, ⟨by have := HQ2.out; rw [if_pos HK0.out, List.nil_append] at this; rw [← HEt3.out, List.append_assoc]; exact this⟩, ⟨by have := HLt3.out; omega⟩⟩
                    case measure => (try simp [intOf]); omega
                  · have kg : ((0 : Int) < (k : Int)) = True := eq_true (by omega)
                    have kg2 : (0 < k) = True := eq_true (by omega)
                    have HK0 := Aside0.mk hk0
                    clear hk0
                    gi_wp2
                    have m0_ := Aside0.mk (HBq.out.drew)
                    clear HBq
                    have HBq := m0_
                    clear m0_
                    refine Rnd.start_in (m := 10) (S := fun w' => w'.cell? ⟨w.heap.size + 1, 0, none⟩ = some (.slice Aq q.length cq) ∧ w'.cell? ⟨Bx, 2, none⟩ = some (.slice B2 s.f2.length e2)) (ds := [9]) #[false, false, false, false, false, false, false, false, false, false] (by kernel_rfl) rfl rfl (by kernel_rfl) (fun ⟨_, _, h_⟩ => h_) ⟨(blk_cell HBq.out.o 0).trans rfl, (blk_cell HBq.out.x 2).trans rfl⟩ (fun hHeld => ?_)
                    generalize wr.drew = z2 at HBq hHeld ⊢
                    refine take_ (i := 0) (N := some 55) (v := ?_) (a' := ?_) #[true, false, false, false, false, false, false, false, false, false] rfl rfl (by kernel_rfl) (fun _ _ _ h => h) (Or.inl ⟨by rfl, ?_⟩) hHeld ?_ ?_
                    rotate_left
                    · rintro w' ⟨s0, s1⟩
                      go_simp
                      with_reducible rfl
                    rotate_left
                    · simp only [Act.put, List.setIfInBounds_toArray, List.set_cons_zero, List.set_cons_succ, i64_w, i32_w]
                      rfl
                    refine pure_ (i := 1) (N := some 56) (v := ?_) (a' := ?_) #[true, true, false, false, false, false, false, false, false, false] rfl rfl (by kernel_rfl) (fun _ _ _ h => h) (Or.inl ⟨by rfl, ?_⟩) ?_ ?_
                    rotate_left
                    · intro w'
                      go_simp
                      with_reducible rfl
                    rotate_left
                    · simp only [Act.put, List.setIfInBounds_toArray, List.set_cons_zero, List.set_cons_succ, i64_w, i32_w]
                      rfl
                    refine take_ (i := 2) (N := some 57) (v := ?_) (a' := ?_) #[true, true, true, false, false, false, false, false, false, false] rfl rfl (by kernel_rfl) (fun _ _ _ h => h) (Or.inl ⟨by rfl, ?_⟩) hHeld ?_ ?_
                    rotate_left
                    · rintro w' ⟨s0, s1⟩
                      go_simp
                      with_reducible rfl
                    rotate_left
                    · simp only [Act.put, List.setIfInBounds_toArray, List.set_cons_zero, List.set_cons_succ, i64_w, i32_w]
                      rfl
                    refine pure_ (i := 3) (N := some 58) (v := ?_) (a' := ?_) #[true, true, true, true, false, false, false, false, false, false] rfl rfl (by kernel_rfl) (fun _ _ _ h => h) (Or.inl ⟨by rfl, ?_⟩) ?_ ?_
                    rotate_left
                    · intro w'
                      go_simp
                      with_reducible rfl
                    rotate_left
                    · simp only [Act.put, List.setIfInBounds_toArray, List.set_cons_zero, List.set_cons_succ, i64_w, i32_w]
                      rfl
                    refine pure_ (i := 4) (N := some 59) (v := ?_) (a' := ?_) #[true, true, true, true, true, false, false, false, false, false] rfl rfl (by kernel_rfl) (fun _ _ _ h => h) (Or.inl ⟨by rfl, ?_⟩) ?_ ?_
                    rotate_left
                    · intro w'
                      go_simp
                      with_reducible rfl
                    rotate_left
                    · simp only [Act.put, List.setIfInBounds_toArray, List.set_cons_zero, List.set_cons_succ, i64_w, i32_w]
                      rfl
                    refine one_ (i := 5) (N := some 60) #[true, true, true, true, true, true, false, false, false, false] rfl rfl (by kernel_rfl) (by decide) (fun K hK => ?_)
                    refine goes_ Try.func50 (by kernel_rfl) rfl #[.slice B2 s.f2.length e2, .int .i64 ((k : Int) - 1)] (by rfl) rfl rfl (by (try simp only [List.map_toArray, List.map_cons, List.map_nil]); first | done | rfl) ?_
                    with_reducible refine (pages_at.calls _ _ _ ((k : Int) - 1) _ _ (Kd.C_below HG2.out.2 HBq.out.b) HG2.out.1 (pages_Flow.at_eq _ _ (by have := HK0.out; omega))).mono ?_
                    rintro e z3 ⟨rfl, hd⟩
                    refine ⟨_, rfl, ?_⟩
                    have m0_ := Aside0.mk (HBq.out.drawn hd)
                    clear HBq hd
                    have HBq := m0_
                    clear m0_
                    refine hK.out _ _ ⟨(blk_cell HBq.out.o 0).trans rfl, (blk_cell HBq.out.x 2).trans rfl⟩ (fun hHeld => ?_)
                    clear hK K
                    refine norm_ (a' := ?_) ?_ ?_
                    rotate_left
                    · show Act.put _ (some 60) _ = _
                      simp only [Act.put, List.setIfInBounds_toArray, List.set_cons_zero, List.set_cons_succ, i64_w, i32_w]
                      rfl
                    refine pure_ (i := 6) (N := some 61) (v := ?_) (a' := ?_) #[true, true, true, true, true, true, true, false, false, false] rfl rfl (by kernel_rfl) (fun _ _ _ h => h) (Or.inl ⟨by rfl, ?_⟩) ?_ ?_
                    rotate_left
                    · intro w'
                      go_simp
                      with_reducible rfl
                    rotate_left
                    · simp only [Act.put, List.setIfInBounds_toArray, List.set_cons_zero, List.set_cons_succ, i64_w, i32_w]
                      rfl
                    refine one_ (i := 7) (N := some 62) #[true, true, true, true, true, true, true, true, false, false] rfl rfl (by kernel_rfl) (by decide) (fun K hK => ?_)
                    refine value_ (w1 := ?_) (v := ?_) (by rfl) rfl ?_ ?_
                    rotate_left 2
                    · go_simp
                      constructor
                      · rfl
                      · rfl
                    refine hK.out _ _ ⟨(blk_cell (blk_alloc HBq.out.o _) 0).trans rfl, (blk_cell (blk_alloc HBq.out.x _) 2).trans rfl⟩ (fun hHeld => ?_)
                    clear hK K
                    refine norm_ (a' := ?_) ?_ ?_
                    rotate_left
                    · show Act.put _ (some 62) _ = _
                      simp only [Act.put, List.setIfInBounds_toArray, List.set_cons_zero, List.set_cons_succ, i64_w, i32_w]
                      rfl
                    refine one_ (i := 8) (N := some 63) #[true, true, true, true, true, true, true, true, true, false] rfl rfl (by kernel_rfl) (by decide) (fun K hK => ?_)
                    refine Kd.R_append_step k43 (w0 := w) w.heap.size (by rfl) (.tmp 55) (.tmp 62) 22 43 (.agg #[(.int .i64 0), (.int .i64 0), (.int .i64 0), (.int .i64 0)]) 32 rfl Try.underlying22 info43 rfl (by decide) (by omega) (.slice Aq q.length cq) q (⟨3, 0, 0, pages_Flow.atT s.f2 ((k : Int) - 1)⟩ : S43) [.int .i64 (3), .int .i64 (0), .int .i64 (0), .int .i64 (pages_Flow.atT s.f2 ((k : Int) - 1))] (fun _ => True) (fun _ => False) rfl rfl (k43_mkM _ _ _ _) (fun _ hk => hk.elim) (fun _ _ => trivial) HBq.out.r HBq.out.b HBq.out.b.size ?hl ?_
                    case hl => have := HLq.out; omega
                    intro v4 z4 ho hb hg hat
                    obtain ⟨ta, hta⟩ : ∃ z, q ++ [(⟨3, 0, 0, pages_Flow.atT s.f2 ((k : Int) - 1)⟩ : S43)] = z := ⟨_, rfl⟩
                    rw [hta] at ho
                    obtain ⟨A_ta, c_ta, rfl⟩ := Kd.R_slice ho
                    have HBy := Aside0.mk (HBq.out.push hg hb ho)
                    have HLta : Aside0 (ta.length ≤ 8002 * 4000 + 3 + (2 * k + 1)) := ⟨by rw [← hta, List.length_append, List.length_singleton]; have := HLq.out; omega⟩
                    have HEta := Aside0.mk hta
                    have PO := Aside0.mk (blk_grown HBq.out.o hg (Kd.R_ne HBq.out.r HBq.out.o (by decide)))
                    have PX := Aside0.mk (blk_grown HBq.out.x hg (Kd.R_ne HBq.out.r HBq.out.x (by decide)))
                    clear hb hg hat ho hta HBq
                    refine hK.out _ _ ⟨(blk_cell PO.out 0).trans rfl, (blk_cell PX.out 2).trans rfl⟩ (fun hHeld => ?_)
                    clear hK K
                    refine norm_ (a' := ?_) ?_ ?_
                    rotate_left
                    · show Act.put _ (some 63) _ = _
                      simp only [Act.put, List.setIfInBounds_toArray, List.set_cons_zero, List.set_cons_succ, i64_w, i32_w]
                      rfl
                    refine last_ (i := 9) (N := none) #[true, true, true, true, true, true, true, true, true, true] rfl rfl (by kernel_rfl) (by decide) (fun K hK => ?_)
                    have hs_ : z4.cell? ⟨w.heap.size + 1, 0, none⟩ = some (.slice Aq q.length cq) := (blk_cell PO.out 0).trans rfl
                    have hf_ := blk_frozen PO.out 0
                    refine skip_ (w1 := ?_) (by rfl) rfl ?_ ?_
                    rotate_left
                    · go_simp
                      rfl
                    refine hK.out _ _ ?_
                    clear hK K
                    refine done_ (by kernel_rfl) ?_
                    clear PO PX
                    obtain ⟨ta_w, ew⟩ : ∃ z, z4.setCell ⟨w.heap.size + 1, 0, none⟩ (.slice A_ta ta.length c_ta) = z := ⟨_, rfl⟩
                    rw [ew] at HBy
                    rw [ew]
                    clear ew
                    gi_wp2
                    have m0_ := Aside0.mk (HBy.out.drew)
                    clear HBy
                    have HBy := m0_
                    clear m0_
                    refine Rnd.start_in (m := 10) (S := fun w' => w'.cell? ⟨w.heap.size + 1, 0, none⟩ = some (.slice A_ta ta.length c_ta) ∧ w'.cell? ⟨Bx, 1, none⟩ = some (.slice B1 s.f1.length e1)) (ds := [9]) #[false, false, false, false, false, false, false, false, false, false] (by kernel_rfl) rfl rfl (by kernel_rfl) (fun ⟨_, _, h_⟩ => h_) ⟨(blk_cell HBy.out.o 0).trans rfl, (blk_cell HBy.out.x 1).trans rfl⟩ (fun hHeld => ?_)
                    generalize ta_w.drew = z2 at HBy hHeld ⊢
                    refine take_ (i := 0) (N := some 64) (v := ?_) (a' := ?_) #[true, false, false, false, false, false, false, false, false, false] rfl rfl (by kernel_rfl) (fun _ _ _ h => h) (Or.inl ⟨by rfl, ?_⟩) hHeld ?_ ?_
                    rotate_left
                    · rintro w' ⟨s0, s1⟩
                      go_simp
                      with_reducible rfl
                    rotate_left
                    · simp only [Act.put, List.setIfInBounds_toArray, List.set_cons_zero, List.set_cons_succ, i64_w, i32_w]
                      rfl
                    refine pure_ (i := 1) (N := some 65) (v := ?_) (a' := ?_) #[true, true, false, false, false, false, false, false, false, false] rfl rfl (by kernel_rfl) (fun _ _ _ h => h) (Or.inl ⟨by rfl, ?_⟩) ?_ ?_
                    rotate_left
                    · intro w'
                      go_simp
                      with_reducible rfl
                    rotate_left
                    · simp only [Act.put, List.setIfInBounds_toArray, List.set_cons_zero, List.set_cons_succ, i64_w, i32_w]
                      rfl
                    refine pure_ (i := 2) (N := some 66) (v := ?_) (a' := ?_) #[true, true, true, false, false, false, false, false, false, false] rfl rfl (by kernel_rfl) (fun _ _ _ h => h) (Or.inl ⟨by rfl, ?_⟩) ?_ ?_
                    rotate_left
                    · intro w'
                      go_simp
                      with_reducible rfl
                    rotate_left
                    · simp only [Act.put, List.setIfInBounds_toArray, List.set_cons_zero, List.set_cons_succ, i64_w, i32_w]
                      rfl
                    refine take_ (i := 3) (N := some 67) (v := ?_) (a' := ?_) #[true, true, true, true, false, false, false, false, false, false] rfl rfl (by kernel_rfl) (fun _ _ _ h => h) (Or.inl ⟨by rfl, ?_⟩) hHeld ?_ ?_
                    rotate_left
                    · rintro w' ⟨s0, s1⟩
                      go_simp
                      with_reducible rfl
                    rotate_left
                    · simp only [Act.put, List.setIfInBounds_toArray, List.set_cons_zero, List.set_cons_succ, i64_w, i32_w]
                      rfl
                    refine pure_ (i := 4) (N := some 68) (v := ?_) (a' := ?_) #[true, true, true, true, true, false, false, false, false, false] rfl rfl (by kernel_rfl) (fun _ _ _ h => h) (Or.inl ⟨by rfl, ?_⟩) ?_ ?_
                    rotate_left
                    · intro w'
                      go_simp
                      with_reducible rfl
                    rotate_left
                    · simp only [Act.put, List.setIfInBounds_toArray, List.set_cons_zero, List.set_cons_succ, i64_w, i32_w]
                      rfl
                    refine one_ (i := 5) (N := some 69) #[true, true, true, true, true, true, false, false, false, false] rfl rfl (by kernel_rfl) (by decide) (fun K hK => ?_)
                    refine goes_ Try.func50 (by kernel_rfl) rfl #[.slice B1 s.f1.length e1, .int .i64 ((k : Int))] (by rfl) rfl rfl (by (try simp only [List.map_toArray, List.map_cons, List.map_nil]); first | done | rfl) ?_
                    with_reducible refine (pages_at.calls _ _ _ ((k : Int)) _ _ (Kd.C_below HG1.out.2 HBy.out.b) HG1.out.1 (pages_Flow.at_eq _ _ (by omega))).mono ?_
                    rintro e z3 ⟨rfl, hd⟩
                    refine ⟨_, rfl, ?_⟩
                    have m0_ := Aside0.mk (HBy.out.drawn hd)
                    clear HBy hd
                    have HBy := m0_
                    clear m0_
                    refine hK.out _ _ ⟨(blk_cell HBy.out.o 0).trans rfl, (blk_cell HBy.out.x 1).trans rfl⟩ (fun hHeld => ?_)
                    clear hK K
                    refine norm_ (a' := ?_) ?_ ?_
                    rotate_left
                    · show Act.put _ (some 69) _ = _
                      simp only [Act.put, List.setIfInBounds_toArray, List.set_cons_zero, List.set_cons_succ, i64_w, i32_w]
                      rfl
                    refine pure_ (i := 6) (N := some 70) (v := ?_) (a' := ?_) #[true, true, true, true, true, true, true, false, false, false] rfl rfl (by kernel_rfl) (fun _ _ _ h => h) (Or.inl ⟨by rfl, ?_⟩) ?_ ?_
                    rotate_left
                    · intro w'
                      go_simp
                      with_reducible rfl
                    rotate_left
                    · simp only [Act.put, List.setIfInBounds_toArray, List.set_cons_zero, List.set_cons_succ, i64_w, i32_w]
                      rfl
                    refine one_ (i := 7) (N := some 71) #[true, true, true, true, true, true, true, true, false, false] rfl rfl (by kernel_rfl) (by decide) (fun K hK => ?_)
                    refine value_ (w1 := ?_) (v := ?_) (by rfl) rfl ?_ ?_
                    rotate_left 2
                    · go_simp
                      constructor
                      · rfl
                      · rfl
                    refine hK.out _ _ ⟨(blk_cell (blk_alloc HBy.out.o _) 0).trans rfl, (blk_cell (blk_alloc HBy.out.x _) 1).trans rfl⟩ (fun hHeld => ?_)
                    clear hK K
                    refine norm_ (a' := ?_) ?_ ?_
                    rotate_left
                    · show Act.put _ (some 71) _ = _
                      simp only [Act.put, List.setIfInBounds_toArray, List.set_cons_zero, List.set_cons_succ, i64_w, i32_w]
                      rfl
                    refine one_ (i := 8) (N := some 72) #[true, true, true, true, true, true, true, true, true, false] rfl rfl (by kernel_rfl) (by decide) (fun K hK => ?_)
                    refine Kd.R_append_step k43 (w0 := w) w.heap.size (by rfl) (.tmp 64) (.tmp 71) 22 43 (.agg #[(.int .i64 0), (.int .i64 0), (.int .i64 0), (.int .i64 0)]) 32 rfl Try.underlying22 info43 rfl (by decide) (by omega) (.slice A_ta ta.length c_ta) ta (⟨1, (rd s.f0 (k : Int)), pages_Flow.atT s.f1 (k : Int), 0⟩ : S43) [.int .i64 (1), .int .i64 ((rd s.f0 (k : Int))), .int .i64 (pages_Flow.atT s.f1 (k : Int)), .int .i64 (0)] (fun _ => True) (fun _ => False) rfl rfl (k43_mkM _ _ _ _) (fun _ hk => hk.elim) (fun _ _ => trivial) HBy.out.r HBy.out.b HBy.out.b.size ?hl ?_
                    case hl => have := HLta.out; omega
                    intro v4 z4 ho hb hg hat
                    obtain ⟨t3, ht3⟩ : ∃ z, ta ++ [(⟨1, (rd s.f0 (k : Int)), pages_Flow.atT s.f1 (k : Int), 0⟩ : S43)] = z := ⟨_, rfl⟩
                    rw [ht3] at ho
                    obtain ⟨A_t3, c_t3, rfl⟩ := Kd.R_slice ho
                    have HBz := Aside0.mk (HBy.out.push hg hb ho)
                    have HLt3 : Aside0 (t3.length ≤ 8002 * 4000 + 3 + (2 * k + 2)) := ⟨by rw [← ht3, List.length_append, List.length_singleton]; have := HLta.out; omega⟩
                    have HEt3 := Aside0.mk ht3
                    have PO := Aside0.mk (blk_grown HBy.out.o hg (Kd.R_ne HBy.out.r HBy.out.o (by decide)))
                    have PX := Aside0.mk (blk_grown HBy.out.x hg (Kd.R_ne HBy.out.r HBy.out.x (by decide)))
                    clear hb hg hat ho ht3 HBy
                    refine hK.out _ _ ⟨(blk_cell PO.out 0).trans rfl, (blk_cell PX.out 1).trans rfl⟩ (fun hHeld => ?_)
                    clear hK K
                    refine norm_ (a' := ?_) ?_ ?_
                    rotate_left
                    · show Act.put _ (some 72) _ = _
                      simp only [Act.put, List.setIfInBounds_toArray, List.set_cons_zero, List.set_cons_succ, i64_w, i32_w]
                      rfl
                    refine last_ (i := 9) (N := none) #[true, true, true, true, true, true, true, true, true, true] rfl rfl (by kernel_rfl) (by decide) (fun K hK => ?_)
                    have hs_ : z4.cell? ⟨w.heap.size + 1, 0, none⟩ = some (.slice A_ta ta.length c_ta) := (blk_cell PO.out 0).trans rfl
                    have hf_ := blk_frozen PO.out 0
                    refine skip_ (w1 := ?_) (by rfl) rfl ?_ ?_
                    rotate_left
                    · go_simp
                      rfl
                    refine hK.out _ _ ?_
                    clear hK K
                    refine done_ (by kernel_rfl) ?_
                    clear PO PX
                    obtain ⟨t3_w, ew⟩ : ∃ z, z4.setCell ⟨w.heap.size + 1, 0, none⟩ (.slice A_t3 t3.length c_t3) = z := ⟨_, rfl⟩
                    rw [ew] at HBz
                    rw [ew]
                    clear ew
                    gi_wp2
                    go_roundw
                    case rel => exact ⟨k + 1, _, _, t3, by omega, by simp, HBz, ⟨by have := HQ2.out; rw [if_neg HK0.out] at this; rw [← HEt3.out, ← HEta.out, List.append_assoc, List.append_assoc]; exact this⟩, ⟨by have := HLt3.out; omega⟩⟩
                    case measure => (try simp [intOf]); omega
                · obtain rfl : k = s.f0.length := by omega
                  have kc1 : ((s.f0.length : Int) < (s.f0.length : Int)) = False := eq_false (by omega)
                  have kc2 : (s.f0.length < s.f0.length) = False := eq_false (by omega)
                  have hq : q = Tf := by have := HQ.out; rw [List.drop_eq_nil_of_le (Nat.le_refl _), pages_Flow.itm, List.append_nil] at this; exact this
                  clear HQ
                  have hx0 : wr.cell? ⟨Bx, 0, none⟩ = some (.slice B0 s.f0.length e0) := (blk_cell HBq.out.x 0).trans rfl
                  have hx1 : wr.cell? ⟨Bx, 1, none⟩ = some (.slice B1 s.f1.length e1) := (blk_cell HBq.out.x 1).trans rfl
                  have hx2 : wr.cell? ⟨Bx, 2, none⟩ = some (.slice B2 s.f2.length e2) := (blk_cell HBq.out.x 2).trans rfl
                  have hx3 : wr.cell? ⟨Bx, 3, none⟩ = some (.int .i64 s.f3) := (blk_cell HBq.out.x 3).trans rfl
                  have hx4 : wr.cell? ⟨Bx, 4, none⟩ = some (.int .i64 s.f4) := (blk_cell HBq.out.x 4).trans rfl
                  have hx5 : wr.cell? ⟨Bx, 5, none⟩ = some (.bool s.f5) := (blk_cell HBq.out.x 5).trans rfl
                  have hx6 : wr.cell? ⟨Bx, 6, none⟩ = some (.bool s.f6) := (blk_cell HBq.out.x 6).trans rfl
                  have ha0 : wr.cell? ⟨w.heap.size + 2, 0, none⟩ = some (.slice D0 ah.f0.length d0) := (blk_cell HBq.out.a 0).trans rfl
                  have ha1 : wr.cell? ⟨w.heap.size + 2, 1, none⟩ = some (.slice D1 ah.f1.length d1) := (blk_cell HBq.out.a 1).trans rfl
                  have ha2 : wr.cell? ⟨w.heap.size + 2, 2, none⟩ = some (.slice D2 ah.f2.length d2) := (blk_cell HBq.out.a 2).trans rfl
                  have ha3 : wr.cell? ⟨w.heap.size + 2, 3, none⟩ = some (.int .i64 ah.f3) := (blk_cell HBq.out.a 3).trans rfl
                  have ha4 : wr.cell? ⟨w.heap.size + 2, 4, none⟩ = some (.int .i64 ah.f4) := (blk_cell HBq.out.a 4).trans rfl
                  have ha5 : wr.cell? ⟨w.heap.size + 2, 5, none⟩ = some (.bool ah.f5) := (blk_cell HBq.out.a 5).trans rfl
                  have ha6 : wr.cell? ⟨w.heap.size + 2, 6, none⟩ = some (.bool ah.f6) := (blk_cell HBq.out.a 6).trans rfl
                  have fa0 := blk_frozen HBq.out.a 0
                  have fa1 := blk_frozen HBq.out.a 1
                  have fa2 := blk_frozen HBq.out.a 2
                  have fa3 := blk_frozen HBq.out.a 3
                  have fa4 := blk_frozen HBq.out.a 4
                  have fa5 := blk_frozen HBq.out.a 5
                  have fa6 := blk_frozen HBq.out.a 6
                  have hk0 : wr.cell? ⟨w.heap.size, 0, none⟩ = some (.int .i64 a1) := (blk_cell HBq.out.k0 0).trans rfl
                  have ho1 : wr.cell? ⟨w.heap.size + 1, 0, none⟩ = some (.slice Aq q.length cq) := (blk_cell HBq.out.o 0).trans rfl
                  have fo1 := blk_frozen HBq.out.o 0
                  gi_wp2
                  have HB7 := (((((((HBq.out.ahead 0 (.slice B0 s.f0.length e0)).ahead 1 (.slice B1 s.f1.length e1)).ahead 2 (.slice B2 s.f2.length e2)).ahead 3 (.int .i64 s.f3)).ahead 4 (.int .i64 s.f4)).ahead 5 (.bool s.f5)).ahead 6 (.bool false))
                  exact ⟨HB7.kf.from _, HB7.bw, HB7.iv (x := xe) (by rw [hxe, h6]; rfl) (by rw [HTL.out, hxe]; dsimp only; unfold pages_Flow.rnd; rw [if_neg (show ¬ s.f6 = true by rw [h6]; decide), if_neg (show ¬ ah.f6 = true by rw [h7]; decide), if_neg (show ¬ ah.f6 = true by rw [h7]; decide), show mx s.f3 ah.f4 = s.f3 from if_neg (by have := HM.out; omega), if_neg (show ¬ ah.f5 = true by rw [h5]; decide), hq, ← HTf.out, ← HEt2.out, ← HEt1.out]; simp) (by rw [HTL.out]; exact HN.out) HSZ.out⟩

    case done =>
      rintro D xs W hD hxs hI hd
      obtain ⟨k0, ⟨v, o1, o2⟩, ⟨ca, ha1, ha2⟩, hb, hn, hsz⟩ := hI
      rw [hxs] at o2 hn
      have hlen : (pages_Flow.tl a1 (List.filter pages_Flow.kept l0)).1.length ≤ 8002 * 4000 := by
        have h1 : xs.length = (l0.filter pages_Flow.kept).length := by rw [← hxs, List.length_map]
        have h2 := List.length_filter_le pages_Flow.kept l0
        have := HC.out.1
        omega
      have hc1 : W.cell? ⟨w.heap.size + 1, 0, none⟩ = some v := (blk_cell o1 0).trans rfl
      obtain ⟨tt, htt⟩ : ∃ z, (pages_Flow.tl a1 (List.filter pages_Flow.kept l0)).1 = z := ⟨_, rfl⟩
      rw [htt] at o2 hlen
      have HT := Aside0.mk htt
      obtain ⟨t2, ht2⟩ : ∃ z, tt ++ [(⟨3, 0, 0, -10000⟩ : S43)] = z := ⟨_, rfl⟩
      have HT2 := Aside0.mk ht2
      clear ht2
      have O2 := Aside0.mk o2
      have HD := Aside0.mk hd
      have HB := Aside0.mk hb
      clear o2 hd hb hn htt
      gi_wp2_with (gi_at_builtin; refine Rnd.R_append_in k43 (w0 := w) w.heap.size rfl (.tmp 75) (.tmp 77) 22 43 (.agg #[(.int .i64 0), (.int .i64 0), (.int .i64 0), (.int .i64 0)]) 32 rfl Try.underlying22 info43 rfl (by decide) (by omega) v tt (⟨3, 0, 0, -10000⟩ : S43) [.int .i64 3, .int .i64 0, .int .i64 0, .int .i64 (-10000)] (fun _ => True) (fun _ => False) rfl rfl (k43_mkM _ _ _ _) (fun _ hk => hk.elim) (fun _ _ => trivial) O2.out HB.out HB.out.size (by omega) ?_; intro v4 w9 ho hb hg hat; rw [HT2.out] at ho; obtain ⟨A9, c9, rfl⟩ := Kd.R_slice ho)
      have hd9 : w9.heap[D]? = some (.deferred (some [])) := (hg.block D (Array.getElem?_eq_some_iff.1 HD.out).1 (fun he => by
        obtain ⟨cells, hc⟩ := Kd.R_typed O2.out D he.symm
        rw [HD.out] at hc
        injection hc with hc
        cases hc)).trans HD.out
      refine ⟨by simp, .inl ⟨_, _, rfl, run_takeDeferred hd9, ?_⟩⟩
      refine ⟨_, results_tmp rfl _ _ _, _, rfl, ?_, ?_⟩
      · rw [HT.out, HT2.out]
        exact pages_Flow.putR ho hd9
      · exact hb.trans (belowK_b (w := w) (Nat.le_refl _) w9 D _ _ (by omega) hd9 rfl rfl)
    case stop =>
      rintro D c pre W hD _ h _
      exact h.elim
  · rw [if_neg hc] at h
    cases h

end Flow

end Go.Proofs.Ytogjeababinnlaa.PPagesFlow
