/- A column, made ready, in memory: the block of its four slices, and the rows that they lead to. -/
import Derived.Test.YtogjeababinnlaaProg
import Derived.Below
import Derived.Deep.Draws
import Derived.Deep.AppendLies
import Derived.Maps.AppendAt
import Derived.OwnWalk
import Derived.Laws.BytesArg
import Derived.Laws.MakeOwn
import Derived.Laws.OwnMore
import Derived.Deep.OwnRows
import Derived.Tactics
import Derived.WalkKit
import Derived.KernelRfl
import Derived.RowKit3
import Derived.Laws.Rows
import Derived.Lib.OthersKept
import Derived.Test.YtogjeababinnlaaWWords
import Derived.Test.YtogjeababinnlaaWMore
import Derived.Test.YtogjeababinnlaaWLast
import Derived.Test.YtogjeababinnlaaWInvWords
namespace Go.Proofs.Ytogjeababinnlaa.Pg
open Go.RowKit Go.Proofs.YtogjeababinnlaaW.PrintWords Go.Proofs.YtogjeababinnlaaW.PrintLast Go.Proofs.YtogjeababinnlaaW.PrintMore
set_option linter.unusedVariables false
set_option linter.unusedSimpArgs false
def Col {α : Type} (d : Kd α) (w : World) (g : Nat) (l : List α) (hs fs ms : List Int) : Prop :=
  ∃ A0 c0 A1 c1 A2 c2 A3 c3, w.heap[g]? = some (.cells #[.slice A0 l.length c0, .slice A1 hs.length c1, .slice A2 fs.length c2, .slice A3 ms.length c3] 67 (0, 0)) ∧
    Kd.C d w A0 l.length l ∧ Kd.C (Kd.int .i64) w A1 hs.length hs ∧ Kd.C (Kd.int .i64) w A2 fs.length fs ∧ Kd.C (Kd.int .i64) w A3 ms.length ms
theorem Col.below {α : Type} {d : Kd α} {w w' : World} {g : Nat} {l : List α} {hs fs ms : List Int} (h : Col d w g l hs fs ms) (hb : Below w.heap.size w w') : Col d w' g l hs fs ms := by
  obtain ⟨A0, c0, A1, c1, A2, c2, A3, c3, HG, H0, H1, H2, H3⟩ := h
  exact ⟨A0, c0, A1, c1, A2, c2, A3, c3, (hb.block g (Array.getElem?_eq_some_iff.1 HG).1).trans HG, Kd.C_below H0 hb, Kd.C_below H1 hb, Kd.C_below H2 hb, Kd.C_below H3 hb⟩
theorem cell4 {w : World} {g : Nat} {v0 v1 v2 v3 : Value} (h : w.heap[g]? = some (.cells #[v0, v1, v2, v3] 67 (0, 0))) : w.cell? ⟨g, 0, none⟩ = some v0 ∧ w.cell? ⟨g, 1, none⟩ = some v1 ∧ w.cell? ⟨g, 2, none⟩ = some v2 ∧ w.cell? ⟨g, 3, none⟩ = some v3 := by
  simp [World.cell?, h]
/-- A row of whole numbers, as a block. -/
def Row (w : World) (b : Nat) (X : List Int) : Prop := w.heap[b]? = some (.cells (X.map (Value.int .i64)).toArray 3 (0, 0))
section
variable {w w' : World} {b b' : Nat} {X : List Int}
theorem Row.lt (h : Row w b X) : b < w.heap.size := blk_lt h
theorem Row.below (h : Row w b X) (hb : Below w.heap.size w w') : Row w' b X := (hb.block b h.lt).trans h
theorem Row.alloc (h : Row w b X) (o : Obj) : Row (w.alloc o) b X := h.below (below_alloc (Below.refl _ _) o)
theorem Row.cell (h : Row w b X) (i : Int) (h0 : 0 ≤ i) (h1 : i < (X.length : Int)) : w.cell? ⟨b, i.toNat, none⟩ = some (.int .i64 (rd X i)) := by
  rw [blk_cell h]
  have hi : i.toNat < X.length := by omega
  simp [rd, List.getD_eq_getElem?_getD, hi]
theorem Row.frozen (h : Row w b X) (i : Nat) : w.frozen? ⟨b, i, none⟩ = false := blk_frozen h i
theorem Row.set (h : Row w b X) (i : Nat) (v : Int) : Row (w.setCell ⟨b, i, none⟩ (.int .i64 v)) b (X.set i v) := by
  unfold Row at h ⊢
  rw [heap_setCell_same w b i _ 3 _ h]
  congr 2
  rw [List.map_set]
  simp
theorem Row.other (h : Row w b X) (hne : b ≠ b') (i : Nat) (u : Value) : Row (w.setCell ⟨b', i, none⟩ u) b X := (heap_setCell_other w ⟨b', i, none⟩ b u hne).trans h
theorem Row.C (h : Row w b X) (hX : X.length ≤ 100000) : Kd.C (Kd.int .i64) w (some ⟨b, 0, none⟩) X.length X := by
  refine ⟨rfl, by omega, fun _ => ⟨_, rfl, fun j p hp => ⟨[.int .i64 p], rfl, rfl, fun i u hu => ?_⟩⟩⟩
  cases i with
  | succ i => simp at hu
  | zero =>
    obtain rfl : Value.int .i64 p = u := by simpa using hu
    rw [add_plain, blk_cell h]
    show (X.map (Value.int .i64)).toArray[j * 1 + 0]? = _
    simp [hp]
end
/-- n times 0. -/
def zeros (n : Nat) : List Int := List.replicate n 0
theorem made_zeros (n : Nat) : madeCells (Value.int .i64 0).cells (n * 1) = ((zeros n).map (Value.int .i64)).toArray := by
  apply Array.ext'
  apply List.ext_getElem
  · simp [madeCells, zeros]
  · intro i h1 h2
    simp [madeCells, zeros, Value.cells, Nat.mod_one]
/-- A column in the making. -/
def Made (w wc : World) (A0 : Option Addr) (n0 c0 m g b1 b2 b3 : Nat) (X1 X2 X3 : List Int) : Prop :=
  wc.heap[g]? = some (.cells #[.slice A0 n0 c0, .slice (some ⟨b1, 0, none⟩) m m, .slice (some ⟨b2, 0, none⟩) m m, .slice (some ⟨b3, 0, none⟩) m m] 67 (0, 0)) ∧
  Row wc b1 X1 ∧ Row wc b2 X2 ∧ Row wc b3 X3 ∧ X1.length = m ∧ X2.length = m ∧ X3.length = m ∧ (b1 ≠ b2 ∧ b1 ≠ b3 ∧ b2 ≠ b3 ∧ g ≠ b1 ∧ g ≠ b2 ∧ g ≠ b3) ∧ (w.heap.size ≤ g ∧ w.heap.size ≤ b1 ∧ w.heap.size ≤ b2 ∧ w.heap.size ≤ b3) ∧ Below w.heap.size w wc
section
variable {w wc : World} {A0 : Option Addr} {n0 c0 m g b1 b2 b3 : Nat} {X1 X2 X3 : List Int}
theorem Made.hb (h : Made w wc A0 n0 c0 m g b1 b2 b3 X1 X2 X3) : Below w.heap.size w wc := h.2.2.2.2.2.2.2.2.2
theorem Made.set1 (h : Made w wc A0 n0 c0 m g b1 b2 b3 X1 X2 X3) (i : Nat) (v : Int) : Made w (wc.setCell ⟨b1, i, none⟩ (.int .i64 v)) A0 n0 c0 m g b1 b2 b3 (X1.set i v) X2 X3 := by
  obtain ⟨h0, h1, h2, h3, l1, l2, l3, ⟨d1, d2, d3, d4, d5, d6⟩, ⟨g0, g1, g2, g3⟩, hb⟩ := h
  exact ⟨blk_far h0 d4 _, h1.set i v, h2.other (Ne.symm d1) i _, h3.other (Ne.symm d2) i _, by rw [List.length_set]; exact l1, l2, l3, ⟨d1, d2, d3, d4, d5, d6⟩, ⟨g0, g1, g2, g3⟩, below_set hb g1⟩
theorem Made.set2 (h : Made w wc A0 n0 c0 m g b1 b2 b3 X1 X2 X3) (i : Nat) (v : Int) : Made w (wc.setCell ⟨b2, i, none⟩ (.int .i64 v)) A0 n0 c0 m g b1 b2 b3 X1 (X2.set i v) X3 := by
  obtain ⟨h0, h1, h2, h3, l1, l2, l3, ⟨d1, d2, d3, d4, d5, d6⟩, ⟨g0, g1, g2, g3⟩, hb⟩ := h
  exact ⟨blk_far h0 d5 _, h1.other d1 i _, h2.set i v, h3.other (Ne.symm d3) i _, l1, by rw [List.length_set]; exact l2, l3, ⟨d1, d2, d3, d4, d5, d6⟩, ⟨g0, g1, g2, g3⟩, below_set hb g2⟩
theorem Made.set3 (h : Made w wc A0 n0 c0 m g b1 b2 b3 X1 X2 X3) (i : Nat) (v : Int) : Made w (wc.setCell ⟨b3, i, none⟩ (.int .i64 v)) A0 n0 c0 m g b1 b2 b3 X1 X2 (X3.set i v) := by
  obtain ⟨h0, h1, h2, h3, l1, l2, l3, ⟨d1, d2, d3, d4, d5, d6⟩, ⟨g0, g1, g2, g3⟩, hb⟩ := h
  exact ⟨blk_far h0 d6 _, h1.other d2 i _, h2.other d3 i _, h3.set i v, l1, l2, by rw [List.length_set]; exact l3, ⟨d1, d2, d3, d4, d5, d6⟩, ⟨g0, g1, g2, g3⟩, below_set hb g3⟩
theorem Made.below {w' : World} (h : Made w wc A0 n0 c0 m g b1 b2 b3 X1 X2 X3) (hw : Below wc.heap.size wc w') : Made w w' A0 n0 c0 m g b1 b2 b3 X1 X2 X3 := by
  obtain ⟨h0, h1, h2, h3, l1, l2, l3, hd, hg, hb⟩ := h
  exact ⟨(hw.block g (blk_lt h0)).trans h0, h1.below hw, h2.below hw, h3.below hw, l1, l2, l3, hd, hg, below_step hb hw⟩
theorem Made.alloc (h : Made w wc A0 n0 c0 m g b1 b2 b3 X1 X2 X3) (o : Obj) : Made w (wc.alloc o) A0 n0 c0 m g b1 b2 b3 X1 X2 X3 := h.below (below_alloc (Below.refl _ _) o)
theorem Made.drewN (h : Made w wc A0 n0 c0 m g b1 b2 b3 X1 X2 X3) (k : Nat) : Made w (wc.drewN k) A0 n0 c0 m g b1 b2 b3 X1 X2 X3 := h.below (pw_below_drewN (Below.refl _ _) k)
theorem Made.drew (h : Made w wc A0 n0 c0 m g b1 b2 b3 X1 X2 X3) : Made w wc.drew A0 n0 c0 m g b1 b2 b3 X1 X2 X3 := h.below (below_drew1 (Below.refl _ _))
/-- Three rows and the block of their slices, made one behind the other, in whatever order the rows came. -/
theorem Made.start (hb : Below w.heap.size w wc) (m : Nat) (A0 : Option Addr) (n0 c0 : Nat) (p1 p2 p3 : Nat) (hp : p1 < 3 ∧ p2 < 3 ∧ p3 < 3 ∧ p1 ≠ p2 ∧ p1 ≠ p3 ∧ p2 ≠ p3) :
    Made w ((((wc.alloc (.cells ((zeros m).map (Value.int .i64)).toArray 3)).alloc (.cells ((zeros m).map (Value.int .i64)).toArray 3)).alloc (.cells ((zeros m).map (Value.int .i64)).toArray 3)).alloc
      (.cells #[.slice A0 n0 c0, .slice (some ⟨wc.heap.size + p1, 0, none⟩) m m, .slice (some ⟨wc.heap.size + p2, 0, none⟩) m m, .slice (some ⟨wc.heap.size + p3, 0, none⟩) m m] 67))
      A0 n0 c0 m (wc.heap.size + 3) (wc.heap.size + p1) (wc.heap.size + p2) (wc.heap.size + p3) (zeros m) (zeros m) (zeros m) := by
  have hz : (zeros m).length = m := by simp [zeros]
  have hs := hb.size
  have row : ∀ p, p < 3 → Row ((((wc.alloc (.cells ((zeros m).map (Value.int .i64)).toArray 3)).alloc (.cells ((zeros m).map (Value.int .i64)).toArray 3)).alloc (.cells ((zeros m).map (Value.int .i64)).toArray 3)).alloc
      (.cells #[.slice A0 n0 c0, .slice (some ⟨wc.heap.size + p1, 0, none⟩) m m, .slice (some ⟨wc.heap.size + p2, 0, none⟩) m m, .slice (some ⟨wc.heap.size + p3, 0, none⟩) m m] 67)) (wc.heap.size + p) (zeros m) := by
    intro p hp
    refine Row.alloc ?_ _
    have n0 : Row (wc.alloc (.cells ((zeros m).map (Value.int .i64)).toArray 3)) wc.heap.size (zeros m) := heap_alloc_new wc _
    have n1 := heap_alloc_new (wc.alloc (.cells ((zeros m).map (Value.int .i64)).toArray 3)) (.cells ((zeros m).map (Value.int .i64)).toArray 3)
    have n2 := heap_alloc_new ((wc.alloc (.cells ((zeros m).map (Value.int .i64)).toArray 3)).alloc (.cells ((zeros m).map (Value.int .i64)).toArray 3)) (.cells ((zeros m).map (Value.int .i64)).toArray 3)
    have s1 : (wc.alloc (.cells ((zeros m).map (Value.int .i64)).toArray 3)).heap.size = wc.heap.size + 1 := by simp
    have s2 : ((wc.alloc (.cells ((zeros m).map (Value.int .i64)).toArray 3)).alloc (.cells ((zeros m).map (Value.int .i64)).toArray 3)).heap.size = wc.heap.size + 2 := by simp
    rw [s1] at n1
    rw [s2] at n2
    obtain rfl | rfl | rfl : p = 0 ∨ p = 1 ∨ p = 2 := by omega
    · exact (n0.alloc _).alloc _
    · exact Row.alloc (X := zeros m) n1 _
    · exact n2
  have s3 : (((wc.alloc (.cells ((zeros m).map (Value.int .i64)).toArray 3)).alloc (.cells ((zeros m).map (Value.int .i64)).toArray 3)).alloc (.cells ((zeros m).map (Value.int .i64)).toArray 3)).heap.size = wc.heap.size + 3 := by simp
  have nG := heap_alloc_new (((wc.alloc (.cells ((zeros m).map (Value.int .i64)).toArray 3)).alloc (.cells ((zeros m).map (Value.int .i64)).toArray 3)).alloc (.cells ((zeros m).map (Value.int .i64)).toArray 3)) (.cells #[.slice A0 n0 c0, .slice (some ⟨wc.heap.size + p1, 0, none⟩) m m, .slice (some ⟨wc.heap.size + p2, 0, none⟩) m m, .slice (some ⟨wc.heap.size + p3, 0, none⟩) m m] 67)
  rw [s3] at nG
  refine ⟨nG, row p1 hp.1, row p2 hp.2.1, row p3 hp.2.2.1, hz, hz, hz, ⟨by omega, by omega, by omega, by omega, by omega, by omega⟩, ⟨by omega, by omega, by omega, by omega⟩, below_alloc (below_alloc (below_alloc (below_alloc hb _) _) _) _⟩
end
/-- Best's variables ahead of the number of the break. -/
structure Env0 (W w : World) (m p q b2 b3 : Nat) (X2 X3 : List Int) : Prop where
  hp : w.heap[p]? = some (.cells #[.slice (some ⟨b2, 0, none⟩) m m] 26 (0, 0))
  hq : w.heap[q]? = some (.cells #[.slice (some ⟨b3, 0, none⟩) m m] 26 (0, 0))
  h2 : Row w b2 X2
  h3 : Row w b3 X3
  l2 : X2.length = m
  l3 : X3.length = m
  d23 : b2 ≠ b3
  dpq : p ≠ q
  g2 : W.heap.size ≤ b2
  g3 : W.heap.size ≤ b3
  hb : Below W.heap.size W w
/-- Best's own variables in memory: two rows, the variables that hold them, and the number of the break. -/
structure Env (W w : World) (m p q b2 b3 r : Nat) (x : Int) (X2 X3 : List Int) : Prop where
  hp : w.heap[p]? = some (.cells #[.slice (some ⟨b2, 0, none⟩) m m] 26 (0, 0))
  hq : w.heap[q]? = some (.cells #[.slice (some ⟨b3, 0, none⟩) m m] 26 (0, 0))
  hr : w.heap[r]? = some (.cells #[.int .i64 x] 3 (0, 0))
  h2 : Row w b2 X2
  h3 : Row w b3 X3
  l2 : X2.length = m
  l3 : X3.length = m
  d23 : b2 ≠ b3
  dr2 : r ≠ b2
  dr3 : r ≠ b3
  dpq : p ≠ q
  g2 : W.heap.size ≤ b2
  g3 : W.heap.size ≤ b3
  gr : W.heap.size ≤ r
  hb : Below W.heap.size W w
theorem chain_get (w : World) (o0 o1 o2 o3 o : Obj) (i : Nat) (hi : i < 4) (h : [o0, o1, o2, o3][i]? = some o) : ((((w.alloc o0).alloc o1).alloc o2).alloc o3).drew.heap[w.heap.size + i]? = some o := by
  show ((((w.alloc o0).alloc o1).alloc o2).alloc o3).heap[w.heap.size + i]? = some o
  have n0 := heap_alloc_new w o0
  have n1 := heap_alloc_new (w.alloc o0) o1
  have n2 := heap_alloc_new ((w.alloc o0).alloc o1) o2
  have n3 := heap_alloc_new (((w.alloc o0).alloc o1).alloc o2) o3
  have s1 : (w.alloc o0).heap.size = w.heap.size + 1 := by simp
  have s2 : ((w.alloc o0).alloc o1).heap.size = w.heap.size + 2 := by simp
  have s3 : (((w.alloc o0).alloc o1).alloc o2).heap.size = w.heap.size + 3 := by simp
  have up : ∀ (w : World) (o o' : Obj) (k : Nat), w.heap[k]? = some o' → (w.alloc o).heap[k]? = some o' := fun w o o' k h => ((below_alloc (Below.refl w.heap.size w) o).block k (blk_lt h)).trans h
  rw [s1] at n1
  rw [s2] at n2
  rw [s3] at n3
  obtain rfl | rfl | rfl | rfl : i = 0 ∨ i = 1 ∨ i = 2 ∨ i = 3 := by omega
  · obtain rfl : o0 = o := by simpa using h
    exact up _ _ _ _ (up _ _ _ _ (up _ _ _ _ n0))
  · obtain rfl : o1 = o := by simpa using h
    exact up _ _ _ _ (up _ _ _ _ n1)
  · obtain rfl : o2 = o := by simpa using h
    exact up _ _ _ _ n2
  · obtain rfl : o3 = o := by simpa using h
    exact n3
theorem Env0.start (w : World) (m : Nat) (o0 o1 o2 o3 : Obj) (ip iq i2 i3 : Nat) (hi : ip < 4 ∧ iq < 4 ∧ i2 < 4 ∧ i3 < 4 ∧ ip ≠ iq ∧ i2 ≠ i3)
    (hp : [o0, o1, o2, o3][ip]? = some (.cells #[.slice (some ⟨w.heap.size + i2, 0, none⟩) m m] 26 (0, 0))) (hq : [o0, o1, o2, o3][iq]? = some (.cells #[.slice (some ⟨w.heap.size + i3, 0, none⟩) m m] 26 (0, 0)))
    (h2 : [o0, o1, o2, o3][i2]? = some (.cells ((zeros m).map (Value.int .i64)).toArray 3 (0, 0))) (h3 : [o0, o1, o2, o3][i3]? = some (.cells ((zeros m).map (Value.int .i64)).toArray 3 (0, 0))) :
    Env0 w ((((w.alloc o0).alloc o1).alloc o2).alloc o3).drew m (w.heap.size + ip) (w.heap.size + iq) (w.heap.size + i2) (w.heap.size + i3) (zeros m) (zeros m) :=
  ⟨chain_get w o0 o1 o2 o3 _ ip hi.1 hp, chain_get w o0 o1 o2 o3 _ iq hi.2.1 hq, chain_get w o0 o1 o2 o3 _ i2 hi.2.2.1 h2, chain_get w o0 o1 o2 o3 _ i3 hi.2.2.2.1 h3, by simp [zeros], by simp [zeros], by omega, by omega, by omega, by omega,
    below_drew1 (below_alloc (below_alloc (below_alloc (below_alloc (Below.refl _ _) _) _) _) _)⟩
section
variable {W w : World} {m p q b2 b3 r : Nat} {x : Int} {X2 X3 : List Int}
theorem Env.p2 (h : Env W w m p q b2 b3 r x X2 X3) : p ≠ b2 ∧ p ≠ b3 ∧ q ≠ b2 ∧ q ≠ b3 ∧ p ≠ r ∧ q ≠ r := ⟨blk_ne h.hp h.h2 (by decide), blk_ne h.hp h.h3 (by decide), blk_ne h.hq h.h2 (by decide), blk_ne h.hq h.h3 (by decide), blk_ne h.hp h.hr (by decide), blk_ne h.hq h.hr (by decide)⟩
theorem Env.cells (h : Env W w m p q b2 b3 r x X2 X3) : w.cell? ⟨p, 0, none⟩ = some (.slice (some ⟨b2, 0, none⟩) m m) ∧ w.cell? ⟨q, 0, none⟩ = some (.slice (some ⟨b3, 0, none⟩) m m) ∧ w.cell? ⟨r, 0, none⟩ = some (.int .i64 x) := ⟨blk_cell h.hp 0, blk_cell h.hq 0, blk_cell h.hr 0⟩
theorem Env.below {w' : World} (h : Env W w m p q b2 b3 r x X2 X3) (hw : Below w.heap.size w w') : Env W w' m p q b2 b3 r x X2 X3 :=
  ⟨(hw.block p (blk_lt h.hp)).trans h.hp, (hw.block q (blk_lt h.hq)).trans h.hq, (hw.block r (blk_lt h.hr)).trans h.hr, h.h2.below hw, h.h3.below hw, h.l2, h.l3, h.d23, h.dr2, h.dr3, h.dpq, h.g2, h.g3, h.gr, below_step h.hb hw⟩
theorem Env.drew (h : Env W w m p q b2 b3 r x X2 X3) : Env W w.drew m p q b2 b3 r x X2 X3 := h.below (below_drew1 (Below.refl _ _))
/-- What no block of a further row may be. -/
def Far (p q b2 b3 r : Nat) (k : Nat) : Prop := k ≠ p ∧ k ≠ q ∧ k ≠ b2 ∧ k ≠ b3 ∧ k ≠ r
theorem Env.far (h : Env W w m p q b2 b3 r x X2 X3) (k : Nat) (hk : w.heap.size ≤ k) : Far p q b2 b3 r k := by
  have := blk_lt h.hp
  have := blk_lt h.hq
  have := h.h2.lt
  have := h.h3.lt
  have := blk_lt h.hr
  exact ⟨by omega, by omega, by omega, by omega, by omega⟩
theorem Env.grown {w' : World} {row : Option Nat} (h : Env W w m p q b2 b3 r x X2 X3) (hg : w.grownBy w' row) (hf : ∀ k, row = some k → Far p q b2 b3 r k) (hb : Below W.heap.size W w') : Env W w' m p q b2 b3 r x X2 X3 :=
  ⟨blk_grown h.hp hg (fun e => (hf p e.symm).1 rfl), blk_grown h.hq hg (fun e => (hf q e.symm).2.1 rfl), blk_grown h.hr hg (fun e => (hf r e.symm).2.2.2.2 rfl), blk_grown h.h2 hg (fun e => (hf b2 e.symm).2.2.1 rfl), blk_grown h.h3 hg (fun e => (hf b3 e.symm).2.2.2.1 rfl), h.l2, h.l3, h.d23, h.dr2, h.dr3, h.dpq, h.g2, h.g3, h.gr, hb⟩
theorem Env.set2 (h : Env W w m p q b2 b3 r x X2 X3) (i : Nat) (v : Int) : Env W (w.setCell ⟨b2, i, none⟩ (.int .i64 v)) m p q b2 b3 r x (X2.set i v) X3 := by
  obtain ⟨e1, e2, e3, e4, e5, e6⟩ := h.p2
  exact ⟨blk_far h.hp e1 _, blk_far h.hq e3 _, blk_far h.hr h.dr2 _, h.h2.set i v, h.h3.other (Ne.symm h.d23) i _, by rw [List.length_set]; exact h.l2, h.l3, h.d23, h.dr2, h.dr3, h.dpq, h.g2, h.g3, h.gr, below_set h.hb h.g2⟩
theorem Env.set3 (h : Env W w m p q b2 b3 r x X2 X3) (i : Nat) (v : Int) : Env W (w.setCell ⟨b3, i, none⟩ (.int .i64 v)) m p q b2 b3 r x X2 (X3.set i v) := by
  obtain ⟨e1, e2, e3, e4, e5, e6⟩ := h.p2
  exact ⟨blk_far h.hp e2 _, blk_far h.hq e4 _, blk_far h.hr h.dr3 _, h.h2.other h.d23 i _, h.h3.set i v, h.l2, by rw [List.length_set]; exact h.l3, h.d23, h.dr2, h.dr3, h.dpq, h.g2, h.g3, h.gr, below_set h.hb h.g3⟩
theorem Env.setA (h : Env W w m p q b2 b3 r x X2 X3) (v : Int) : Env W (w.setCell ⟨r, 0, none⟩ (.int .i64 v)) m p q b2 b3 r v X2 X3 := by
  obtain ⟨e1, e2, e3, e4, e5, e6⟩ := h.p2
  exact ⟨blk_far h.hp e5 _, blk_far h.hq e6 _, (heap_setCell_same w r 0 _ 3 _ h.hr).trans (by simp), h.h2.other (Ne.symm h.dr2) 0 _, h.h3.other (Ne.symm h.dr3) 0 _, h.l2, h.l3, h.d23, h.dr2, h.dr3, h.dpq, h.g2, h.g3, h.gr, below_set h.hb h.gr⟩
theorem Env0.newA (h : Env0 W w m p q b2 b3 X2 X3) (v : Int) : Env W (w.alloc (.cells #[.int .i64 v] 3)) m p q b2 b3 w.heap.size v X2 X3 := by
  have hw : Below w.heap.size w (w.alloc (.cells #[.int .i64 v] 3)) := below_alloc (Below.refl _ _) _
  exact ⟨(hw.block p (blk_lt h.hp)).trans h.hp, (hw.block q (blk_lt h.hq)).trans h.hq, heap_alloc_new w _, h.h2.below hw, h.h3.below hw, h.l2, h.l3, h.d23, Nat.ne_of_gt h.h2.lt, Nat.ne_of_gt h.h3.lt, h.dpq, h.g2, h.g3, h.hb.size, below_step h.hb hw⟩
theorem Env.newA (h : Env W w m p q b2 b3 r x X2 X3) (v : Int) : Env W (w.alloc (.cells #[.int .i64 v] 3)) m p q b2 b3 w.heap.size v X2 X3 := by
  have hw : Below w.heap.size w (w.alloc (.cells #[.int .i64 v] 3)) := below_alloc (Below.refl _ _) _
  exact ⟨(hw.block p (blk_lt h.hp)).trans h.hp, (hw.block q (blk_lt h.hq)).trans h.hq, heap_alloc_new w _, h.h2.below hw, h.h3.below hw, h.l2, h.l3, h.d23, Nat.ne_of_gt h.h2.lt, Nat.ne_of_gt h.h3.lt, h.dpq, h.g2, h.g3, h.hb.size, below_step h.hb hw⟩
end
end Go.Proofs.Ytogjeababinnlaa.Pg
