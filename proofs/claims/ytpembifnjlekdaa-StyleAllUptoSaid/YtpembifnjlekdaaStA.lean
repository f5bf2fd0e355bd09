/- Arrays of whole numbers, compared; and what the walks of style read. -/
import Derived.Test.YtpembifnjlekdaaProg
import Derived.Below
import Derived.Deep.Draws
import Derived.Deep.AppendLies
import Derived.Maps.AppendAt
import Derived.OwnWalk
import Derived.Laws.BytesArg
import Derived.Laws.MakeOwn
import Derived.Laws.OwnMore
import Derived.Deep.OwnRows
import Derived.Tactics
import Derived.WalkKit
import Derived.KernelRfl
import Derived.RowKit3
import Derived.Laws.Rows
import Derived.Lib.OthersKept
import Derived.Laws.StructEq
import Derived.RegionTactic
import Derived.Deep.MidRow
import Derived.Laws.EntriesVeiled
import Derived.Test.YtpembifnjlekdaaWWords
import Derived.Test.YtpembifnjlekdaaWMore
import Derived.Test.YtpembifnjlekdaaWLast
import Derived.Test.YtpembifnjlekdaaWInvWords
namespace Go.Proofs.Ytpembifnjlekdaa.St
open Go.RowKit Go.Proofs.YtpembifnjlekdaaW.PrintWords Go.Proofs.YtpembifnjlekdaaW.PrintLast Go.Proofs.YtpembifnjlekdaaW.PrintMore
set_option linter.unusedVariables false
set_option linter.unusedSimpArgs false
theorem size3 (w : World) : (Go.sizeOf 3).run Try.prog w = .ok 1 w := by kernel_rfl
theorem part3 (cs : Array Value) (i : Nat) (k : IntKind) (x : Int) (h : cs[i]? = some (.int k x)) (w : World) : (part 3 cs i).run Try.prog w = .ok (.int k x) w := by
  simp [part, h]
theorem eq_loop (d : Nat) (X Y : List Int) (w : World) (hXY : X.length = Y.length) : ∀ (n i : Nat), i + n = X.length →
    ((forIn (m := Sem) (List.range' i n) ((none : Option Bool), ()) fun (j : Nat) (_ : Option Bool × Unit) => do
      let a ← part 3 (X.map (Value.int .i64)).toArray (j * 1)
      let b ← part 3 (Y.map (Value.int .i64)).toArray (j * 1)
      let r ← Op.equalIn (d + 1) 3 a b
      if (!r) = true then pure (ForInStep.done (some false, ())) else pure (ForInStep.yield (none, ()))).run Try.prog w) = .ok (if X.drop i = Y.drop i then none else some false, ()) w := by
  intro n
  induction n with
  | zero => 
    intro i h1
    rw [List.drop_eq_nil_of_le (by omega), List.drop_eq_nil_of_le (by omega)]
    simp
  | succ n ih => 
    intro i h1
    have hx : i < X.length := by omega
    have hy : i < Y.length := by omega
    have px := part3 (X.map (Value.int .i64)).toArray (i * 1) .i64 X[i] (by simp [hx]) w
    have py := part3 (Y.map (Value.int .i64)).toArray (i * 1) .i64 Y[i] (by simp [hy]) w
    have pe := run_equalIn_int (P := Try.prog) w d 3 .i64 .i64 X[i] Y[i] Try.underlying3
    rw [List.range'_succ, List.forIn_cons, List.drop_eq_getElem_cons hx, List.drop_eq_getElem_cons hy]
    simp only [Sem.run_bind, px, py, pe, Result.andThen_ok]
    by_cases e : X[i] = Y[i]
    · rw [e]
      simp only [beq_self_eq_true, Bool.not_true, Bool.false_eq_true, if_false, Sem.run_pure, Result.andThen_ok, List.cons.injEq, true_and]
      exact ih (i + 1) (by omega)
    · have e' : (X[i] == Y[i]) = false := beq_eq_false_iff_ne.mpr e
      rw [if_neg (fun h => e (List.cons.inj h).1)]
      simp [e']
theorem eq_arr (d t n : Nat) (ht : Try.prog.underlying t = some (.array n 3)) (X Y : List Int) (w : World) (hX : X.length = n) (hY : Y.length = n) :
    (Op.equalIn (d + 2) t (.agg (X.map (Value.int .i64)).toArray) (.agg (Y.map (Value.int .i64)).toArray)).run Try.prog w = .ok (decide (X = Y)) w := by
  rw [Op.equalIn]
  simp only [Sem.run_bind, run_underlying ht, Result.andThen_ok, size3]
  have h := eq_loop d X Y w (by omega) n 0 (by omega)
  rw [Std.Legacy.Range.forIn_eq_forIn_range']
  have e : ([:n] : Std.Legacy.Range).size = n := by simp [Std.Legacy.Range.size]
  simp only [e]
  rw [h]
  by_cases c : X = Y
  · simp [c]
  · simp [c]
/-- A block of whole numbers (an array's, of type t). -/
def Arr (w : World) (b t : Nat) (X : List Int) : Prop := w.heap[b]? = some (.cells (X.map (Value.int .i64)).toArray t (0, 0))
section
variable {w w' : World} {b b' t : Nat} {X : List Int}
theorem Arr.lt (h : Arr w b t X) : b < w.heap.size := blk_lt h
theorem Arr.below (h : Arr w b t X) (hb : Below w.heap.size w w') : Arr w' b t X := (hb.block b h.lt).trans h
theorem Arr.cell (h : Arr w b t X) (i : Nat) (h1 : i < X.length) : w.cell? ⟨b, i, none⟩ = some (.int .i64 (X.getD i 0)) := by
  rw [blk_cell h]
  simp [List.getD_eq_getElem?_getD, h1]
theorem Arr.frozen (h : Arr w b t X) (i : Nat) : w.frozen? ⟨b, i, none⟩ = false := blk_frozen h i
theorem Arr.set (h : Arr w b t X) (i : Nat) (v : Int) : Arr (w.setCell ⟨b, i, none⟩ (.int .i64 v)) b t (X.set i v) := by
  unfold Arr at h ⊢
  rw [heap_setCell_same w b i _ t _ h]
  congr 2
  rw [List.map_set]
  simp
theorem Arr.other (h : Arr w b t X) (hne : b ≠ b') (i : Nat) (u : Value) : Arr (w.setCell ⟨b', i, none⟩ u) b t X := (heap_setCell_other w ⟨b', i, none⟩ b u hne).trans h
end
/-- A weight is not below another one (which counts, if it is). -/
def nb (a b : Int × Int × Int) : Bool := if a.1 ≠ b.1 then decide (a.1 < b.1) else if a.2.1 ≠ b.2.1 then decide (a.2.1 < b.2.1) else if a.2.2 ≠ b.2.2 then decide (a.2.2 < b.2.2) else true
def nbL : List Int → List Int → Bool
  | x :: xs, y :: ys => if x ≠ y then decide (x < y) else nbL xs ys
  | _, _ => true
theorem nb_L (a b c x y z : Int) : nb (a, b, c) (x, y, z) = nbL [a, b, c] [x, y, z] := rfl
def lsL : List Int → List Int → Bool
  | x :: xs, y :: ys => if x ≠ y then decide (x < y) else lsL xs ys
  | _, _ => false
/-- A weight is less than another one. -/
def ls (a b : Int × Int × Int) : Bool := if a.1 ≠ b.1 then decide (a.1 < b.1) else if a.2.1 ≠ b.2.1 then decide (a.2.1 < b.2.1) else if a.2.2 ≠ b.2.2 then decide (a.2.2 < b.2.2) else false
theorem ls_L (a b c x y z : Int) : ls (a, b, c) (x, y, z) = lsL [a, b, c] [x, y, z] := rfl
theorem getD_cons (X : List Int) (i : Nat) (h : i < X.length) : X.drop i = X.getD i 0 :: X.drop (i + 1) := by
  rw [List.drop_eq_getElem_cons h]
  simp [List.getD_eq_getElem?_getD, h]
theorem Arr.range {w : World} {b t : Nat} {X : List Int} (h : Arr w b t X) : w.rangeAt b 0 (X.map (Value.int .i64)) := fun j v hv => by
  rw [Nat.zero_add, blk_cell h]
  simpa using hv
/-- Nine numbers. -/
def tup9 (S : List Int) : Option (Int × Int × Int × Int × Int × Int × Int × Int × Int) := match S with
  | [a, b, c, d, e, f, g, h, i] => some (a, b, c, d, e, f, g, h, i)
  | _ => none
theorem tup9_some {S : List Int} {a b c d e f g h i : Int} (x : tup9 S = some (a, b, c, d, e, f, g, h, i)) : S = [a, b, c, d, e, f, g, h, i] := by
  unfold tup9 at x
  split at x
  · simpa using x
  · simp at x
def inh (p : Nat) : Bool := p != 5 && (p != 6 && p != 7)
def rinh (p : Nat) : Bool := decide (p ≤ 4) || p == 8
theorem Arr.nine {w : World} {b t : Nat} {x0 x1 x2 x3 x4 x5 x6 x7 x8 : Int} (h : Arr w b t [x0, x1, x2, x3, x4, x5, x6, x7, x8]) : w.cell? ⟨b, 0, none⟩ = some (.int .i64 x0) ∧ w.cell? ⟨b, 1, none⟩ = some (.int .i64 x1) ∧ w.cell? ⟨b, 2, none⟩ = some (.int .i64 x2) ∧ w.cell? ⟨b, 3, none⟩ = some (.int .i64 x3) ∧ w.cell? ⟨b, 4, none⟩ = some (.int .i64 x4) ∧ w.cell? ⟨b, 5, none⟩ = some (.int .i64 x5) ∧ w.cell? ⟨b, 6, none⟩ = some (.int .i64 x6) ∧ w.cell? ⟨b, 7, none⟩ = some (.int .i64 x7) ∧ w.cell? ⟨b, 8, none⟩ = some (.int .i64 x8) :=
  ⟨h.cell 0 (by simp), h.cell 1 (by simp), h.cell 2 (by simp), h.cell 3 (by simp), h.cell 4 (by simp), h.cell 5 (by simp), h.cell 6 (by simp), h.cell 7 (by simp), h.cell 8 (by simp)⟩
theorem Arr.set9 {w : World} {b t : Nat} {X : List Int} (hX : X.length = 9) (h : Arr w b t X) (y0 y1 y2 y3 y4 y5 y6 y7 y8 : Int) : Arr (((((((((w.setCell ⟨b, 0, none⟩ (.int .i64 y0)).setCell ⟨b, 1, none⟩ (.int .i64 y1)).setCell ⟨b, 2, none⟩ (.int .i64 y2)).setCell ⟨b, 3, none⟩ (.int .i64 y3)).setCell ⟨b, 4, none⟩ (.int .i64 y4)).setCell ⟨b, 5, none⟩ (.int .i64 y5)).setCell ⟨b, 6, none⟩ (.int .i64 y6)).setCell ⟨b, 7, none⟩ (.int .i64 y7)).setCell ⟨b, 8, none⟩ (.int .i64 y8)) b t [y0, y1, y2, y3, y4, y5, y6, y7, y8] := by
  have g := ((((((((h.set 0 y0).set 1 y1).set 2 y2).set 3 y3).set 4 y4).set 5 y5).set 6 y6).set 7 y7).set 8 y8
  obtain ⟨x0, X, rfl⟩ : ∃ a Y, X = a :: Y := by cases X with | nil => simp at hX | cons a Y => exact ⟨a, Y, rfl⟩
  obtain ⟨x1, X, rfl⟩ : ∃ a Y, X = a :: Y := by cases X with | nil => simp at hX | cons a Y => exact ⟨a, Y, rfl⟩
  obtain ⟨x2, X, rfl⟩ : ∃ a Y, X = a :: Y := by cases X with | nil => simp at hX | cons a Y => exact ⟨a, Y, rfl⟩
  obtain ⟨x3, X, rfl⟩ : ∃ a Y, X = a :: Y := by cases X with | nil => simp at hX | cons a Y => exact ⟨a, Y, rfl⟩
  obtain ⟨x4, X, rfl⟩ : ∃ a Y, X = a :: Y := by cases X with | nil => simp at hX | cons a Y => exact ⟨a, Y, rfl⟩
  obtain ⟨x5, X, rfl⟩ : ∃ a Y, X = a :: Y := by cases X with | nil => simp at hX | cons a Y => exact ⟨a, Y, rfl⟩
  obtain ⟨x6, X, rfl⟩ : ∃ a Y, X = a :: Y := by cases X with | nil => simp at hX | cons a Y => exact ⟨a, Y, rfl⟩
  obtain ⟨x7, X, rfl⟩ : ∃ a Y, X = a :: Y := by cases X with | nil => simp at hX | cons a Y => exact ⟨a, Y, rfl⟩
  obtain ⟨x8, X, rfl⟩ : ∃ a Y, X = a :: Y := by cases X with | nil => simp at hX | cons a Y => exact ⟨a, Y, rfl⟩
  obtain rfl : X = [] := by cases X with | nil => rfl | cons a Y => simp at hX
  exact g
theorem three0 {w : World} {b t : Nat} {x y z u v r : Value} (h : w.heap[b]? = some (.cells #[x, y, z] t (0, 0))) : (((w.setCell ⟨b, 0, none⟩ u).setCell ⟨b, 1, none⟩ v).setCell ⟨b, 2, none⟩ r).heap[b]? = some (.cells #[u, v, r] t (0, 0)) := by
  have h1 : (w.setCell ⟨b, 0, none⟩ u).heap[b]? = some (.cells #[u, y, z] t (0, 0)) := heap_setCell_same w b 0 _ t _ h
  have h2 : ((w.setCell ⟨b, 0, none⟩ u).setCell ⟨b, 1, none⟩ v).heap[b]? = some (.cells #[u, v, z] t (0, 0)) := heap_setCell_same _ b 1 _ t _ h1
  exact heap_setCell_same _ b 2 _ t _ h2
theorem drew_heap {w : World} {b : Nat} {o : Option Obj} (h : w.heap[b]? = o) : w.drew.heap[b]? = o := h
/-- A row of Bools, as a block. -/
def BRow (w : World) (b : Nat) (X : List Bool) : Prop := w.heap[b]? = some (.cells (X.map Value.bool).toArray 4 (0, 0))
section
variable {w w' : World} {b b' : Nat} {X : List Bool}
theorem BRow.lt (h : BRow w b X) : b < w.heap.size := blk_lt h
theorem BRow.below (h : BRow w b X) (hb : Below w.heap.size w w') : BRow w' b X := (hb.block b h.lt).trans h
theorem BRow.cell (h : BRow w b X) (i : Nat) (h1 : i < X.length) : w.cell? ⟨b, i, none⟩ = some (.bool (X.getD i false)) := by
  rw [blk_cell h]
  simp [List.getD_eq_getElem?_getD, h1]
theorem BRow.frozen (h : BRow w b X) (i : Nat) : w.frozen? ⟨b, i, none⟩ = false := blk_frozen h i
theorem BRow.set (h : BRow w b X) (i : Nat) (v : Bool) : BRow (w.setCell ⟨b, i, none⟩ (.bool v)) b (X.set i v) := by
  unfold BRow at h ⊢
  rw [heap_setCell_same w b i _ 4 _ h]
  congr 2
  rw [List.map_set]
  simp
theorem BRow.other (h : BRow w b X) (hne : b ≠ b') (i : Nat) (u : Value) : BRow (w.setCell ⟨b', i, none⟩ u) b X := (heap_setCell_other w ⟨b', i, none⟩ b u hne).trans h
end
theorem info4 : (Try.prog.info? 4).map (fun i => (i.zero, i.size, i.bytes)) = some (some (.bool false), 1, 1) := by kernel_rfl
theorem ix2 (w : World) (x0 x1 x2 x3 x4 x5 x6 x7 x8 : Int) : (Instr.index 33 (.agg #[.int .i64 x0, .int .i64 x1, .int .i64 x2, .int .i64 x3, .int .i64 x4, .int .i64 x5, .int .i64 x6, .int .i64 x7, .int .i64 x8]) (.int .i64 2)).run Try.prog w = .ok (.int .i64 x2) w := by kernel_rfl
/-- A row of n times false. -/
def falseCells (n : Nat) : Array Value := ((List.replicate n false).map Value.bool).toArray
theorem made_false (n : Nat) : madeCells (Value.bool false).cells (n * 1) = falseCells n := by
  unfold falseCells
  apply Array.ext'
  apply List.ext_getElem
  · simp [madeCells]
  · intro i h1 h2
    simp [madeCells, Value.cells, Nat.mod_one]
end Go.Proofs.Ytpembifnjlekdaa.St
