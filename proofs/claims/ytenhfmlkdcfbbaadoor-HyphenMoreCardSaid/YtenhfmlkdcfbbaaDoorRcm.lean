/- law21: how the reference makes its set (function 12), walked. -/
import Derived.Test.YtenhfmlkdcfbbaaDoorRefA
import Derived.Test.YtenhfmlkdcfbbaaDoorSeq
namespace Go.Proofs.YtenhfmlkdcfbbaaDoor.PHyphenPoints
open Go.RowKit Go.Proofs.YtenhfmlkdcfbbaaDoorW.PrintWords Go.Proofs.YtenhfmlkdcfbbaaDoorW.PrintLast Go.Proofs.YtenhfmlkdcfbbaaDoorW.PrintMore
attribute [local go_sem] max2_int min2_int max_two min_two max_three min_three max_four min_four
set_option linter.unusedVariables false
set_option linter.unusedSimpArgs false
namespace Rf
def pats (k : Nat) (a : List Int) : List S69 → List S66 → Option (Int ⊕ List S66)
 | [], ps => some (.inr ps)
 | y :: r, ps => (colophonref21_read.f k ((a.take y.f1.toNat).drop y.f0.toNat)).bind fun t =>
  if t.2.2.2.2 = true then pats k a r (ps ++ [⟨t.1, t.2.1, t.2.2.1, t.2.2.2.1⟩]) else (colophonref21_place.f k a y.f0).bind fun p => some (.inl p)
def excs (k : Nat) (a : List Int) : List S69 → List S72 → Option (Int ⊕ List S72)
 | [], ps => some (.inr ps)
 | y :: r, ps => (colophonref21_except.f k ((a.take y.f1.toNat).drop y.f0.toNat)).bind fun t =>
  if t.2.2 = true then excs k a r (ps ++ [⟨t.1, t.2.1⟩]) else (colophonref21_place.f k a y.f0).bind fun p => some (.inl p)
end Rf
namespace Rf
def KW (Rb : Nat) (w w' : World) : Prop := ∀ (b : Nat) (o : Obj), w.heap[b]? = some o → b ≠ Rb → w'.heap[b]? = some o
theorem KW.R {α : Type} {d : Kd α} {e base Rb : Nat} {w w' : World} {v : Value} {xs : List α} {ok : Nat → Prop} {cells : Array Value} (h : d.R e w base ok v xs) (hk : KW Rb w w') (hR : w.heap[Rb]? = some (.cells cells 62 (0, 0))) (hE : d.E = []) (he : e ≠ 62) : d.R e w' base (fun _ => True) v xs :=
 Kd.R_mono (Kd.R_move (Kd.R_bound h) (fun k hk2 => by
  obtain ⟨_, _, _, q, hq, cs, hc⟩ := hk2
  rw [hE] at hq
  obtain rfl := List.mem_singleton.1 hq
  exact (hk k _ hc (blk_ne hc hR he)).trans hc.symm)) (fun _ _ => trivial)
theorem KW.trans {Rb : Nat} {a b c : World} (h : KW Rb a b) (h' : KW Rb b c) : KW Rb a c := fun k o ho hne => h' k o (h k o ho hne) hne
theorem KW.put {Rb i : Nat} {a b : World} (h : KW Rb a b) (v : Value) : KW Rb a (b.setCell ⟨Rb, i, none⟩ v) := fun k o ho hne => (Below.heap_setCell b _ v k hne).trans (h k o ho hne)
theorem KW.refl {Rb : Nat} {a : World} : KW Rb a a := fun _ _ h _ => h
theorem KW.alloc {Rb : Nat} {a b : World} (h : KW Rb a b) (o : Obj) : KW Rb a (b.alloc o) := fun k x ho hne => blk_alloc (h k x ho hne) o
theorem KW.below {Rb : Nat} {a b c : World} (h : KW Rb a b) (hb : Below b.heap.size b c) : KW Rb a c := fun k x ho hne => (hb.block k (blk_lt (h k x ho hne))).trans (h k x ho hne)
end Rf
def colophonref21_Compile.f (k : Nat) (p x : ByteArray) : Option (Option Rf.RS × Int × Int) :=
 if 1048576 < p.size ∨ 1048576 < x.size then some (none, 0, 2) else
 (colophonref04_Decode.f k p).bind fun d => if d.2.2 ≠ 0 then some (none, d.2.1, d.2.2) else
 (colophonref04_Decode.f k x).bind fun e => if e.2.2 ≠ 0 then some (none, e.2.1, e.2.2) else
 (colophonref04_Words.f k d.1).bind fun u => (Rf.pats k d.1 u []).bind fun q => match q with
 | .inl at_ => some (none, at_, 210)
 | .inr ps => (colophonref04_Words.f k e.1).bind fun v => (Rf.excs k e.1 v []).bind fun q => match q with
  | .inl at_ => some (none, at_, 210)
  | .inr es => some (some (ps, es), 0, 0)
def colophonref21_Compile.OK (k : Nat) (p x : ByteArray) : Prop :=
 (∀ l a u, colophonref04_Decode.f k p = some (l, a, 0) → colophonref04_Words.f k l = some u → l.length ≤ 1048576 ∧ u.length ≤ 1048576 ∧ ∀ y ∈ u, 0 ≤ y.f0 ∧ y.f0 < y.f1 ∧ y.f1 ≤ (l.length : Int)) ∧
 (∀ l a u, colophonref04_Decode.f k x = some (l, a, 0) → colophonref04_Words.f k l = some u → l.length ≤ 1048576 ∧ u.length ≤ 1048576 ∧ ∀ y ∈ u, 0 ≤ y.f0 ∧ y.f0 < y.f1 ∧ y.f1 ≤ (l.length : Int))
end Go.Proofs.YtenhfmlkdcfbbaaDoor.PHyphenPoints
