/- A map of the call's own, whose elements are values of any kind (pointers, slices): what it says is a list of pairs, the last put first. -/
import Derived.Maps.OwnSet
import Derived.Maps.OwnOps
import Derived.Maps.Keyed
import Derived.Maps.Views
import Derived.RowKit
import Derived.Test.YtenhfmlkdcfbbaaDoorWAll
namespace Go.Proofs.YtenhfmlkdcfbbaaDoorV
open Go.Maps Go.RowKit Go.Proofs.YtenhfmlkdcfbbaaDoorW.PrintWords
class KeyLit (κ : Type) where
 lit : κ → Lit
 val : κ → Value
 isKey : ∀ k, WideAt.IsKeyLit (lit k)
 inj : ∀ a b, lit a = lit b → a = b
instance : KeyLit ByteArray := ⟨fun s => .string s.data.toList, fun s => .string s, fun _ => by simp [WideAt.IsKeyLit], fun a b h => by
 injection h with h
 exact ByteArray.ext (Array.toList_inj.1 h)⟩
instance : KeyLit Int := ⟨fun a => .int .i64 a, fun a => .int .i64 a, fun _ => by simp [WideAt.IsKeyLit], fun a b h => by injection h⟩
def heldElem (v : Value) : Option (DataW Value × List MemPlace) := some (.held v, [])
def vget {κ : Type} [DecidableEq κ] : List (κ × Value) → κ → Value → Value
 | [], _, z => z
 |(a, b) :: r, k, z => if a = k then b else vget r k z
def vhas {κ : Type} [DecidableEq κ] : List (κ × Value) → κ → Bool
 | [], _ => false
 |(a, _) :: r, k => if a = k then true else vhas r k
def MapV {κ : Type} [DecidableEq κ] [KeyLit κ] (P : Program) (k : TypeId) (w : World) (b : Nat) (l : List (κ × Value)) : Prop :=
 ∃ D : DataW Value, w.ownsMap P k heldElem b l.length D ∧ IsMap D ∧ (∀ (key : κ) z, D.atKey (KeyLit.lit key) (.held z) = .held (vget l key z)) ∧ ∀ key : κ, has D (KeyLit.lit key) = vhas l key
section
variable {κ : Type} [DecidableEq κ] [KeyLit κ] {P : Program} {k t e : TypeId} {w w1 : World} {b : Nat} {l : List (κ × Value)}
theorem MapV.made (w : World) (P : Program) (k : TypeId) : MapV (κ := κ) P k (w.alloc (.map #[] 0)) w.heap.size [] :=
 ⟨.map [], World.ownsMap_made _ _ _ _, ⟨_, rfl⟩, fun _ _ => rfl, fun _ => rfl⟩
theorem MapV.lt (h : MapV P k w b l) : b < w.heap.size := by
 obtain ⟨_, h, _⟩ := h
 exact h.lt
theorem MapV.obj (h : MapV P k w b l) : ∃ es clock, w.heap[b]? = some (.map es clock) := by
 obtain ⟨_, ⟨es, clock, hm, _⟩, _⟩ := h
 exact ⟨es, clock, hm⟩
theorem MapV.of_eq (h : MapV P k w b l) (he : w1.heap[b]? = w.heap[b]?) : MapV P k w1 b l := by
 obtain ⟨D, ⟨es, clock, hm, r⟩, h2⟩ := h
 exact ⟨D, ⟨es, clock, he.trans hm, r⟩, h2⟩
theorem MapV.below (h : MapV P k w b l) (hb : Below w.heap.size w w1) : MapV P k w1 b l := h.of_eq (hb.block b h.lt)
theorem MapV.ne (h : MapV P k w b l) {g q : Nat} {cells : Array Value} {c : Nat × Nat} (hg : w.heap[g]? = some (.cells cells q c)) : b ≠ g := by
 rintro rfl
 obtain ⟨es, clock, hm⟩ := h.obj
 rw [hm] at hg
 cases hg
theorem MapV.look (h : MapV P k w b l) (K : Keyed P k) (ht : P.underlying t = some (.map k e)) {z : Value} (hz : (zeroValue e).run P w = .ok z w) (key : κ) (hkey : keyOf P k (KeyLit.val key) = some (KeyLit.lit key)) :
  (Instr.lookup t (.map (some b)) (KeyLit.val key) false).run P w = .ok (vget l key z) w := by
 obtain ⟨D, h1, h2, h3, h4⟩ := h
 obtain ⟨v, ps, hr, hv⟩ := h1.lookup K ht hz (zd := .held z) (zp := []) rfl hkey
 rw [h3] at hv
 unfold heldElem at hv
 injection hv with hv
 injection hv with hv
 injection hv with hv
 rw [hr, hv]
theorem MapV.look_ok (h : MapV P k w b l) (K : Keyed P k) (ht : P.underlying t = some (.map k e)) {z : Value} (hz : (zeroValue e).run P w = .ok z w) (key : κ) (hkey : keyOf P k (KeyLit.val key) = some (KeyLit.lit key)) :
  (Instr.lookup t (.map (some b)) (KeyLit.val key) true).run P w = .ok (.tuple #[vget l key z, .bool (vhas l key)]) w := by
 obtain ⟨D, h1, h2, h3, h4⟩ := h
 obtain ⟨v, ps, hr, hv⟩ := h1.look_ok K ht hz (zd := .held z) (zp := []) rfl hkey
 rw [h3] at hv
 unfold heldElem at hv
 injection hv with hv
 injection hv with hv
 injection hv with hv
 rw [hr, hv, h4]
theorem MapV.put (h : MapV P k w b l) (K : Keyed P k) (ht : P.underlying t = some (.map k e)) (hn : l.length < maxLen) (key : κ) (v : Value) (hkey : keyOf P k (KeyLit.val key) = some (KeyLit.lit key)) :
  ∃ w', (Instr.mapUpdate t (.map (some b)) (KeyLit.val key) v).run P w = .ok () w' ∧ MapV P k w' b ((key, v) :: l) ∧ w.grownBy w' (some b) := by
 obtain ⟨D, h1, h2, h3, h4⟩ := h
 obtain ⟨w', hr, h5, hg⟩ := h1.update K ht hn hkey (val := v) (d := .held v) (ps := []) rfl
 refine ⟨w', hr, ⟨_, h5, ?_, fun key2 z => ?_, fun key2 => ?_⟩, hg⟩
 ·exact h5.isMap
 ·rw [vget]
  by_cases c : key = key2
  ·subst c
   rw [if_pos rfl, atKey_put_same h2 (KeyLit.isKey key)]
  ·rw [if_neg c, atKey_put_other (fun q => c (KeyLit.inj _ _ q).symm), h3]
 ·rw [vhas]
  by_cases c : key = key2
  ·subst c
   rw [if_pos rfl, has_put_same h2 (KeyLit.isKey key)]
  ·rw [if_neg c, has_put_other (fun q => c (KeyLit.inj _ _ q).symm), h4]
end
end Go.Proofs.YtenhfmlkdcfbbaaDoorV
