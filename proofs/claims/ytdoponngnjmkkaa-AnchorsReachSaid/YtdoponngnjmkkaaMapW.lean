/- A map of the call's own, whose keys are ints or strings and whose elements are ints: what it says is a list of pairs, the last put first. -/
import Derived.Maps.OwnOps
import Derived.Maps.Keyed
import Derived.Maps.Views
import Derived.RowKit
import Derived.Test.YtdoponngnjmkkaaWWords
import Derived.Test.YtdoponngnjmkkaaWApart
namespace Go.Proofs.YtdoponngnjmkkaaM
open Go.Maps Go.RowKit Go.Proofs.YtdoponngnjmkkaaW.PrintWords
/-- What a key reads as. -/
class KeyLit (κ : Type) where
  lit : κ → Lit
  val : κ → Value
  isKey : ∀ k, WideAt.IsKeyLit (lit k)
  inj : ∀ a b, lit a = lit b → a = b
instance : KeyLit ByteArray := ⟨fun s => .string s.data.toList, fun s => .string s, fun _ => by simp [WideAt.IsKeyLit], fun a b h => by
  injection h with h
  exact ByteArray.ext (Array.toList_inj.1 h)⟩
instance : KeyLit Int := ⟨fun a => .int .i64 a, fun a => .int .i64 a, fun _ => by simp [WideAt.IsKeyLit], fun a b h => by injection h⟩
def mget {κ : Type} [DecidableEq κ] (l : List (κ × Int)) (k : κ) : Int := match l with
  | [] => 0
  | (a, b) :: r => if a = k then b else mget r k
/-- A map of the call's own: its block, what it says. -/
def MapI {κ : Type} [DecidableEq κ] [KeyLit κ] (P : Program) (k e : TypeId) (w : World) (base : Nat) (v : Value) (l : List (κ × Int)) : Prop :=
  ∃ (b : Nat) (D : DataW Unit), v = .map (some b) ∧ base ≤ b ∧ w.ownsMap P k (plainElem P e) b l.length D ∧ IsMap D ∧ ∀ key : κ, D.atKey (KeyLit.lit key) (.lit (.int .i64 0)) = .lit (.int .i64 (mget l key))
section
variable {κ : Type} [DecidableEq κ] [KeyLit κ] {P : Program} {k e : TypeId} {w w1 : World} {base : Nat} {v : Value} {l : List (κ × Int)}
theorem MapI.made (w : World) (P : Program) (k e : TypeId) : MapI (κ := κ) P k e (w.alloc (.map #[] 0)) w.heap.size (.map (some w.heap.size)) [] :=
  ⟨w.heap.size, .map [], rfl, Nat.le_refl _, World.ownsMap_made _ _ _ _, by exact ⟨_, rfl⟩, fun _ => rfl⟩
theorem MapI.lower {base' : Nat} (h : MapI P k e w base v l) (hb : base' ≤ base) : MapI P k e w base' v l := by
  obtain ⟨b, D, h1, h2, h3⟩ := h
  exact ⟨b, D, h1, by omega, h3⟩
theorem MapI.kept {row : Option Nat} (h : MapI P k e w base v l) (hg : w.grownBy w1 row) (hr : ∀ b, row = some b → ∃ cells q z, w.heap[b]? = some (.cells cells q z)) : MapI P k e w1 base v l := by
  obtain ⟨b, D, h1, h2, h3, h4⟩ := h
  refine ⟨b, D, h1, h2, h3.kept hg (fun hb => ?_), h4⟩
  obtain ⟨cells, q, z, hc⟩ := hr b hb.symm
  obtain ⟨es, clock, hm, _⟩ := h3
  rw [hc] at hm
  simp at hm
theorem MapI.alloc (h : MapI P k e w base v l) (o : Obj) : MapI P k e (w.alloc o) base v l := by
  obtain ⟨b, D, h1, h2, h3, h4⟩ := h
  exact ⟨b, D, h1, h2, h3.alloc o, h4⟩
theorem MapI.drew (h : MapI P k e w base v l) : MapI P k e w.drew base v l := by
  obtain ⟨b, D, h1, h2, h3, h4⟩ := h
  exact ⟨b, D, h1, h2, h3.drew, h4⟩
theorem MapI.below (h : MapI P k e w base v l) (hb : Below w.heap.size w w1) : MapI P k e w1 base v l := by
  obtain ⟨b, D, h1, h2, h3, h4⟩ := h
  have hlt := h3.lt
  obtain ⟨es, clock, hm, r⟩ := h3
  exact ⟨b, D, h1, h2, ⟨es, clock, (hb.block b hlt).trans hm, r⟩, h4⟩
omit [KeyLit κ] in
theorem mget_put (l : List (κ × Int)) (a : κ) (c : Int) (k : κ) : mget ((a, c) :: l) k = if a = k then c else mget l k := rfl
/-- What a put makes of what the map says. -/
theorem put_says {D : DataW Unit} (hD : IsMap D) {l : List (κ × Int)} (h : ∀ key : κ, D.atKey (KeyLit.lit key) (.lit (.int .i64 0)) = .lit (.int .i64 (mget l key))) (a : κ) (c : Int) :
    ∀ key : κ, (D.put (KeyLit.lit a) (.lit (.int .i64 c))).atKey (KeyLit.lit key) (.lit (.int .i64 0)) = .lit (.int .i64 (mget ((a, c) :: l) key)) := by
  intro key
  rw [mget_put]
  by_cases e : a = key
  · subst e
    rw [if_pos rfl, atKey_put_same hD (KeyLit.isKey a)]
  · rw [if_neg e, atKey_put_other (fun q => e (KeyLit.inj _ _ q).symm), h]
/-- 'm[k]', for the walk. -/
theorem wpList_lookup_mapI {ops : Array Oper} {rest : List Oper} {o : Oper} {a : Act} {Q : Exit → Act → World → Prop}
    (hg : o.guard = none) (m x : Operand) (t : TypeId) (hop : o.op = Op.lookup t m x false) (K : Keyed P k) (ht : P.underlying t = some (.map k e)) (he : P.underlying e = some (.int .i64)) (hz : (zeroValue e).run P w = .ok (.int .i64 0) w)
    (hown : MapI P k e w base v l) (key : κ) (hm : a.eval m = v) (hx : a.eval x = KeyLit.val key) (hkey : keyOf P k (KeyLit.val key) = some (KeyLit.lit key))
    (hK : wpList P ops Q rest (a.put o.dst (.int .i64 (mget l key))) w) : wpList P ops Q (o :: rest) a w := by
  obtain ⟨b, D, h1, h2, h3, h4, h5⟩ := hown
  refine wpList_lookup_own_int w hg m x t hop k e .i64 K ht he hz b _ D (hm.trans h1) h3 _ _ hx hkey ?_
  intro c hat _
  have hc : c = mget l key := by
    have q := hat.symm.trans (h5 key)
    simpa using q
  rw [hc]
  exact hK
/-- 'm[k] = c', for the walk. -/
theorem wpList_update_mapI {ops : Array Oper} {rest : List Oper} {o : Oper} {a : Act} {Q : Exit → Act → World → Prop}
    (hg : o.guard = none) (m x u : Operand) (t : TypeId) (hop : o.op = Op.mapUpdate t m x u) (K : Keyed P k) (ht : P.underlying t = some (.map k e)) (he : P.underlying e = some (.int .i64))
    (hown : MapI P k e w base v l) (hn : l.length < maxLen) (key : κ) (c : Int) (hm : a.eval m = v) (hx : a.eval x = KeyLit.val key) (hu : a.eval u = .int .i64 c) (hwc : (Lit.int .i64 c).wf = true) (hkey : keyOf P k (KeyLit.val key) = some (KeyLit.lit key))
    (hK : ∀ w' b, MapI P k e w' base v ((key, c) :: l) → w.grownBy w' (some b) → base ≤ b → (∃ es clock, w.heap[b]? = some (.map es clock)) → wpList P ops Q rest (a.put o.dst undef) w') : wpList P ops Q (o :: rest) a w := by
  obtain ⟨b, D, h1, h2, h3, h4, h5⟩ := hown
  refine wpList_mapUpdate_own w hg m x u t hop k e K ht (plainElem P e) b _ D (hm.trans h1) h3 hn _ _ _ hx hu hkey _ [] (plainElem_int he hwc) ?_
  intro w' hown' hgrow
  refine hK w' b ⟨b, _, h1, h2, hown', ?_, put_says h4 h5 key c⟩ hgrow h2 ?_
  · obtain ⟨es, clock, _, _, _, hD⟩ := hown'
    exact ⟨_, hD⟩
  · obtain ⟨es, clock, hb, _⟩ := h3
    exact ⟨es, clock, hb⟩
end
/-- A row of one's own stays what it is while a map is written. -/
theorem R_mapped {α : Type} {d : Kd α} {q : Nat} {w w1 : World} {base b : Nat} {ok : Nat → Prop} {v : Value} {xs : List α} (h : d.R q w base ok v xs) (hg : w.grownBy w1 (some b)) (hb : ∃ es clock, w.heap[b]? = some (.map es clock)) : d.R q w1 base ok v xs := by
  obtain ⟨es, clock, hb⟩ := hb
  refine Kd.R_mono (Kd.R_move (Kd.R_bound h) (fun k hk => ?_)) (fun _ hk => hk.1)
  obtain ⟨_, _, hlt, _, _, cells, hc⟩ := hk
  refine hg.block k hlt (fun e => ?_)
  injection e with e
  subst e
  rw [hb] at hc
  simp at hc
/-- An element of the list that a map is told by. -/
class MapEl (α : Type) where
  κ : Type
  [dec : DecidableEq κ]
  [lit : KeyLit κ]
  pr : α → κ × Int
  P : Program
  k : TypeId
  e : TypeId
instance {α : Type} [MapEl α] : DecidableEq (MapEl.κ α) := MapEl.dec
instance {α : Type} [MapEl α] : KeyLit (MapEl.κ α) := MapEl.lit
end Go.Proofs.YtdoponngnjmkkaaM
namespace Go.Proofs.YtdoponngnjmkkaaW.PrintWords.Kd
open Go.Maps Go.RowKit Go.Proofs.YtdoponngnjmkkaaM
/-- A map of the call's own, told as the print tells rows. -/
def MP {α : Type} [MapEl α] (_d : Kd α) (_q : Nat) (w : World) (base : Nat) (ok : Nat → Prop) (v : Value) (l : List α) : Prop :=
  MapI (MapEl.P α) (MapEl.k α) (MapEl.e α) w base v (l.map MapEl.pr) ∧ ∀ b, v = .map (some b) → ok b
section
variable {α : Type} [MapEl α] {d : Kd α} {q : Nat} {w w1 : World} {base : Nat} {ok ok' : Nat → Prop} {v : Value} {l : List α}
theorem MP_alloc (h : d.MP q w base ok v l) (o : Obj) : d.MP q (w.alloc o) base ok v l := ⟨h.1.alloc o, h.2⟩
theorem MP_drew (h : d.MP q w base ok v l) : d.MP q w.drew base ok v l := ⟨h.1.drew, h.2⟩
theorem MP_below (h : d.MP q w base ok v l) (hb : Below w.heap.size w w1) : d.MP q w1 base ok v l := ⟨h.1.below hb, h.2⟩
theorem MP_drewN (h : d.MP q w base ok v l) (m : Nat) : d.MP q (w.drewN m) base ok v l := MP_below h (pw_below_drewN (Below.refl _ _) m)
theorem MP_mono (h : d.MP q w base ok v l) (hok : ∀ k, ok k → ok' k) : d.MP q w base ok' v l := ⟨h.1, fun b hb => hok b (h.2 b hb)⟩
theorem MP_lower {base' : Nat} (h : d.MP q w base ok v l) (hb : base' ≤ base) : d.MP q w base' ok v l := ⟨h.1.lower hb, h.2⟩
theorem MP_lt (h : d.MP q w base ok v l) : ∀ k, v.ownBlock = some k → k < w.heap.size := by
  obtain ⟨⟨b, D, rfl, _⟩, _⟩ := h
  intro k hk
  simp [Value.ownBlock] at hk
theorem MP_step (h : d.MP q w base ok v l) (hm : ∀ k es clock, ok k → w.heap[k]? = some (.map es clock) → w1.heap[k]? = w.heap[k]?) : d.MP q w1 base ok v l := by
  obtain ⟨⟨b, D, rfl, h2, ⟨es, clock, hb, r⟩, h4⟩, h5⟩ := h
  exact ⟨⟨b, D, rfl, h2, ⟨es, clock, (hm b es clock (h5 b rfl) hb).trans hb, r⟩, h4⟩, h5⟩
theorem MP_far (h : d.MP q w base ok v l) {p : Addr} (hok : ∀ k, ok k → k ≠ p.block) (u : Value) : d.MP q (w.setCell p u) base ok v l := MP_step h (fun k _ _ ho _ => Below.heap_setCell w p u k (hok k ho))
theorem MP_types (h : d.MP q w base ok v l) {g t : Nat} {cells : Array Value} (hb : w.heap[g]? = some (.cells cells t (0, 0))) (_ : True) : d.MP q w base (fun k => ok k ∧ k ≠ g) v l := by
  obtain ⟨⟨b, D, rfl, h2, h3, h4⟩, h5⟩ := h
  refine ⟨⟨b, D, rfl, h2, h3, h4⟩, fun b' hb' => ⟨h5 b' hb', ?_⟩⟩
  injection hb' with hb'
  injection hb' with hb'
  subst hb'
  rintro rfl
  obtain ⟨es, clock, hm, _⟩ := h3
  rw [hm] at hb
  simp at hb
theorem MP_grown (h : d.MP q w base ok v l) {row : Option Nat} (hg : w.grownBy w1 row) (hok : ∀ k, ok k → some k ≠ row) : d.MP q w1 base ok v l :=
  MP_step h (fun k _ _ ho hm => hg.block k (blk_lt hm) (hok k ho))
theorem MP_over' {u v : Value} {e' : Nat} (h : d.MP q w base ok u l) (hty : ∀ k, v.ownBlock = some k → ∃ cells, w.heap[k]? = some (.cells cells e' (0, 0))) (_ : True) (hg : w.grownBy w1 v.ownBlock) : d.MP q w1 base ok u l :=
  MP_step h (fun k es clock _ hm => hg.block k (blk_lt hm) (fun e => by
    obtain ⟨cells, hc⟩ := hty k e.symm
    rw [hm] at hc
    simp at hc))
theorem R_mapped {β : Type} {d2 : Kd β} {e : Nat} {u : Value} {xs : List β} {b : Nat} (h : d2.R e w base ok u xs) (hg : w.grownBy w1 (some b)) (hb : ∃ es clock, w.heap[b]? = some (.map es clock)) : d2.R e w1 base ok u xs := Go.Proofs.YtdoponngnjmkkaaM.R_mapped h hg hb
theorem S_mapped {β : Type} {d2 : Kd β} {e : Nat} {u : Value} {xs : List β} {b : Nat} (h : d2.S e w base ok u xs) (hg : w.grownBy w1 (some b)) (hb : ∃ es clock, w.heap[b]? = some (.map es clock)) : d2.S e w1 base ok u xs := by
  obtain ⟨es, clock, hb⟩ := hb
  refine S_mono (S_grown (S_bound h) hg (fun k hk e => ?_)) (fun _ hk => hk.1)
  injection e with e
  subst e
  obtain ⟨_, _, _, _, _, cells, hc⟩ := hk
  rw [hb] at hc
  simp at hc
theorem blk_mapped {g b t : Nat} {cells : Array Value} {c : Nat × Nat} (h : w.heap[g]? = some (.cells cells t c)) (hb : ∃ es clock, w.heap[b]? = some (.map es clock)) : some g ≠ some b := by
  obtain ⟨es, clock, hb⟩ := hb
  intro e
  injection e with e
  subst e
  rw [hb] at h
  simp at h
end
section
variable {P : Program} {ops : Array Oper} {rest : List Oper} {o : Oper} {a : Act} {Q : Exit → Act → World → Prop} {α : Type} [MapEl α]
theorem gate_mapup {t : TypeId} {m x u : Operand} (_ho : o.op = .mapUpdate t m x u) {W : World} (h : wpList P ops Q (o :: rest) a W) : wpList P ops Q (o :: rest) a W := h
theorem MP_make (d : Kd α) (q : Nat) {W : World} (hgd : o.guard = none) (t : TypeId) (hop : o.op = .makeMap t none)
    (h : ∀ v1 w1, d.MP q w1 W.heap.size (fun _ => True) v1 [] → Below W.heap.size W w1 → True → True → wpList P ops Q rest (a.put o.dst v1) w1) : wpList P ops Q (o :: rest) a W := by
  refine event_run (v := .map (some W.heap.size)) (w1 := W.alloc (.map #[] 0)) hgd ?_ (h _ _ ⟨MapI.made W _ _ _, fun _ _ => trivial⟩ ((Below.refl _ _).alloc (Nat.le_refl _) _) trivial trivial)
  simp [execOp, hop, run_makeMap, Result.andThen]
theorem MP_lookup (d : Kd α) {W : World} {q base : Nat} {ok : Nat → Prop} {v : Value} {l : List α} (hg : o.guard = none) (m x : Operand) (t : TypeId) (hop : o.op = Op.lookup t m x false) (hP : MapEl.P α = P) (K : Keyed P (MapEl.k α)) (ht : P.underlying t = some (.map (MapEl.k α) (MapEl.e α))) (he : P.underlying (MapEl.e α) = some (.int .i64)) (hz : (zeroValue (MapEl.e α)).run P W = .ok (.int .i64 0) W)
    (h : d.MP q W base ok v l) (key : MapEl.κ α) (c : Int) (hc : mget (l.map MapEl.pr) key = c) (hm : a.eval m = v) (hx : a.eval x = KeyLit.val key) (hkey : keyOf P (MapEl.k α) (KeyLit.val key) = some (KeyLit.lit key))
    (hK : wpList P ops Q rest (a.put o.dst (.int .i64 c)) W) : wpList P ops Q (o :: rest) a W := by
  subst hP hc
  exact wpList_lookup_mapI hg m x t hop K ht he hz h.1 key hm hx hkey hK
theorem MP_update (d : Kd α) {W w0 : World} {q base : Nat} {ok : Nat → Prop} {v : Value} {l : List α} (hg : o.guard = none) (m x u : Operand) (t : TypeId) (hop : o.op = Op.mapUpdate t m x u) (hP : MapEl.P α = P) (K : Keyed P (MapEl.k α)) (ht : P.underlying t = some (.map (MapEl.k α) (MapEl.e α))) (he : P.underlying (MapEl.e α) = some (.int .i64))
    (h : d.MP q W base ok v l) (hn : l.length < 9223372036854775807) (p : α) (c : Int) (key : MapEl.κ α) (hp : MapEl.pr p = (key, c)) (hm : a.eval m = v) (hx : a.eval x = KeyLit.val key) (hu : a.eval u = .int .i64 c) (hwc : (Lit.int .i64 c).wf = true) (hkey : keyOf P (MapEl.k α) (KeyLit.val key) = some (KeyLit.lit key))
    (HB : Below base w0 W) (hbase : base ≤ W.heap.size)
    (hK : ∀ w1, d.MP q w1 base ok v (p :: l) → Below base w0 w1 → (∃ b, W.grownBy w1 (some b) ∧ ∃ es clock, W.heap[b]? = some (.map es clock)) → wpList P ops Q rest (a.put o.dst undef) w1) : wpList P ops Q (o :: rest) a W := by
  subst hP
  refine wpList_update_mapI hg m x u t hop K ht he h.1 (by simpa [maxLen] using hn) key c hm hx hu hwc hkey ?_
  intro w1 b h1 hgr hbb hbm
  refine hK w1 ⟨?_, h.2⟩ (HB.grown hgr hbase (fun k hk => by injection hk with hk; omega)) ⟨b, hgr, hbm⟩
  rw [List.map_cons, hp]
  exact h1
end
end Go.Proofs.YtdoponngnjmkkaaW.PrintWords.Kd
namespace Go.Proofs.YtdoponngnjmkkaaM
theorem wf_i64 {n : Int} (h0 : -9223372036854775808 ≤ n) (h1 : n ≤ 9223372036854775807) : (Lit.int .i64 n).wf = true := by
  simp only [Lit.wf, Bool.and_eq_true, decide_eq_true_eq]
  exact ⟨h0, h1⟩
theorem set_drewN (w : World) (n : Nat) (p : Addr) (v : Value) : (w.drewN n).setCell p v = (w.setCell p v).drewN n := rfl
theorem cell_of {W W' : World} {a : Addr} {u : Value} (h : W.heap = W'.heap) (hx : W'.cell? a = some u) : W.cell? a = some u := by
  rw [← hx]
  simp only [World.cell?, h]
end Go.Proofs.YtdoponngnjmkkaaM
