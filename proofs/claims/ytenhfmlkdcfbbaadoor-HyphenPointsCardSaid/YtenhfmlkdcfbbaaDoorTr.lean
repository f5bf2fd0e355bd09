/- law21: a trie in memory, told by the list of its nodes in the order in which they were made. -/
import Derived.Test.YtenhfmlkdcfbbaaDoorV
import Derived.Test.YtenhfmlkdcfbbaaDoorProg
import Derived.Test.YtenhfmlkdcfbbaaDoorWAll
namespace Go.Proofs.YtenhfmlkdcfbbaaDoor.Trie
open Go.Maps Go.RowKit Go.Proofs.YtenhfmlkdcfbbaaDoorW.PrintWords Go.Proofs.YtenhfmlkdcfbbaaDoorV
set_option linter.unusedVariables false
def Pl : Obj → Prop
 | .cells _ _ _ => True
 | .map _ _ => True
 | _ => False
structure PN where
 kids : Option (List (Int × Nat))
 lv : Option (List Int)
def PN.z : PN := ⟨none, none⟩
def kv (x : Option (List (Int × Nat))) (m : Nat) : Value := match x with | none => .map none | some _ => .map (some m)
def lv (x : Option (List Int)) (q : Nat) : Value := match x with | none => .slice none 0 0 | some L => .slice (some ⟨q, 0, none⟩) L.length L.length
def kl (nb : Nat → Nat) (l : List (Int × Nat)) : List (Int × Value) := l.map fun p => (p.1, .pointer (some ⟨nb p.2, 0, none⟩))
structure Tr (base : Nat) (W : World) (ar : List PN) (nb mb qb : Nat → Nat) : Prop where
 low : ∀ i nd, ar[i]? = some nd → base ≤ nb i
 node : ∀ i nd, ar[i]? = some nd → W.heap[nb i]? = some (.cells #[kv nd.kids (mb i), lv nd.lv (qb i)] 49 (0, 0))
 inj : ∀ i j nd nd', ar[i]? = some nd → ar[j]? = some nd' → nb i = nb j → i = j
 kids : ∀ i nd l, ar[i]? = some nd → nd.kids = some l → base ≤ mb i ∧ MapV Tryd.prog 3 W (mb i) (kl nb l) ∧ (∀ p ∈ l, p.2 < ar.length) ∧ l.length ≤ ar.length
 kinj : ∀ i j nd nd' l l', ar[i]? = some nd → ar[j]? = some nd' → nd.kids = some l → nd'.kids = some l' → mb i = mb j → i = j
 lev : ∀ i nd L, ar[i]? = some nd → nd.lv = some L → base ≤ qb i ∧ W.heap[qb i]? = some (.cells (L.map (Value.int .i64)).toArray 3 (0, 0))
 linj : ∀ i j nd nd' L L', ar[i]? = some nd → ar[j]? = some nd' → nd.lv = some L → nd'.lv = some L' → qb i = qb j → i = j
section
variable {base : Nat} {W W1 : World} {ar : List PN} {nb mb qb : Nat → Nat}
theorem Tr.kept (h : Tr base W ar nb mb qb) (hk : ∀ b o, base ≤ b → W.heap[b]? = some o → Pl o → W1.heap[b]? = W.heap[b]?) : Tr base W1 ar nb mb qb where
 low := h.low
 node := fun i nd hi => (hk _ _ (h.low i nd hi) (h.node i nd hi) trivial).trans (h.node i nd hi)
 inj := h.inj
 kids := fun i nd l hi hl => by
  obtain ⟨h1, h2, h3⟩ := h.kids i nd l hi hl
  obtain ⟨es, clock, hm⟩ := h2.obj
  exact ⟨h1, h2.of_eq (hk _ _ h1 hm trivial), h3⟩
 kinj := h.kinj
 lev := fun i nd L hi hl => by
  obtain ⟨h1, h2⟩ := h.lev i nd L hi hl
  exact ⟨h1, (hk _ _ h1 h2 trivial).trans h2⟩
 linj := h.linj
theorem Tr.below (h : Tr base W ar nb mb qb) (hb : Below W.heap.size W W1) : Tr base W1 ar nb mb qb := h.kept (fun b o _ ho _ => hb.block b (blk_lt ho))
theorem Tr.alloc (h : Tr base W ar nb mb qb) (o : Obj) : Tr base (W.alloc o) ar nb mb qb := h.kept (fun b o' _ ho _ => Below.heap_alloc W o b (blk_lt ho))
theorem Tr.far (h : Tr base W ar nb mb qb) {g t : Nat} {cs : Array Value} (hg : W.heap[g]? = some (.cells cs t (0, 0))) (ht : t ≠ 49) (hq : ∀ i nd L, ar[i]? = some nd → nd.lv = some L → qb i ≠ g) (i : Nat) (u : Value) : Tr base (W.setCell ⟨g, i, none⟩ u) ar nb mb qb where
 low := h.low
 node := fun i nd hi => blk_far (h.node i nd hi) (blk_ne (h.node i nd hi) hg (fun e => ht e.symm)) u
 inj := h.inj
 kids := fun i nd l hi hl => by
  obtain ⟨h1, h2, h3⟩ := h.kids i nd l hi hl
  exact ⟨h1, h2.of_eq (Below.heap_setCell W _ _ _ (h2.ne hg)), h3⟩
 kinj := h.kinj
 lev := fun i nd L hi hl => by
  obtain ⟨h1, h2⟩ := h.lev i nd L hi hl
  exact ⟨h1, blk_far h2 (hq i nd L hi hl) u⟩
 linj := h.linj
def setf (f : Nat → Nat) (i v : Nat) : Nat → Nat := fun j => if j = i then v else f j
theorem setf_same (f : Nat → Nat) (i v : Nat) : setf f i v i = v := if_pos rfl
theorem setf_other (f : Nat → Nat) {i j : Nat} (h : j ≠ i) (v : Nat) : setf f i v j = f j := if_neg h
theorem get_set {α : Type} {l : List α} {i j : Nat} {x y : α} (h : (l.set i x)[j]? = some y) : (j = i ∧ y = x ∧ i < l.length) ∨ (j ≠ i ∧ l[j]? = some y) := by
 by_cases e : i = j
 ·subst e
  rw [List.getElem?_set_self' ] at h
  cases hc : l[i]? with
  | none => rw [hc] at h; cases h
  | some z =>
   rw [hc] at h
   injection h with h
   exact .inl ⟨rfl, h.symm, (List.getElem?_eq_some_iff.1 hc).1⟩
 ·rw [List.getElem?_set_ne e] at h
  exact .inr ⟨fun q => e q.symm, h⟩
theorem set_any {ar : List PN} {i j : Nat} {nd x y : PN} (hi : ar[i]? = some nd) (h : (ar.set i x)[j]? = some y) : ∃ z, ar[j]? = some z := by
 rcases get_set h with ⟨rfl, _⟩ | ⟨_, q⟩
 ·exact ⟨_, hi⟩
 ·exact ⟨_, q⟩
theorem set_lv {ar : List PN} {i j : Nat} {nd x y : PN} {L : List Int} (hi : ar[i]? = some nd) (hx : x.lv = nd.lv) (h : (ar.set i x)[j]? = some y) (hl : y.lv = some L) : ∃ z, ar[j]? = some z ∧ z.lv = some L := by
 rcases get_set h with ⟨rfl, rfl, _⟩ | ⟨_, q⟩
 ·exact ⟨_, hi, hx.symm.trans hl⟩
 ·exact ⟨_, q, hl⟩
theorem set_kids {ar : List PN} {i j : Nat} {nd x y : PN} {L : List (Int × Nat)} (hi : ar[i]? = some nd) (hx : x.kids = nd.kids) (h : (ar.set i x)[j]? = some y) (hl : y.kids = some L) : ∃ z, ar[j]? = some z ∧ z.kids = some L := by
 rcases get_set h with ⟨rfl, rfl, _⟩ | ⟨_, q⟩
 ·exact ⟨_, hi, hx.symm.trans hl⟩
 ·exact ⟨_, q, hl⟩
theorem Tr.opened (h : Tr base W ar nb mb qb) {i : Nat} {nd : PN} (hi : ar[i]? = some nd) (hn : nd.kids = none) (hb : base ≤ W.heap.size) :
  Tr base ((W.alloc (.map #[] 0)).setCell ⟨nb i, 0, none⟩ (.map (some W.heap.size))) (ar.set i ⟨some [], nd.lv⟩) nb (setf mb i W.heap.size) qb := by
 have hA := h.alloc (.map #[] 0)
 have hni := hA.node i nd hi
 refine ⟨fun j nd' hj => ?_, fun j nd' hj => ?_, fun j j' nd' nd'' hj hj' e => ?_, fun j nd' l hj hl => ?_, fun j j' nd' nd'' l l' hj hj' hl hl' e => ?_, fun j nd' L hj hl => ?_, fun j j' nd' nd'' L L' hj hj' hl hl' e => ?_⟩
 ·rcases get_set hj with ⟨rfl, rfl, _⟩ | ⟨_, hj⟩
  ·exact h.low _ _ hi
  ·exact h.low _ _ hj
 ·rcases get_set hj with ⟨rfl, rfl, _⟩ | ⟨hne, hj⟩
  ·rw [setf_same]
   exact blk_put hni 0 _ rfl
  ·rw [setf_other _ hne]
   exact blk_far (hA.node j nd' hj) (fun e => hne (h.inj _ _ _ _ hj hi e)) _
 ·obtain ⟨x, hx⟩ := set_any hi hj
  obtain ⟨y, hy⟩ := set_any hi hj'
  exact h.inj _ _ _ _ hx hy e
 ·rcases get_set hj with ⟨rfl, rfl, _⟩ | ⟨hne, hj⟩
  ·injection hl with hl
   subst hl
   rw [setf_same]
   exact ⟨hb, (MapV.made W _ _).of_eq (Below.heap_setCell _ _ _ _ ((MapV.made (κ := Int) W Tryd.prog 3).ne hni)), fun p hp => absurd hp (by simp), by simp⟩
  ·rw [setf_other _ hne]
   obtain ⟨h1, h2, h3⟩ := hA.kids j nd' l hj hl
   exact ⟨h1, h2.of_eq (Below.heap_setCell _ _ _ _ (h2.ne hni)), by rw [List.length_set]; exact h3⟩
 ·rcases get_set hj with ⟨rfl, rfl, _⟩ | ⟨hne, hq⟩
  ·rcases get_set hj' with ⟨rfl, rfl, _⟩ | ⟨hne', hq'⟩
   ·rfl
   ·rw [setf_same, setf_other _ hne'] at e
    have := (h.kids _ _ _ hq' hl').2.1.lt
    omega
  ·rcases get_set hj' with ⟨rfl, rfl, _⟩ | ⟨hne', hq'⟩
   ·rw [setf_same, setf_other _ hne] at e
    have := (h.kids _ _ _ hq hl).2.1.lt
    omega
   ·rw [setf_other _ hne, setf_other _ hne'] at e
    exact h.kinj _ _ _ _ _ _ hq hq' hl hl' e
 ·obtain ⟨x, hx, hxl⟩ := set_lv hi (by rfl) hj hl
  obtain ⟨h1, h2⟩ := hA.lev _ _ _ hx hxl
  exact ⟨h1, blk_far h2 (blk_ne h2 hni (by decide)) _⟩
 ·obtain ⟨x, hx, hxl⟩ := set_lv hi (by rfl) hj hl
  obtain ⟨y, hy, hyl⟩ := set_lv hi (by rfl) hj' hl'
  exact h.linj _ _ _ _ _ _ hx hy hxl hyl e
theorem get_app {α : Type} {l : List α} {z y : α} {j : Nat} (h : (l ++ [z])[j]? = some y) : (j < l.length ∧ l[j]? = some y) ∨ (j = l.length ∧ y = z) := by
 by_cases c : j < l.length
 ·rw [List.getElem?_append_left c] at h
  exact .inl ⟨c, h⟩
 ·rw [List.getElem?_append_right (by omega)] at h
  by_cases e : j - l.length = 0
  ·rw [e] at h
   injection h with h
   exact .inr ⟨by omega, h.symm⟩
  ·rw [List.getElem?_eq_none (by simp; omega)] at h
   cases h
theorem kl_setf (nb : Nat → Nat) (n s : Nat) : ∀ (l : List (Int × Nat)), (∀ p ∈ l, p.2 < n) → kl (setf nb n s) l = kl nb l
 | [], _ => rfl
 | p :: r, h => by
  have h1 := h p (by simp)
  have h2 := kl_setf nb n s r (fun q hq => h q (by simp [hq]))
  unfold kl at h2 ⊢
  rw [List.map_cons, List.map_cons, h2, setf_other nb (by omega) s]
theorem Tr.child (h : Tr base W ar nb mb qb) {i : Nat} {nd : PN} (hi : ar[i]? = some nd) {l : List (Int × Nat)} (hl : nd.kids = some l) (c : Int) (hb : base ≤ W.heap.size)
  (hm : MapV Tryd.prog 3 W1 (mb i) ((c, .pointer (some ⟨W.heap.size, 0, none⟩)) :: kl nb l)) (hg : (W.alloc (.cells #[.map none, .slice none 0 0] 49)).grownBy W1 (some (mb i))) :
  Tr base W1 (ar.set i ⟨some ((c, ar.length) :: l), nd.lv⟩ ++ [PN.z]) (setf nb ar.length W.heap.size) mb qb := by
 have hA := h.alloc (.cells #[.map none, .slice none 0 0] 49)
 obtain ⟨k1, k2, k3⟩ := hA.kids i nd l hi hl
 have hsz : (ar.set i ⟨some ((c, ar.length) :: l), nd.lv⟩).length = ar.length := List.length_set
 have old : ∀ {j : Nat} {y : PN}, (ar.set i ⟨some ((c, ar.length) :: l), nd.lv⟩ ++ [PN.z])[j]? = some y → ((ar.set i ⟨some ((c, ar.length) :: l), nd.lv⟩)[j]? = some y ∧ j ≠ ar.length) ∨ (j = ar.length ∧ y = PN.z) := by
  intro j y hj
  rcases get_app hj with ⟨a, b⟩ | ⟨a, b⟩
  ·exact .inl ⟨b, by omega⟩
  ·exact .inr ⟨by omega, b⟩
 have nlt : ∀ {j : Nat} {y : PN}, ar[j]? = some y → nb j < W.heap.size := fun hj => blk_lt (h.node _ _ hj)
 refine ⟨fun j nd' hj => ?_, fun j nd' hj => ?_, fun j j' nd' nd'' hj hj' e => ?_, fun j nd' l' hj hl' => ?_, fun j j' nd' nd'' l' l'' hj hj' hl' hl'' e => ?_, fun j nd' L hj hL => ?_, fun j j' nd' nd'' L L' hj hj' hL hL' e => ?_⟩
 ·rcases old hj with ⟨hq, hne⟩ | ⟨rfl, rfl⟩
  ·obtain ⟨x, hx⟩ := set_any hi hq
   rw [setf_other _ hne]
   exact h.low _ _ hx
  ·rw [setf_same]
   exact hb
 ·rcases old hj with ⟨hq, hne⟩ | ⟨rfl, rfl⟩
  ·rw [setf_other _ hne]
   rcases get_set hq with ⟨rfl, rfl, _⟩ | ⟨_, hq⟩
   ·have := hA.node _ _ hi
    rw [hl] at this
    exact blk_grown this hg (fun e => by injection e with e; exact k2.ne this e.symm)
   ·have := hA.node _ _ hq
    exact blk_grown this hg (fun e => by injection e with e; exact k2.ne this e.symm)
  ·rw [setf_same]
   have := blk_new W (.cells #[.map none, .slice none 0 0] 49)
   exact blk_grown this hg (fun e => by injection e with e; exact k2.ne this e.symm)
 ·rcases old hj with ⟨hq, hne⟩ | ⟨rfl, rfl⟩
  ·obtain ⟨x, hx⟩ := set_any hi hq
   rcases old hj' with ⟨hq', hne'⟩ | ⟨rfl, rfl⟩
   ·obtain ⟨y, hy⟩ := set_any hi hq'
    rw [setf_other _ hne, setf_other _ hne'] at e
    exact h.inj _ _ _ _ hx hy e
   ·rw [setf_same, setf_other _ hne] at e
    have := nlt hx
    omega
  ·rcases old hj' with ⟨hq', hne'⟩ | ⟨rfl, rfl⟩
   ·obtain ⟨y, hy⟩ := set_any hi hq'
    rw [setf_same, setf_other _ hne'] at e
    have := nlt hy
    omega
   ·rfl
 ·rw [List.length_append, List.length_singleton, hsz]
  rcases old hj with ⟨hq, hne⟩ | ⟨rfl, rfl⟩
  ·rcases get_set hq with ⟨rfl, rfl, _⟩ | ⟨hne2, hq⟩
   ·injection hl' with hl'
    subst hl'
    refine ⟨k1, ?_, fun p hp => ?_, by have := k3.2; simp; omega⟩
    ·have e : kl (setf nb ar.length W.heap.size) ((c, ar.length) :: l) = (c, .pointer (some ⟨W.heap.size, 0, none⟩)) :: kl nb l := by
      have := kl_setf nb ar.length W.heap.size l k3.1
      unfold kl at this ⊢
      rw [List.map_cons, this, setf_same]
     rw [e]
     exact hm
    ·rcases List.mem_cons.1 hp with rfl | hp
     ·show ar.length < _
      omega
     ·have := k3.1 p hp
      omega
   ·obtain ⟨h1, h2, h3⟩ := hA.kids _ _ _ hq hl'
    refine ⟨h1, ?_, fun p hp => by have := h3.1 p hp; omega, by have := h3.2; omega⟩
    rw [kl_setf _ _ _ _ h3.1]
    obtain ⟨es, clock, hmm⟩ := h2.obj
    exact h2.of_eq (hg.block _ (blk_lt hmm) (fun e => by injection e with e; exact hne2 (h.kinj _ _ _ _ _ _ hq hi hl' hl e)))
  ·cases hl'
 ·rcases old hj with ⟨hq, hne⟩ | ⟨rfl, rfl⟩
  ·rcases old hj' with ⟨hq', hne'⟩ | ⟨rfl, rfl⟩
   ·have any : ∀ {j : Nat} {y : PN} {z : List (Int × Nat)}, (ar.set i ⟨some ((c, ar.length) :: l), nd.lv⟩)[j]? = some y → y.kids = some z → ∃ u v, ar[j]? = some u ∧ u.kids = some v := by
     intro j y z hj hz
     rcases get_set hj with ⟨rfl, rfl, _⟩ | ⟨_, q⟩
     ·exact ⟨_, _, hi, hl⟩
     ·exact ⟨_, _, q, hz⟩
    obtain ⟨u, v, a1, a2⟩ := any hq hl'
    obtain ⟨u', v', b1, b2⟩ := any hq' hl''
    exact h.kinj _ _ _ _ _ _ a1 b1 a2 b2 e
   ·cases hl''
  ·cases hl'
 ·rcases old hj with ⟨hq, hne⟩ | ⟨rfl, rfl⟩
  ·obtain ⟨x, hx, hxl⟩ := set_lv hi (by rfl) hq hL
   obtain ⟨h1, h2⟩ := hA.lev _ _ _ hx hxl
   exact ⟨h1, blk_grown h2 hg (fun e => by injection e with e; exact k2.ne h2 e.symm)⟩
  ·cases hL
 ·rcases old hj with ⟨hq, hne⟩ | ⟨rfl, rfl⟩
  ·rcases old hj' with ⟨hq', hne'⟩ | ⟨rfl, rfl⟩
   ·obtain ⟨x, hx, hxl⟩ := set_lv hi (by rfl) hq hL
    obtain ⟨y, hy, hyl⟩ := set_lv hi (by rfl) hq' hL'
    exact h.linj _ _ _ _ _ _ hx hy hxl hyl e
   ·cases hL'
  ·cases hL
theorem Tr.level (h : Tr base W ar nb mb qb) {i : Nat} {nd : PN} (hi : ar[i]? = some nd) (hn : nd.lv = none) (hb : base ≤ W.heap.size) (L : List Int) {m : Nat} (hm : L.length = m) :
  Tr base ((W.alloc (.cells (L.map (Value.int .i64)).toArray 3)).setCell ⟨nb i, 1, none⟩ (.slice (some ⟨W.heap.size, 0, none⟩) m m)) (ar.set i ⟨nd.kids, some L⟩) nb mb (setf qb i W.heap.size) := by
 subst hm
 have hA := h.alloc (.cells (L.map (Value.int .i64)).toArray 3)
 have hni := hA.node i nd hi
 have hnew := blk_new W (.cells (L.map (Value.int .i64)).toArray 3)
 refine ⟨fun j nd' hj => ?_, fun j nd' hj => ?_, fun j j' nd' nd'' hj hj' e => ?_, fun j nd' l hj hl => ?_, fun j j' nd' nd'' l l' hj hj' hl hl' e => ?_, fun j nd' L' hj hl => ?_, fun j j' nd' nd'' L L' hj hj' hl hl' e => ?_⟩
 ·obtain ⟨x, hx⟩ := set_any hi hj
  exact h.low _ _ hx
 ·rcases get_set hj with ⟨rfl, rfl, _⟩ | ⟨hne, hq⟩
  ·rw [setf_same]
   exact blk_put hni 1 _ rfl
  ·rw [setf_other _ hne]
   exact blk_far (hA.node j nd' hq) (fun e => hne (h.inj _ _ _ _ hq hi e)) _
 ·obtain ⟨x, hx⟩ := set_any hi hj
  obtain ⟨y, hy⟩ := set_any hi hj'
  exact h.inj _ _ _ _ hx hy e
 ·rw [List.length_set]
  obtain ⟨x, hx, hxl⟩ := set_kids hi (by rfl) hj hl
  obtain ⟨h1, h2, h3⟩ := hA.kids _ _ _ hx hxl
  exact ⟨h1, h2.of_eq (Below.heap_setCell _ _ _ _ (h2.ne hni)), h3⟩
 ·obtain ⟨x, hx, hxl⟩ := set_kids hi (by rfl) hj hl
  obtain ⟨y, hy, hyl⟩ := set_kids hi (by rfl) hj' hl'
  exact h.kinj _ _ _ _ _ _ hx hy hxl hyl e
 ·rcases get_set hj with ⟨rfl, rfl, _⟩ | ⟨hne, hq⟩
  ·injection hl with hl
   subst hl
   rw [setf_same]
   exact ⟨hb, blk_far hnew (blk_ne hnew hni (by decide)) _⟩
  ·rw [setf_other _ hne]
   obtain ⟨h1, h2⟩ := hA.lev _ _ _ hq hl
   exact ⟨h1, blk_far h2 (blk_ne h2 hni (by decide)) _⟩
 ·rcases get_set hj with ⟨rfl, rfl, _⟩ | ⟨hne, hq⟩
  ·rcases get_set hj' with ⟨rfl, rfl, _⟩ | ⟨hne', hq'⟩
   ·rfl
   ·rw [setf_same, setf_other _ hne'] at e
    have := blk_lt (h.lev _ _ _ hq' hl').2
    omega
  ·rcases get_set hj' with ⟨rfl, rfl, _⟩ | ⟨hne', hq'⟩
   ·rw [setf_same, setf_other _ hne] at e
    have := blk_lt (h.lev _ _ _ hq hl).2
    omega
   ·rw [setf_other _ hne, setf_other _ hne'] at e
    exact h.linj _ _ _ _ _ _ hq hq' hl hl' e
theorem Tr.write (h : Tr base W ar nb mb qb) {i : Nat} {nd : PN} (hi : ar[i]? = some nd) {L : List Int} (hn : nd.lv = some L) (k : Nat) (v : Int) :
  Tr base (W.setCell ⟨qb i, k, none⟩ (.int .i64 v)) (ar.set i ⟨nd.kids, some (L.set k v)⟩) nb mb qb := by
 obtain ⟨q1, q2⟩ := h.lev _ _ _ hi hn
 refine ⟨fun j nd' hj => ?_, fun j nd' hj => ?_, fun j j' nd' nd'' hj hj' e => ?_, fun j nd' l hj hl => ?_, fun j j' nd' nd'' l l' hj hj' hl hl' e => ?_, fun j nd' L' hj hl => ?_, fun j j' nd' nd'' L1 L2 hj hj' hl hl' e => ?_⟩
 ·obtain ⟨x, hx⟩ := set_any hi hj
  exact h.low _ _ hx
 ·rcases get_set hj with ⟨rfl, rfl, _⟩ | ⟨hne, hq⟩
  ·have h2 := h.node _ _ hi
   have e : lv (some (L.set k v)) (qb j) = lv nd.lv (qb j) := by rw [hn]; show Value.slice (some ⟨qb j, 0, none⟩) (L.set k v).length (L.set k v).length = Value.slice (some ⟨qb j, 0, none⟩) L.length L.length; rw [List.length_set]
   rw [e]
   exact blk_far h2 (blk_ne h2 q2 (by decide)) _
  ·have h2 := h.node _ _ hq
   exact blk_far h2 (blk_ne h2 q2 (by decide)) _
 ·obtain ⟨x, hx⟩ := set_any hi hj
  obtain ⟨y, hy⟩ := set_any hi hj'
  exact h.inj _ _ _ _ hx hy e
 ·rw [List.length_set]
  obtain ⟨x, hx, hxl⟩ := set_kids hi (by rfl) hj hl
  obtain ⟨h1, h2, h3⟩ := h.kids _ _ _ hx hxl
  exact ⟨h1, h2.of_eq (Below.heap_setCell _ _ _ _ (h2.ne q2)), h3⟩
 ·obtain ⟨x, hx, hxl⟩ := set_kids hi (by rfl) hj hl
  obtain ⟨y, hy, hyl⟩ := set_kids hi (by rfl) hj' hl'
  exact h.kinj _ _ _ _ _ _ hx hy hxl hyl e
 ·rcases get_set hj with ⟨rfl, rfl, _⟩ | ⟨hne, hq⟩
  ·injection hl with hl
   subst hl
   exact ⟨q1, blk_put q2 k _ (by rw [List.setIfInBounds_toArray, List.map_set])⟩
  ·obtain ⟨h1, h2⟩ := h.lev _ _ _ hq hl
   exact ⟨h1, blk_far h2 (fun e => hne (h.linj _ _ _ _ _ _ hq hi hl hn e)) _⟩
 ·have any : ∀ {j : Nat} {y : PN} {z : List Int}, (ar.set i ⟨nd.kids, some (L.set k v)⟩)[j]? = some y → y.lv = some z → ∃ u w, ar[j]? = some u ∧ u.lv = some w := by
   intro j y z hj hz
   rcases get_set hj with ⟨rfl, rfl, _⟩ | ⟨_, q⟩
   ·exact ⟨_, _, hi, hn⟩
   ·exact ⟨_, _, q, hz⟩
  obtain ⟨u, w, a1, a2⟩ := any hj hl
  obtain ⟨u', w', b1, b2⟩ := any hj' hl'
  exact h.linj _ _ _ _ _ _ a1 b1 a2 b2 e
end
end Go.Proofs.YtenhfmlkdcfbbaaDoor.Trie
