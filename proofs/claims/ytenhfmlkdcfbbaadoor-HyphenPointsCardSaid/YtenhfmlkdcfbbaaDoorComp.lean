/- law21: how a set is made (function 11), walked. -/
import Derived.Test.YtenhfmlkdcfbbaaDoorSet
import Derived.Test.YtenhfmlkdcfbbaaDoorSeq
import Derived.RangeFuncLeaves
import Derived.RangeFuncBox
namespace Go.Proofs.YtenhfmlkdcfbbaaDoor.PHyphenPoints
open Go.RowKit Go.Proofs.YtenhfmlkdcfbbaaDoorW.PrintWords Go.Proofs.YtenhfmlkdcfbbaaDoorW.PrintLast Go.Proofs.YtenhfmlkdcfbbaaDoorW.PrintMore Go.Proofs.YtenhfmlkdcfbbaaDoorG
attribute [local go_sem] max2_int min2_int max_two min_two max_three min_three max_four min_four
attribute [local go_sem] Oper.semAt_some
set_option linter.unusedVariables false
set_option linter.unusedSimpArgs false
namespace Cp
def pats (k : Nat) : List (Int × List Int) → List Trie.PN → Option (Int ⊕ List Trie.PN)
 | [], ar => some (.inr ar)
 |(p, w) :: r, ar => (hyphen_Set_pattern.f k w).bind fun q => match q with
  | none => some (.inl p)
  | some (le, lv, n) => if n = 0 then some (.inl p) else pats k r (Trie.put ar le lv n)
def PatsOK (k : Nat) : List (Int × List Int) → List Trie.PN → Prop
 | [], ar => 0 < ar.length ∧ ar.length ≤ 1000000000000
 |(p, w) :: r, ar => (0 < ar.length ∧ ar.length ≤ 1000000000000) ∧ ∀ le lv n, hyphen_Set_pattern.f k w = some (some (le, lv, n)) →
   ((∀ c ∈ le, (Lit.int .i64 c).wf = true) ∧ (lv.length : Int) = n + 1 ∧ 0 ≤ n ∧ n ≤ 64 ∧ le.length ≤ 100 ∧ lv.length ≤ 65) ∧
   (∀ nd L, (Trie.walk ar 0 le).1[(Trie.walk ar 0 le).2]? = some nd → nd.lv = some L → L.length = lv.length) ∧ (n ≠ 0 → PatsOK k r (Trie.put ar le lv n))
def excs (k : Nat) : List (Int × List Int) → List (ByteArray × List Int) → Option (Int ⊕ List (ByteArray × List Int))
 | [], kn => some (.inr kn)
 |(p, w) :: r, kn => (hyphen_Set_exception.f k w).bind fun q => match q with
  | none => some (.inl p)
  | some (key, pts) => excs k r (Trie.kput kn key pts)
def ExcsOK (k : Nat) : List (Int × List Int) → List (ByteArray × List Int) → Prop
 | [], _ => True
 |(p, w) :: r, kn => kn.length ≤ 1000000000000 ∧ ∀ key pts, hyphen_Set_exception.f k w = some (some (key, pts)) → key.size ≤ 9223372036854775807 ∧ ExcsOK k r (Trie.kput kn key pts)
abbrev HS := List Trie.PN × List (ByteArray × List Int)
def SetV (base : Nat) (W : World) (v : Value) : Option HS → Prop
 | none => v = .pointer none
 | some s => ∃ Sb K nb mb qb es, v = .pointer (some ⟨Sb, 0, none⟩) ∧ Trie.At base W Sb K s.1 nb mb qb es s.2
theorem SetV.below {base : Nat} {W W1 : World} {v : Value} {s : Option HS} (h : SetV base W v s) (hb : Below W.heap.size W W1) : SetV base W1 v s := by
 cases s with
 | none => exact h
 | some s =>
  obtain ⟨Sb, K, nb, mb, qb, es, h1, h2⟩ := h
  exact ⟨Sb, K, nb, mb, qb, es, h1, h2.below hb⟩
theorem results3 (tmps : Array Value) (w : World) (g0 g1 g2 : Nat) (v : Value) (a b : Value) (h4 : tmps.getD 4 undef = .pointer (some ⟨g0, 0, none⟩)) (h5 : tmps.getD 5 undef = .pointer (some ⟨g1, 0, none⟩)) (h6 : tmps.getD 6 undef = .pointer (some ⟨g2, 0, none⟩))
  (c0 : w.cell? ⟨g0, 0, none⟩ = some v) (c1 : w.cell? ⟨g1, 0, none⟩ = some a) (c2 : w.cell? ⟨g2, 0, none⟩ = some b) : (results Tryd.f11 tmps).run Tryd.prog w = .ok (.tuple #[v, a, b]) w := by
 unfold results
 rw [show Tryd.f11.results = [ResultVar.cell 4 27, .cell 5 3, .cell 6 28].toArray from rfl, List.mapM_toArray]
 simp only [List.mapM_cons, List.mapM_nil, h4, h5, h6]
 have u27 := Tryd.underlying27
 have u3 := Tryd.underlying3
 have u28 := Tryd.underlying28
 simp [asAddr]
 go_simp
structure Res (B : Nat) (W : World) (v a b : Value) : Prop where
 c0 : W.heap[B]? = some (.cells #[v] 27 (0, 0))
 c1 : W.heap[B + 1]? = some (.cells #[a] 3 (0, 0))
 c2 : W.heap[B + 2]? = some (.cells #[b] 28 (0, 0))
theorem Res.made (w : World) (v a b : Value) : Res w.heap.size (((w.alloc (.cells #[v] 27)).alloc (.cells #[a] 3)).alloc (.cells #[b] 28)) v a b := by
 have h1 := heap_alloc_new (w.alloc (.cells #[v] 27)) (.cells #[a] 3)
 rw [show (w.alloc (.cells #[v] 27)).heap.size = w.heap.size + 1 by simp] at h1
 have h2 := heap_alloc_new ((w.alloc (.cells #[v] 27)).alloc (.cells #[a] 3)) (.cells #[b] 28)
 rw [show ((w.alloc (.cells #[v] 27)).alloc (.cells #[a] 3)).heap.size = w.heap.size + 2 by simp] at h2
 exact ⟨blk_alloc (blk_alloc (heap_alloc_new w _) _) _, blk_alloc h1 _, h2⟩
theorem Res.kept {B : Nat} {W W1 : World} {v a b : Value} (h : Res B W v a b) (hk : ∀ k o, B ≤ k → k < B + 3 → W.heap[k]? = some o → W1.heap[k]? = W.heap[k]?) : Res B W1 v a b :=
 ⟨(hk _ _ (by omega) (by omega) h.c0).trans h.c0, (hk _ _ (by omega) (by omega) h.c1).trans h.c1, (hk _ _ (by omega) (by omega) h.c2).trans h.c2⟩
theorem Res.below {B : Nat} {W W1 : World} {v a b : Value} (h : Res B W v a b) (hb : Below W.heap.size W W1) : Res B W1 v a b := h.kept (fun k o _ _ ho => hb.block k (blk_lt ho))
theorem Res.ret3 {B : Nat} {W : World} {v a b v' a' b' : Value} (h : Res B W v a b) : Res B (((W.setCell ⟨B, 0, none⟩ v').setCell ⟨B + 1, 0, none⟩ a').setCell ⟨B + 2, 0, none⟩ b') v' a' b' :=
 ⟨blk_far (blk_far (blk_put h.c0 0 v' rfl) (by show B ≠ B + 1; omega) _) (by show B ≠ B + 2; omega) _, blk_far (blk_put (blk_far h.c1 (by show B + 1 ≠ B; omega) _) 0 a' rfl) (by show B + 1 ≠ B + 2; omega) _, blk_put (blk_far (blk_far h.c2 (by show B + 2 ≠ B; omega) _) (by show B + 2 ≠ B + 1; omega) _) 0 b' rfl⟩
theorem below3 {B : Nat} {w W : World} (h : Below B w W) (v a b : Value) : Below B w (((W.setCell ⟨B, 0, none⟩ v).setCell ⟨B + 1, 0, none⟩ a).setCell ⟨B + 2, 0, none⟩ b) :=
 ((h.setCell (p := ⟨B, 0, none⟩) (Nat.le_refl _) _).setCell (p := ⟨B + 1, 0, none⟩) (Nat.le_add_right _ _) _).setCell (p := ⟨B + 2, 0, none⟩) (Nat.le_add_right _ _) _
theorem start (base : Nat) (w : World) (s : ByteArray) (hb : base ≤ w.heap.size) :
  ∃ W, W = ((((w.alloc (.cells #[.map none, .slice none 0 0] 49)).alloc (.map #[] 0)).alloc (.cells #[.pointer (some ⟨w.heap.size, 0, none⟩), .int .i64 1, .map (some (w.heap.size + 1))] 52)).alloc (.cells #[.pointer (some ⟨w.heap.size + 1 + 1, 0, none⟩)] 27)).alloc (.cells #[.string s] 9) ∧
   Trie.At base W (w.heap.size + 2) (w.heap.size + 1) [Trie.PN.z] (fun _ => w.heap.size) (fun _ => 0) (fun _ => 0) [] [] ∧
   W.heap[w.heap.size + 3]? = some (.cells #[.pointer (some ⟨w.heap.size + 2, 0, none⟩)] 27 (0, 0)) ∧ W.heap[w.heap.size + 4]? = some (.cells #[.string s] 9 (0, 0)) ∧ W.heap.size = w.heap.size + 5 ∧ Below w.heap.size w W := by
 refine ⟨_, rfl, ?_, ?_, ?_, by simp, below_alloc (below_alloc (below_alloc (below_alloc (below_alloc (Below.refl _ _) _) _) _) _) _⟩
 ·have m1 : YtenhfmlkdcfbbaaDoorV.MapV (κ := ByteArray) Tryd.prog 9 ((w.alloc (.cells #[.map none, .slice none 0 0] 49)).alloc (.map #[] 0)) (w.heap.size + 1) [] := by
   have := YtenhfmlkdcfbbaaDoorV.MapV.made (κ := ByteArray) (w.alloc (.cells #[.map none, .slice none 0 0] 49)) Tryd.prog 9
   rw [show (w.alloc (.cells #[.map none, .slice none 0 0] 49)).heap.size = w.heap.size + 1 by simp] at this
   exact this
  have n1 := heap_alloc_new w (.cells #[.map none, .slice none 0 0] 49)
  have s1 := heap_alloc_new ((w.alloc (.cells #[.map none, .slice none 0 0] 49)).alloc (.map #[] 0)) (.cells #[.pointer (some ⟨w.heap.size, 0, none⟩), .int .i64 1, .map (some (w.heap.size + 1))] 52)
  rw [show ((w.alloc (.cells #[.map none, .slice none 0 0] 49)).alloc (.map #[] 0)).heap.size = w.heap.size + 2 by simp] at s1
  have one : ∀ (i : Nat) (nd : Trie.PN), [Trie.PN.z][i]? = some nd → i = 0 ∧ nd = Trie.PN.z := by
   intro i nd h
   cases i with
   | zero => injection h with h; exact ⟨rfl, h.symm⟩
   | succ i => simp at h
  refine ⟨blk_alloc (blk_alloc s1 _) _, ⟨fun i nd h => hb, fun i nd h => ?_, fun i j nd nd' h h' _ => ?_, fun i nd l h hl => ?_, fun i j nd nd' l l' h h' hl hl' _ => ?_, fun i nd L h hl => ?_, fun i j nd nd' L L' h h' hl hl' _ => ?_⟩, ?_, ?_, trivial, by omega, by omega⟩
  ·obtain ⟨rfl, rfl⟩ := one i nd h
   exact blk_alloc (blk_alloc (blk_alloc (blk_alloc n1 _) _) _) _
  ·rw [(one i nd h).1, (one j nd' h').1]
  ·rw [(one i nd h).2] at hl
   cases hl
  ·rw [(one i nd h).1, (one j nd' h').1]
  ·rw [(one i nd h).2] at hl
   cases hl
  ·rw [(one i nd h).1, (one j nd' h').1]
  ·exact m1.below (below_alloc (below_alloc (below_alloc (Below.refl _ _) _) _) _)
  ·rintro (e | ⟨i, nd, hi, h⟩)
   ·omega
   ·obtain ⟨rfl, rfl⟩ := one i nd hi
    rcases h with e | ⟨e, _⟩ | ⟨e, _⟩
    ·have e' : w.heap.size + 1 = w.heap.size := e
     omega
    ·exact e rfl
    ·exact e rfl
 ·have h1 := heap_alloc_new (((w.alloc (.cells #[.map none, .slice none 0 0] 49)).alloc (.map #[] 0)).alloc (.cells #[.pointer (some ⟨w.heap.size, 0, none⟩), .int .i64 1, .map (some (w.heap.size + 1))] 52)) (.cells #[.pointer (some ⟨w.heap.size + 1 + 1, 0, none⟩)] 27)
  rw [show (((w.alloc (.cells #[.map none, .slice none 0 0] 49)).alloc (.map #[] 0)).alloc (.cells #[.pointer (some ⟨w.heap.size, 0, none⟩), .int .i64 1, .map (some (w.heap.size + 1))] 52)).heap.size = w.heap.size + 3 by simp] at h1
  exact blk_alloc h1 _
 ·have h1 := heap_alloc_new ((((w.alloc (.cells #[.map none, .slice none 0 0] 49)).alloc (.map #[] 0)).alloc (.cells #[.pointer (some ⟨w.heap.size, 0, none⟩), .int .i64 1, .map (some (w.heap.size + 1))] 52)).alloc (.cells #[.pointer (some ⟨w.heap.size + 1 + 1, 0, none⟩)] 27)) (.cells #[.string s] 9)
  rw [show ((((w.alloc (.cells #[.map none, .slice none 0 0] 49)).alloc (.map #[] 0)).alloc (.cells #[.pointer (some ⟨w.heap.size, 0, none⟩), .int .i64 1, .map (some (w.heap.size + 1))] 52)).alloc (.cells #[.pointer (some ⟨w.heap.size + 1 + 1, 0, none⟩)] 27)).heap.size = w.heap.size + 4 by simp] at h1
  exact h1
theorem leave0 {R : Ending → World → Prop} {tmps : Array Value} {B : Nat} {W : World} {v a b : Value} (h : Res B W v a b) (h4 : tmps.getD 4 undef = .pointer (some ⟨B, 0, none⟩)) (h5 : tmps.getD 5 undef = .pointer (some ⟨B + 1, 0, none⟩)) (h6 : tmps.getD 6 undef = .pointer (some ⟨B + 2, 0, none⟩))
  (hR : R (.returned (.tuple #[v, a, b])) W) : LeavesInM Fence.wide 3 Tryd.prog Tryd.f11 tmps R [] .returning W :=
 ⟨_, results3 tmps W B (B + 1) (B + 2) v a b h4 h5 h6 ((blk_cell h.c0 0).trans rfl) ((blk_cell h.c1 0).trans rfl) ((blk_cell h.c2 0).trans rfl), hR⟩
end Cp
def hyphen_Compile.f (k : Nat) (p x : ByteArray) : Option (Option Cp.HS × Int × Int) :=
 if 1048576 < p.size ∨ 1048576 < x.size then some (none, 0, 2) else
 (utf_Decode.f k p).bind fun d => if d.2.2 ≠ 0 then some (none, d.2.1, d.2.2) else
 (utf_Decode.f k x).bind fun e => if e.2.2 ≠ 0 then some (none, e.2.1, e.2.2) else
 (utf_Words.f k d.1).bind fun u => (utf_Words.f k e.1).bind fun v =>
 (Cp.pats k (Wd.words d.1 (Wd.places p) u) [Trie.PN.z]).bind fun q => match q with
 | .inl at_ => some (none, at_, 210)
 | .inr ar => (Cp.excs k (Wd.words e.1 (Wd.places x) v) []).bind fun q => match q with
  | .inl at_ => some (none, at_, 210)
  | .inr kn => some (some (ar, kn), 0, 0)
def hyphen_Compile.OK (k : Nat) (p x : ByteArray) : Prop :=
 ∀ l1 l2 a1 a2 u v, utf_Decode.f k p = some (l1, a1, 0) → utf_Decode.f k x = some (l2, a2, 0) → utf_Words.f k l1 = some u → utf_Words.f k l2 = some v →
  (l1.length ≤ 1048576 ∧ u.length ≤ 1048576 ∧ ∀ y ∈ u, 0 ≤ y.f0 ∧ y.f0 < y.f1 ∧ y.f1 ≤ (l1.length : Int) ∧ y.f0 < ((Wd.places p).length : Int)) ∧
  (l2.length ≤ 1048576 ∧ v.length ≤ 1048576 ∧ ∀ y ∈ v, 0 ≤ y.f0 ∧ y.f0 < y.f1 ∧ y.f1 ≤ (l2.length : Int) ∧ y.f0 < ((Wd.places x).length : Int)) ∧
  Cp.PatsOK k (Wd.words l1 (Wd.places p) u) [Trie.PN.z] ∧ Cp.ExcsOK k (Wd.words l2 (Wd.places x) v) []
namespace Cp
def X (sv : Nat) (c : Wd.Gh) (b : Nat) : Prop := b = sv ∨ b ∈ c.bs
abbrev rest (c : Wd.Gh) (j : Nat) : List (Int × List Int) := (c.xs.drop j).map (fun x => (x.p, x.xs))
structure I1 (w0 : World) (Sb K sv k : Nat) (r1 : Int ⊕ List Trie.PN) (c : Wd.Gh) (pre : List Wd.El) (W : World) : Prop where
 res : Res w0.heap.size W (.pointer none) (.int .i64 0) (.int .i64 0)
 svc : W.heap[sv]? = some (.cells #[.pointer (some ⟨Sb, 0, none⟩)] 27 (0, 0))
 st : ∃ ar nb mb qb, Trie.At (w0.heap.size + 3) W Sb K ar nb mb qb [] [] ∧ (∀ b, X sv c b → ¬ Trie.Own Sb ar nb mb qb b) ∧ pats k (rest c pre.length) ar = some r1 ∧ PatsOK k (rest c pre.length) ar
 below : Below w0.heap.size w0 W
 ins : ∀ x ∈ c.xs, Wd.In c.bs W x
 bs : ∀ b ∈ c.bs, ∃ cells q, W.heap[b]? = some (.cells cells q (0, 0))
theorem Kn_lower {base base' : Nat} {W : World} (hb : base' ≤ base) : ∀ {es : List (ByteArray × Value)} {kn : List (ByteArray × List Int)}, Trie.Kn base W es kn → Trie.Kn base' W es kn
 | [], [], _ => trivial
 |(a, v) :: r, (b, p) :: s, h => ⟨h.1, Kd.R_lower h.2.1 hb, Kn_lower hb h.2.2⟩
 | [], _ :: _, h => h.elim
 | _ :: _, [], h => h.elim
section
variable {w0 W W1 : World} {Sb K sv k : Nat} {r1 : Int ⊕ List Trie.PN} {c : Wd.Gh} {pre : List Wd.El}
theorem In_stands {bs : List Nat} {x : Wd.El} (h : Wd.In bs W x) (hk : ∀ (b : Nat) (o : Obj), W.heap[b]? = some o → Trie.Pl o → W1.heap[b]? = some o) : Wd.In bs W1 x := by
 obtain ⟨h1, h1', g, off, cells, h2, h3, h4, h5⟩ := h
 exact ⟨h1, h1', g, off, cells, h2, h3, hk _ _ h4 trivial, h5⟩
theorem I1.kept (h : I1 w0 Sb K sv k r1 c pre W) (hk : ∀ (b : Nat) (o : Obj), W.heap[b]? = some o → Trie.Pl o → W1.heap[b]? = some o) (hb : Below w0.heap.size w0 W1) : I1 w0 Sb K sv k r1 c pre W1 := by
 obtain ⟨ar, nb, mb, qb, h1, h2, h3, h4⟩ := h.st
 exact ⟨⟨hk _ _ h.res.c0 trivial, hk _ _ h.res.c1 trivial, hk _ _ h.res.c2 trivial⟩, hk _ _ h.svc trivial, ⟨ar, nb, mb, qb, h1.kept (fun b o _ ho hp => (hk b o ho hp).trans ho.symm), h2, h3, h4⟩, hb, fun x hx => In_stands (h.ins x hx) hk, fun b hb => by
  obtain ⟨cells, q, hc⟩ := h.bs b hb
  exact ⟨cells, q, hk _ _ hc trivial⟩⟩
theorem pl_row {row : Option Nat} (hg : W.grownBy W1 row) (hr : ∀ r, row = some r → ∃ o : Obj, W.heap[r]? = some o ∧ book o = true) : ∀ (b : Nat) (o : Obj), W.heap[b]? = some o → Trie.Pl o → W1.heap[b]? = some o := by
 intro b o ho hp
 refine (hg.block b (blk_lt ho) (fun e => ?_)).trans ho
 obtain ⟨o2, h2, h3⟩ := hr b e.symm
 rw [ho] at h2
 injection h2 with h2
 subst h2
 cases o <;> simp [Trie.Pl] at hp <;> simp [book] at h3
theorem I1.own (w0 : World) (Sb K sv k : Nat) (r1 : Int ⊕ List Trie.PN) (B : Nat) (hB : w0.heap.size ≤ B) (c : Wd.Gh) : OwnL B (I1 w0 Sb K sv k r1 c) := by
 intro pre W W' row hs hg hr
 exact hs.kept (pl_row hg (fun r e => (hr r e).2)) (hs.below.grown hg hs.below.size (fun r e => Nat.le_trans hB (hr r e).1))
theorem own_pl {ar : List Trie.PN} {nb mb qb : Nat → Nat} {es : List (ByteArray × Value)} {kn : List (ByteArray × List Int)} {base : Nat} (h : Trie.At base W Sb K ar nb mb qb es kn) {b : Nat} (ho : Trie.Own Sb ar nb mb qb b) : base ≤ b ∧ ∃ o, W.heap[b]? = some o ∧ Trie.Pl o := by
 rcases ho with rfl | ⟨i, nd, hi, h1⟩
 ·exact ⟨h.sb, _, h.set, trivial⟩
 ·rcases h1 with rfl | ⟨h2, rfl⟩ | ⟨h2, rfl⟩
  ·exact ⟨h.tr.low i nd hi, _, h.tr.node i nd hi, trivial⟩
  ·obtain ⟨l, hl⟩ := Option.ne_none_iff_exists'.1 h2
   obtain ⟨q1, q2, _⟩ := h.tr.kids i nd l hi hl
   obtain ⟨es, clock, hm⟩ := q2.obj
   exact ⟨q1, _, hm, trivial⟩
  ·obtain ⟨L, hl⟩ := Option.ne_none_iff_exists'.1 h2
   obtain ⟨q1, q2⟩ := h.tr.lev i nd L hi hl
   exact ⟨q1, _, q2, trivial⟩
theorem keepsL_fr {ar : List Trie.PN} {nb mb qb : Nat → Nat} {es : List (ByteArray × Value)} {kn : List (ByteArray × List Int)} {base B : Nat} {O' : Nat → Prop} (h : Trie.At base W Sb K ar nb mb qb es kn) (hf : Trie.Fr W (Trie.Own Sb ar nb mb qb) W1 O') : KeepsL B W W1 :=
 ⟨hf.size, fun b o _ ho hb => hf.keep b o ho (fun q => by
  obtain ⟨_, o2, h2, h3⟩ := own_pl h q
  rw [ho] at h2
  injection h2 with h2
  subst h2
  cases o <;> simp [Trie.Pl] at h3 <;> simp [book] at hb)⟩
theorem keepsL_ko {B : Nat} (h : Go.KeepsOthers W W1) : KeepsL B W W1 := ⟨h.size, fun b o _ ho hb => h.same b o ho (by cases o <;> first | rfl | simp [book] at hb)⟩
theorem I1.next {ar : List Trie.PN} {nb mb qb nb' mb' qb' : Nat → Nat} {ar' : List Trie.PN} {y : Wd.El} (h : I1 w0 Sb K sv k r1 c pre W) (hAt : Trie.At (w0.heap.size + 3) W Sb K ar nb mb qb [] []) (hX : ∀ b, X sv c b → ¬ Trie.Own Sb ar nb mb qb b)
  (hT : Trie.Tr (w0.heap.size + 3) W1 ar' nb' mb' qb') (h0 : nb' 0 = nb 0) (hS : W1.heap[Sb]? = some (.cells #[.pointer (some ⟨nb 0, 0, none⟩), .int .i64 (ar'.length : Int), .map (some K)] 52 (0, 0)))
  (hF : Trie.Fr W (Trie.Own Sb ar nb mb qb) W1 (Trie.Own Sb ar' nb' mb' qb')) (hp : pats k (rest c (pre ++ [y]).length) ar' = some r1) (hpo : PatsOK k (rest c (pre ++ [y]).length) ar') : I1 w0 Sb K sv k r1 c (pre ++ [y]) W1 := by
 have hlow : ∀ b, b < w0.heap.size + 3 → ¬ Trie.Own Sb ar nb mb qb b := fun b hb ho => by have := (own_pl hAt ho).1; omega
 have hKl : K < W.heap.size := hAt.map.lt
 obtain ⟨es0, clock, hKo⟩ := hAt.map.obj
 refine ⟨⟨hF.keep _ _ h.res.c0 (hlow _ (by omega)), hF.keep _ _ h.res.c1 (hlow _ (by omega)), hF.keep _ _ h.res.c2 (hlow _ (by omega))⟩, hF.keep _ _ h.svc (hX _ (.inl rfl)), ⟨ar', nb', mb', qb', ⟨by rw [h0]; exact hS, hT, hAt.map.of_eq ((hF.keep _ _ hKo hAt.own).trans hKo.symm), fun q => hAt.own (hF.own K hKl q), trivial, hAt.sb, hAt.kb⟩, fun b hb q => ?_, hp, hpo⟩, ?_, fun x hx => ?_, fun b hb => ?_⟩
 ·refine hX b hb (hF.own b ?_ q)
  rcases hb with rfl | hb
  ·exact blk_lt h.svc
  ·obtain ⟨cells, q, hc⟩ := h.bs b hb
   exact blk_lt hc
 ·refine ⟨hF.os.trans h.below.os, hF.tape.trans h.below.tape, hF.output.trans h.below.output, Nat.le_trans h.below.size hF.size, fun b hb => ?_⟩
  obtain ⟨o, ho⟩ : ∃ o, W.heap[b]? = some o := ⟨_, Array.getElem?_eq_getElem (Nat.lt_of_lt_of_le hb h.below.size)⟩
  rw [hF.keep b o ho (hlow b (by omega)), ← ho]
  exact h.below.block b hb
 ·obtain ⟨h1, h1', g, off, cells, h2, h3, h4, h5⟩ := h.ins x hx
  exact ⟨h1, h1', g, off, cells, h2, h3, hF.keep _ _ h4 (hX _ (.inr h3)), h5⟩
 ·obtain ⟨cells, q, hc⟩ := h.bs b hb
  exact ⟨cells, q, hF.keep _ _ hc (hX _ (.inr hb))⟩
def Ix (w0 : World) (r : Int) (co : Code) (W : World) : Prop := co = .ret ∧ Res w0.heap.size W (.pointer none) (.int .i64 r) (.int .i64 210) ∧ Below w0.heap.size w0 W
theorem Ix.own (w0 : World) (r : Int) (B : Nat) (hB : w0.heap.size ≤ B) (co : Code) : OwnL B (fun (_ : List Wd.El) W => Ix w0 r co W) := by
 intro pre W W' row hs hg hr
 obtain ⟨h1, h2, h3⟩ := hs
 have hk := pl_row hg (fun r e => (hr r e).2)
 exact ⟨h1, ⟨hk _ _ h2.c0 trivial, hk _ _ h2.c1 trivial, hk _ _ h2.c2 trivial⟩, h3.grown hg h3.size (fun r e => Nat.le_trans hB (hr r e).1)⟩
end
theorem Res.put {B D : Nat} {W : World} {v a b : Value} {o : Obj} (h : Res B W v a b) (hD : B + 3 ≤ D) : Res B (W.putObj D o) v a b := h.kept (fun k _ _ hk _ => World.putObj_heap_other (by omega))
theorem leave1 {R : Ending → World → Prop} {tmps : Array Value} {B D : Nat} {W : World} {v a b : Value} (h : Res B W v a b) (hd : W.heap[D]? = some (.deferred (some []))) (hD : B + 3 ≤ D) (h4 : tmps.getD 4 undef = .pointer (some ⟨B, 0, none⟩)) (h5 : tmps.getD 5 undef = .pointer (some ⟨B + 1, 0, none⟩)) (h6 : tmps.getD 6 undef = .pointer (some ⟨B + 2, 0, none⟩))
  (hR : R (.returned (.tuple #[v, a, b])) (W.putObj D (.deferred none))) : LeavesInM Fence.wide 3 Tryd.prog Tryd.f11 tmps R [{ target := .collected D, args := #[] }] .returning W :=
 ⟨by simp, .inl ⟨_, _, rfl, run_takeDeferred hd, leave0 (h.put hD) h4 h5 h6 hR⟩⟩
theorem leave2 {R : Ending → World → Prop} {tmps : Array Value} {B D E : Nat} {W : World} {v a b : Value} (h : Res B W v a b) (hd : W.heap[D]? = some (.deferred (some []))) (he : W.heap[E]? = some (.deferred (some []))) (hne : D ≠ E) (hD : B + 3 ≤ D) (hE : B + 3 ≤ E) (h4 : tmps.getD 4 undef = .pointer (some ⟨B, 0, none⟩)) (h5 : tmps.getD 5 undef = .pointer (some ⟨B + 1, 0, none⟩)) (h6 : tmps.getD 6 undef = .pointer (some ⟨B + 2, 0, none⟩))
  (hR : R (.returned (.tuple #[v, a, b])) ((W.putObj E (.deferred none)).putObj D (.deferred none))) : LeavesInM Fence.wide 3 Tryd.prog Tryd.f11 tmps R [{ target := .collected E, args := #[] }, { target := .collected D, args := #[] }] .returning W :=
 ⟨by simp, .inl ⟨_, _, rfl, run_takeDeferred he, leave1 (h.put hE) ((World.putObj_heap_other hne).trans hd) hD h4 h5 h6 hR⟩⟩
theorem below_put {D : Nat} {w W : World} {o : Obj} (h : Below w.heap.size w W) (hD : w.heap.size ≤ D) : Below w.heap.size w (W.putObj D o) := h.grown (grownBy_putObj' W D o) h.size (fun k e => by cases e; exact hD)
theorem At_lower {base base' : Nat} {W : World} {Sb K : Nat} {ar : List Trie.PN} {nb mb qb : Nat → Nat} {es : List (ByteArray × Value)} {kn : List (ByteArray × List Int)} (h : Trie.At base W Sb K ar nb mb qb es kn) (hb : base' ≤ base) : Trie.At base' W Sb K ar nb mb qb es kn where
 set := h.set
 tr := {
  low := fun i nd hi => Nat.le_trans hb (h.tr.low i nd hi)
  node := h.tr.node
  inj := h.tr.inj
  kids := fun i nd l hi hl => ⟨Nat.le_trans hb (h.tr.kids i nd l hi hl).1, (h.tr.kids i nd l hi hl).2⟩
  kinj := h.tr.kinj
  lev := fun i nd L hi hl => ⟨Nat.le_trans hb (h.tr.lev i nd L hi hl).1, (h.tr.lev i nd L hi hl).2⟩
  linj := h.tr.linj }
 map := h.map
 own := h.own
 kn := Kn_lower hb h.kn
 sb := Nat.le_trans hb h.sb
 kb := Nat.le_trans hb h.kb
structure I2 (w0 : World) (Sb K sv k D : Nat) (ar : List Trie.PN) (nb mb qb : Nat → Nat) (r2 : Int ⊕ List (ByteArray × List Int)) (c : Wd.Gh) (pre : List Wd.El) (W : World) : Prop where
 res : Res w0.heap.size W (.pointer none) (.int .i64 0) (.int .i64 0)
 svc : W.heap[sv]? = some (.cells #[.pointer (some ⟨Sb, 0, none⟩)] 27 (0, 0))
 mark : W.heap[D]? = some (.deferred (some []))
 st : ∃ es kn, Trie.At (w0.heap.size + 3) W Sb K ar nb mb qb es kn ∧ excs k (rest c pre.length) kn = some r2 ∧ ExcsOK k (rest c pre.length) kn
 below : Below w0.heap.size w0 W
 ins : ∀ x ∈ c.xs, Wd.In c.bs W x
section
variable {w0 W W1 : World} {Sb K sv k D : Nat} {ar : List Trie.PN} {nb mb qb : Nat → Nat} {r2 : Int ⊕ List (ByteArray × List Int)} {c : Wd.Gh} {pre : List Wd.El}
theorem I2.kept (h : I2 w0 Sb K sv k D ar nb mb qb r2 c pre W) (hk : ∀ (b : Nat) (o : Obj), W.heap[b]? = some o → Trie.Pl o → W1.heap[b]? = some o) (hm : W1.heap[D]? = some (.deferred (some []))) (hb : Below w0.heap.size w0 W1) : I2 w0 Sb K sv k D ar nb mb qb r2 c pre W1 := by
 obtain ⟨es, kn, h1, h3, h4⟩ := h.st
 exact ⟨⟨hk _ _ h.res.c0 trivial, hk _ _ h.res.c1 trivial, hk _ _ h.res.c2 trivial⟩, hk _ _ h.svc trivial, hm, ⟨es, kn, h1.kept (fun b o _ ho hp => (hk b o ho hp).trans ho.symm), h3, h4⟩, hb, fun x hx => In_stands (h.ins x hx) hk⟩
theorem I2.own (w0 : World) (Sb K sv k D : Nat) (ar : List Trie.PN) (nb mb qb : Nat → Nat) (r2 : Int ⊕ List (ByteArray × List Int)) (B : Nat) (hB : w0.heap.size ≤ B) (hD : D < B) (c : Wd.Gh) : OwnL B (I2 w0 Sb K sv k D ar nb mb qb r2 c) := by
 intro pre W W' row hs hg hr
 exact hs.kept (pl_row hg (fun r e => (hr r e).2)) ((hg.block D (blk_lt hs.mark) (fun e => by have := (hr D e.symm).1; omega)).trans hs.mark) (hs.below.grown hg hs.below.size (fun r e => Nat.le_trans hB (hr r e).1))
theorem I2.next {y : Wd.El} {es : List (ByteArray × Value)} {kn : List (ByteArray × List Int)} {es' : List (ByteArray × Value)} {kn' : List (ByteArray × List Int)} (h : I2 w0 Sb K sv k D ar nb mb qb r2 c pre W) (hAt : Trie.At (w0.heap.size + 3) W Sb K ar nb mb qb es kn)
  (hg : W.grownBy W1 (some K)) (hA : Trie.At (w0.heap.size + 3) W1 Sb K ar nb mb qb es' kn') (hp : excs k (rest c (pre ++ [y]).length) kn' = some r2) (hpo : ExcsOK k (rest c (pre ++ [y]).length) kn') : I2 w0 Sb K sv k D ar nb mb qb r2 c (pre ++ [y]) W1 := by
 have hc : ∀ (b : Nat) (cells : Array Value) (q : Nat) (e : Nat × Nat), W.heap[b]? = some (.cells cells q e) → W1.heap[b]? = some (.cells cells q e) := fun b cells q e ho => blk_grown ho hg (fun e => by injection e with e; exact hAt.map.ne ho e.symm)
 have hm : W1.heap[D]? = some (.deferred (some [])) := blk_grown h.mark hg (fun e => by
  injection e with e
  obtain ⟨es0, clock, hm⟩ := hAt.map.obj
  rw [← e, h.mark] at hm
  cases hm)
 refine ⟨⟨hc _ _ _ _ h.res.c0, hc _ _ _ _ h.res.c1, hc _ _ _ _ h.res.c2⟩, hc _ _ _ _ h.svc, hm, ⟨es', kn', hA, hp, hpo⟩, h.below.grown hg h.below.size (fun b e => by injection e with e; have := hAt.kb; omega), fun x hx => ?_⟩
 obtain ⟨h1, h1', g, off, cells, h2, h3, h4, h5⟩ := h.ins x hx
 exact ⟨h1, h1', g, off, cells, h2, h3, hc _ _ _ _ h4, h5⟩
theorem keepsL_row {B : Nat} {es : List (ByteArray × Value)} (hg : W.grownBy W1 (some K)) (hm : YtenhfmlkdcfbbaaDoorV.MapV Tryd.prog 9 W K es) : KeepsL B W W1 :=
 ⟨hg.size, fun b o _ ho hb => blk_grown ho hg (fun e => by
  injection e with e
  obtain ⟨es0, clock, hm⟩ := hm.obj
  rw [← e, ho] at hm
  injection hm with hm
  subst hm
  simp [book] at hb)⟩
theorem kp_row {es : List (ByteArray × Value)} (hg : W.grownBy W1 (some K)) (hm : YtenhfmlkdcfbbaaDoorV.MapV Tryd.prog 9 W K es) : Wd.Kp c W W1 := fun b _ cells q ho => blk_grown ho hg (fun e => by injection e with e; exact hm.ne ho e.symm)
def Iy (w0 : World) (D : Nat) (r : Int) (co : Code) (W : World) : Prop := co = .ret ∧ Res w0.heap.size W (.pointer none) (.int .i64 r) (.int .i64 210) ∧ W.heap[D]? = some (.deferred (some [])) ∧ Below w0.heap.size w0 W
theorem Iy.own (w0 : World) (D : Nat) (r : Int) (B : Nat) (hB : w0.heap.size ≤ B) (hD : D < B) (co : Code) : OwnL B (fun (_ : List Wd.El) W => Iy w0 D r co W) := by
 intro pre W W' row hs hg hr
 obtain ⟨h1, h2, hm, h3⟩ := hs
 have hk := pl_row hg (fun r e => (hr r e).2)
 exact ⟨h1, ⟨hk _ _ h2.c0 trivial, hk _ _ h2.c1 trivial, hk _ _ h2.c2 trivial⟩, (hg.block D (blk_lt hm) (fun e => by have := (hr D e.symm).1; omega)).trans hm, h3.grown hg h3.size (fun r e => Nat.le_trans hB (hr r e).1)⟩
end
end Cp
set_option maxHeartbeats 8000000 in
set_option maxRecDepth 100000 in
theorem hyphen_Compile.calls (k : Nat) (p x : ByteArray) (r0 : Option Cp.HS) (r1 r2 : Int) (w : World) (hLW : Lw w) (h : hyphen_Compile.f k p x = some (r0, r1, r2)) (hOK : hyphen_Compile.OK k p x) :
  Calls Tryd.prog 11 #[.string p, .string x] w fun e w' => ∃ v, e = .returned (.tuple #[v, .int .i64 r1, .int .i64 r2]) ∧ Cp.SetV w.heap.size w' v r0 ∧ Below w.heap.size w w' := by
 unfold hyphen_Compile.f at h
 have HLW := Aside0.mk hLW
 have HOK := Aside0.mk hOK
 clear hLW hOK
 refine (callsIn_wide (n := 3)).1 ?_
 refine callsIn_of_wp_marks Tryd.func11 rfl trivial ?_ rfl
 refine wpIn_wide.2 ?_
 simp only [Tryd.ntmps11, List.size_toArray, List.length_cons, List.length_nil, Nat.reduceAdd, Nat.reduceSub, Array.replicate_succ, Array.replicate_zero, List.push_toArray, List.append_toArray, List.nil_append, List.cons_append]
 have hbt : ∀ B : Nat, B + 1 + 1 = B + 2 := fun _ => rfl
 by_cases hbig : 1048576 < p.size ∨ 1048576 < x.size
 ·rw [if_pos hbig] at h
  injection h with h
  injection h with h1 h
  injection h with h2 h3
  subst h1 h2 h3
  by_cases hp : 1048576 < p.size
  ·have k1 : decide ((1048576 : Int) < (p.size : Int)) = true := decide_eq_true (by omega)
   have k2 : decide (1048576 < p.size) = true := decide_eq_true hp
   have k3 : (1048576 < p.size) = True := eq_true hp
   clear hbig hp
   go_wp2
   exact Cp.leave0 (Cp.Res.made w _ _ _) rfl rfl rfl ⟨_, rfl, rfl, below_alloc (below_alloc (below_alloc (Below.refl _ _) _) _) _⟩
  ·have hx : 1048576 < x.size := hbig.resolve_left hp
   have k1 : decide ((1048576 : Int) < (p.size : Int)) = false := decide_eq_false (by omega)
   have k2 : decide (1048576 < p.size) = false := decide_eq_false hp
   have k3 : (1048576 < p.size) = False := eq_false hp
   have k4 : decide ((1048576 : Int) < (x.size : Int)) = true := decide_eq_true (by omega)
   have k5 : decide (1048576 < x.size) = true := decide_eq_true hx
   have k6 : (1048576 < x.size) = True := eq_true hx
   clear hbig hp hx
   go_wp2
   exact Cp.leave0 (Cp.Res.made w _ _ _) rfl rfl rfl ⟨_, rfl, rfl, below_alloc (below_alloc (below_alloc (Below.refl _ _) _) _) _⟩
 ·rw [if_neg hbig] at h
  have hp : ¬ 1048576 < p.size := fun q => hbig (.inl q)
  have hx : ¬ 1048576 < x.size := fun q => hbig (.inr q)
  have k1 : decide ((1048576 : Int) < (p.size : Int)) = false := decide_eq_false (by omega)
  have k2 : decide (1048576 < p.size) = false := decide_eq_false hp
  have k3 : (1048576 < p.size) = False := eq_false hp
  have k4 : decide ((1048576 : Int) < (x.size : Int)) = false := decide_eq_false (by omega)
  have k5 : decide (1048576 < x.size) = false := decide_eq_false hx
  have k6 : (1048576 < x.size) = False := eq_false hx
  have HPS := Aside0.mk hp
  have HXS := Aside0.mk hx
  obtain ⟨⟨l1, a1, e1⟩, hd1, h⟩ := Option.bind_eq_some_iff.mp h
  dsimp only at h
  have HD1 := Aside0.mk hd1
  have H := Aside0.mk h
  clear hbig hp hx h hd1
  go_upto_region 3 with (fail)
  clear k1 k2 k3 k4 k5 k6
  have HR0 := Aside0.mk (Cp.Res.made w (.pointer none) (.int .i64 0) (.int .i64 0))
  have HB0 := Aside0.mk (show Below w.heap.size w (((w.alloc (.cells #[.pointer none] 27)).alloc (.cells #[.int .i64 0] 3)).alloc (.cells #[.int .i64 0] 28)) from below_alloc (below_alloc (below_alloc (Below.refl _ _) _) _) _)
  obtain ⟨w1, hw1⟩ : ∃ z, (((w.alloc (.cells #[.pointer none] 27)).alloc (.cells #[.int .i64 0] 3)).alloc (.cells #[.int .i64 0] 28)) = z := ⟨_, rfl⟩
  rw [hw1] at HR0 HB0
  rw [hw1, hbt]
  have HZ1 := Aside0.mk (show w1.heap.size = w.heap.size + 3 by rw [← hw1]; simp)
  clear hw1
  go_wp2
  go_loopw [29] (fun v29 wr => ∃ j : Nat, v29 = .int .i64 (j : Int) ∧ j ≤ 2 ∧ Aside0 (Cp.Res w.heap.size wr (.pointer none) (.int .i64 0) (.int .i64 0)) ∧ Aside0 (Below w.heap.size w wr) ∧ Aside0 (wr.heap[w1.heap.size]? = some (.cells #[.string p, .string x] 9 (0, 0))) ∧ Aside0 (1 ≤ j → e1 = 0) ∧ Aside0 (2 ≤ j → ∃ l2 a2, utf_Decode.f k x = some (l2, a2, 0)))
   (fun v29 _ => 2 - (intOf v29).toNat)
  case atStart => exact ⟨0, rfl, by omega, ⟨HR0.out.below (below_alloc (Below.refl _ _) _)⟩, ⟨below_alloc HB0.out _⟩, ⟨heap_alloc_new w1 _⟩, ⟨fun q => absurd q (by decide)⟩, ⟨fun q => absurd q (by decide)⟩⟩
  case round =>
   clear HR0 HB0
   obtain ⟨j, rfl, hj, HR, HB, HC, HE1, HE2⟩ := hrel
   have q0 : wr.cell? ⟨w1.heap.size, 0, none⟩ = some (.string p) := (blk_cell HC.out 0).trans rfl
   have q1 : wr.cell? ⟨w1.heap.size, 1, none⟩ = some (.string x) := (blk_cell HC.out 1).trans rfl
   rcases (show j = 0 ∨ j = 1 ∨ j = 2 by omega) with rfl | rfl | rfl
   ·by_cases he : e1 = 0
    ·have he1 : (e1 != 0) = false := bne_eq_false_iff_eq.mpr he
     have HE := Aside0.mk he
     clear he
     go_wp2_with (first | ((with_reducible refine gate_callee (f := 24) rfl ?_); refine goesL_ (some 35) rfl rfl Tryd.func24 (by kernel_rfl) rfl #[.string p] rfl (by (try simp only [List.map_toArray, List.map_cons, List.map_nil]); first | done | rfl) ?_; (with_reducible refine (utf_Decode.calls k p l1 a1 e1 _ (HLW.out.below HB.out) HD1.out).mono ?_); rintro e w3 ⟨vl, rfl, ho0, hb⟩; refine ⟨_, rfl, ?_⟩; have HRn := Aside0.mk (HR.out.below hb); have HBn := Aside0.mk (below_step HB.out hb); have HCn := Aside0.mk ((hb.block _ (blk_lt HC.out)).trans HC.out); clear HR HB HC q0 q1 hb ho0))
     go_roundw
     case rel => exact ⟨1, rfl, by omega, HRn, HBn, HCn, ⟨fun _ => HE.out⟩, ⟨fun q => absurd q (by decide)⟩⟩
     case measure => simp [intOf]
    ·have hh := H.out
     rw [if_pos he] at hh
     injection hh with hh
     injection hh with h1 hh
     injection hh with h2 h3
     subst h1 h2 h3
     have he1 : (e1 != 0) = true := bne_iff_ne.mpr he
     clear he
     go_wp2_with (first | ((with_reducible refine gate_callee (f := 24) rfl ?_); refine goesL_ (some 35) rfl rfl Tryd.func24 (by kernel_rfl) rfl #[.string p] rfl (by (try simp only [List.map_toArray, List.map_cons, List.map_nil]); first | done | rfl) ?_; (with_reducible refine (utf_Decode.calls k p l1 a1 e1 _ (HLW.out.below HB.out) HD1.out).mono ?_); rintro e w3 ⟨vl, rfl, ho0, hb⟩; refine ⟨_, rfl, ?_⟩; have HRn := Aside0.mk (HR.out.below hb); have HBn := Aside0.mk (below_step HB.out hb); have HCn := Aside0.mk ((hb.block _ (blk_lt HC.out)).trans HC.out); have hf0 := blk_frozen HRn.out.c0 0; have hf1 := blk_frozen HRn.out.c1 0; have hf2 := blk_frozen HRn.out.c2 0; have hg0 : w3.cell? ⟨w.heap.size, 0, none⟩ = some (.pointer none) := (blk_cell HRn.out.c0 0).trans rfl; have hg1 : w3.cell? ⟨w.heap.size + 1, 0, none⟩ = some (.int .i64 0) := (blk_cell HRn.out.c1 0).trans rfl; have hg2 : w3.cell? ⟨w.heap.size + 2, 0, none⟩ = some (.int .i64 0) := (blk_cell HRn.out.c2 0).trans rfl; clear HR HB HC q0 q1 hb ho0))
     exact Cp.leave0 HRn.out.ret3 rfl rfl rfl ⟨_, rfl, rfl, Cp.below3 HBn.out _ _ _⟩
   ·have he := HE1.out (Nat.le_refl _)
    subst he
    have hh := H.out
    rw [if_neg (by decide)] at hh
    obtain ⟨⟨l2, a2, e2⟩, hd2, hh⟩ := Option.bind_eq_some_iff.mp hh
    dsimp only at hh
    have HD2 := Aside0.mk hd2
    have H2 := Aside0.mk hh
    clear hd2 hh
    by_cases he : e2 = 0
    ·have he1 : (e2 != 0) = false := bne_eq_false_iff_eq.mpr he
     have HE := Aside0.mk he
     clear he
     go_wp2_with (first | ((with_reducible refine gate_callee (f := 24) rfl ?_); refine goesL_ (some 35) rfl rfl Tryd.func24 (by kernel_rfl) rfl #[.string x] rfl (by (try simp only [List.map_toArray, List.map_cons, List.map_nil]); first | done | rfl) ?_; (with_reducible refine (utf_Decode.calls k x l2 a2 e2 _ (HLW.out.below HB.out) HD2.out).mono ?_); rintro e w3 ⟨vl, rfl, ho0, hb⟩; refine ⟨_, rfl, ?_⟩; have HRn := Aside0.mk (HR.out.below hb); have HBn := Aside0.mk (below_step HB.out hb); have HCn := Aside0.mk ((hb.block _ (blk_lt HC.out)).trans HC.out); have hf0 := blk_frozen HRn.out.c0 0; have hf1 := blk_frozen HRn.out.c1 0; have hf2 := blk_frozen HRn.out.c2 0; have hg0 : w3.cell? ⟨w.heap.size, 0, none⟩ = some (.pointer none) := (blk_cell HRn.out.c0 0).trans rfl; have hg1 : w3.cell? ⟨w.heap.size + 1, 0, none⟩ = some (.int .i64 0) := (blk_cell HRn.out.c1 0).trans rfl; have hg2 : w3.cell? ⟨w.heap.size + 2, 0, none⟩ = some (.int .i64 0) := (blk_cell HRn.out.c2 0).trans rfl; clear HR HB HC q0 q1 hb ho0))
     go_roundw
     case rel => exact ⟨2, rfl, by omega, HRn, HBn, HCn, ⟨fun _ => by first | rfl | trivial⟩, ⟨fun _ => ⟨l2, a2, HE.out ▸ HD2.out⟩⟩⟩
     case measure => simp [intOf]
    ·have hh := H2.out
     rw [if_pos he] at hh
     injection hh with hh
     injection hh with h1 hh
     injection hh with h2 h3
     subst h1 h2 h3
     have he1 : (e2 != 0) = true := bne_iff_ne.mpr he
     clear he
     go_wp2_with (first | ((with_reducible refine gate_callee (f := 24) rfl ?_); refine goesL_ (some 35) rfl rfl Tryd.func24 (by kernel_rfl) rfl #[.string x] rfl (by (try simp only [List.map_toArray, List.map_cons, List.map_nil]); first | done | rfl) ?_; (with_reducible refine (utf_Decode.calls k x l2 a2 e2 _ (HLW.out.below HB.out) HD2.out).mono ?_); rintro e w3 ⟨vl, rfl, ho0, hb⟩; refine ⟨_, rfl, ?_⟩; have HRn := Aside0.mk (HR.out.below hb); have HBn := Aside0.mk (below_step HB.out hb); have HCn := Aside0.mk ((hb.block _ (blk_lt HC.out)).trans HC.out); have hf0 := blk_frozen HRn.out.c0 0; have hf1 := blk_frozen HRn.out.c1 0; have hf2 := blk_frozen HRn.out.c2 0; have hg0 : w3.cell? ⟨w.heap.size, 0, none⟩ = some (.pointer none) := (blk_cell HRn.out.c0 0).trans rfl; have hg1 : w3.cell? ⟨w.heap.size + 1, 0, none⟩ = some (.int .i64 0) := (blk_cell HRn.out.c1 0).trans rfl; have hg2 : w3.cell? ⟨w.heap.size + 2, 0, none⟩ = some (.int .i64 0) := (blk_cell HRn.out.c2 0).trans rfl; clear HR HB HC q0 q1 hb ho0))
     exact Cp.leave0 HRn.out.ret3 rfl rfl rfl ⟨_, rfl, rfl, Cp.below3 HBn.out _ _ _⟩
   ·have he := HE1.out (by omega)
    subst he
    obtain ⟨l2, a2, hd2⟩ := HE2.out (by omega)
    have hh := H.out
    rw [if_neg (by decide), hd2, Option.bind_some, if_neg (fun q => q rfl)] at hh
    obtain ⟨u, hu, hh⟩ := Option.bind_eq_some_iff.mp hh
    obtain ⟨v, hv, hh⟩ := Option.bind_eq_some_iff.mp hh
    dsimp only at hh
    have HU := Aside0.mk hu
    have HV := Aside0.mk hv
    have HD2 := Aside0.mk hd2
    have HOK2 := Aside0.mk (HOK.out l1 l2 a1 a2 u v HD1.out hd2 hu hv)
    have HH := Aside0.mk hh
    clear hu hv hd2 hh H HOK HE1 HE2 q0 q1
    have hmm := @run_makeMap Tryd.prog
    go_wp2_with (first | (refine (hyphen_words.calls p _).mono ?_; rintro e w3 ⟨rfl, rfl⟩))
    have HSt := Cp.start (w.heap.size + 3) wr p (by have := HZ1.out; have := blk_lt HC.out; omega)
    obtain ⟨w5, hw5, hAt, hsv, hcs, hsz, hb5⟩ := HSt
    rw [← hw5]
    simp only [show wr.heap.size + 1 + 1 + 1 + 1 = wr.heap.size + 4 from rfl, show wr.heap.size + 1 + 1 + 1 = wr.heap.size + 3 from rfl, show wr.heap.size + 1 + 1 = wr.heap.size + 2 from rfl]
    clear hw5 hmm
    refine (wpIn_wide (n := 3)).1 ?_
    obtain ⟨q1, hq1, hh⟩ := Option.bind_eq_some_iff.mp HH.out
    obtain ⟨⟨o1a, o1b, o1c⟩, ⟨o2a, o2b, o2c⟩, o3, o4⟩ := HOK2.out
    have HR5 := Aside0.mk (HR.out.below hb5)
    have HB5 := Aside0.mk (below_step HB.out hb5)
    have HA5 := Aside0.mk hAt
    have HV5 := Aside0.mk hsv
    have HZ5 := Aside0.mk hsz
    have HZr := Aside0.mk (show w.heap.size + 4 ≤ wr.heap.size by have := HZ1.out; have := blk_lt HC.out; omega)
    have HQ1 := Aside0.mk hq1
    have HHq := Aside0.mk hh
    have HPO := Aside0.mk o3
    have HEO := Aside0.mk o4
    have HWV := Aside0.mk (And.intro o2a (And.intro o2b o2c))
    have hLW5 := HLW.out.below HB5.out
    have hseq := hyphen_words.seq k 2 p l1 a1 0 u w5 HD1.out HU.out (by have := HPS.out; omega) o1b o1a o1c hLW5 (wr.heap.size + 4) hcs
    clear hAt hsv hcs hsz hb5 hq1 hh o1a o1b o1c o2a o2b o2c o3 o4 hLW5 HR HB HC HU HD1 HH HOK2 HZ1
    refine range_ghost (α := Wd.El) (γ := Wd.Gh) rfl (by decide) (gf := 42) (lb := #[.pointer (some ⟨wr.heap.size + 4, 0, none⟩)]) rfl trivial (enters_of Tryd.func42 (by kernel_rfl) rfl) hseq (fun c _ _ _ h q => h.trans q) (fun c W l L L' _ hl => Wd.Kp.book W l L L' hl) (Below.refl _ _) (fun _ => rfl)
     (Cp.I1 w (wr.heap.size + 2) (wr.heap.size + 1) (wr.heap.size + 3) k q1) (fun _ co _ W => ∃ r, q1 = .inl r ∧ Cp.Ix w r co W) (fun c => Cp.I1.own w _ _ _ k q1 _ HB5.out.size c) ?ixown ?start
     (fun _ y a' _ => a' = { tmps := List.toArray ((Value.string p : Value) :: (Value.string x : Value) :: (undef : Value) :: (undef : Value) :: (.pointer (some ⟨w.heap.size, 0, none⟩) : Value) :: (.pointer (some ⟨w.heap.size + 1, 0, none⟩) : Value) :: (.pointer (some ⟨w.heap.size + 2, 0, none⟩) : Value) :: (undef : Value) :: (u8 : Value) :: (u9 : Value) :: (u10 : Value) :: (u11 : Value) :: (.pointer (some ⟨wr.heap.size + 3, 0, none⟩) : Value) :: (.int .i64 y.p : Value) :: (.slice y.A y.xs.length y.c : Value) :: (undef : Value) :: (undef : Value) :: (.string p : Value) :: (.int .i64 (p.size : Int) : Value) :: (.bool false : Value) :: (.bool false : Value) :: (.string x : Value) :: (.int .i64 (x.size : Int) : Value) :: (.bool false : Value) :: (.bool false : Value) :: (.string p : Value) :: (.string x : Value) :: (.slice (some ⟨w1.heap.size, 0, none⟩) 2 2 : Value) :: (.int .i64 2 : Value) :: (.int .i64 2 : Value) :: (.bool false : Value) :: (u31 : Value) :: (u32 : Value) :: (u33 : Value) :: (u34 : Value) :: (u35 : Value) :: (u36 : Value) :: (u37 : Value) :: (u38 : Value) :: (u39 : Value) :: (u40 : Value) :: (u41 : Value) :: (u42 : Value) :: (u43 : Value) :: (.agg #[.map none, .slice none 0 0] : Value) :: (.pointer (some ⟨wr.heap.size, 0, none⟩) : Value) :: (.map (some (wr.heap.size + 1)) : Value) :: (.agg #[.pointer (some ⟨wr.heap.size, 0, none⟩), .int .i64 1, .map (some (wr.heap.size + 1))] : Value) :: (.pointer (some ⟨wr.heap.size + 2, 0, none⟩) : Value) :: (.string p : Value) :: (.func (.func 42) #[] #[.pointer (some ⟨wr.heap.size + 4, 0, none⟩)] : Value) :: (.int .i64 y.p : Value) :: (.slice y.A y.xs.length y.c : Value) :: (undef : Value) :: (undef : Value) :: (undef : Value) :: (undef : Value) :: (undef : Value) :: (undef : Value) :: (undef : Value) :: (undef : Value) :: (undef : Value) :: (undef : Value) :: (undef : Value) :: (undef : Value) :: (undef : Value) :: (undef : Value) :: (undef : Value) :: []), defers := [] }) (fun _ _ _ _ _ _ _ h _ _ => h) ?assign ?body ?done ?stop
    case ixown =>
     intro c co pre W W' row hs hg hr
     obtain ⟨r, h1, h2⟩ := hs
     exact ⟨r, h1, Cp.Ix.own w r _ HB5.out.size co pre W W' row h2 hg hr⟩
    case start =>
     intro c B W' hB hb hG
     obtain ⟨g1, g2, g3⟩ := hG
     have hA := HA5.out.below hb
     refine ⟨HR5.out.below hb, (hb.block _ (blk_lt HV5.out)).trans HV5.out, ⟨_, _, _, _, hA, ?_, ?_, ?_⟩, below_step HB5.out hb, g2, fun b hb => (g1 b hb).2⟩
     ·have hz5 := HZ5.out
      intro b hX hO
      have hO' : b = wr.heap.size + 2 ∨ b = wr.heap.size := by
       rcases hO with e | ⟨i, nd, hi, h9⟩
       ·exact .inl e
       ·cases i with
        | zero =>
         injection hi with hi
         subst hi
         rcases h9 with e | ⟨e, _⟩ | ⟨e, _⟩
         ·exact .inr e
         ·exact absurd rfl e
         ·exact absurd rfl e
        | succ i => simp at hi
      rcases hX with e | hX
      ·omega
      ·have := (g1 b hX).1
       omega
     ·unfold Cp.rest
      rw [List.length_nil, List.drop_zero, g3]
      exact HQ1.out
     ·unfold Cp.rest
      rw [List.length_nil, List.drop_zero, g3]
      exact HPO.out
    case assign =>
     rintro c lr pre y W K' hI hE hK
     unfold Wd.El.encs
     dsimp only
     gi_wp2
     exact hK _ _ (KeepsL.refl _ _) (fun _ _ _ _ ho => ho) hI rfl
    case body =>
     rintro c lr pre y a' W hlr hrec hI hE rfl hN
     obtain ⟨ar, nb, mb, qb, hAt, hX, hp, hpo⟩ := hI.st
     have hd : c.xs.drop pre.length = y :: c.xs.drop (pre.length + 1) := by
      obtain ⟨hlt, hy⟩ := List.getElem?_eq_some_iff.1 hE.1
      rw [List.drop_eq_getElem_cons hlt, hy]
     have hym : y ∈ c.xs := List.mem_of_getElem? hE.1
     unfold Cp.rest at hp hpo
     rw [hd, List.map_cons] at hp hpo
     rw [Cp.pats] at hp
     rw [Cp.PatsOK] at hpo
     obtain ⟨q, hq, hp⟩ := Option.bind_eq_some_iff.mp hp
     obtain ⟨hpo1, hpo2⟩ := hpo
     have hin := hI.ins y hym
     have hcall := hyphen_Set_pattern.calls k (wr.heap.size + 2) y.A y.c y.xs q W hin.C hin.1 hq (w.heap.size + 3) (wr.heap.size + 1) ar nb mb qb hAt.tr hAt.set (by have := blk_lt hI.svc; have := HZr.out; omega) hpo1 (fun le lv n e => (hpo2 le lv n (by rw [hq, e])).1) (fun le lv n e => (hpo2 le lv n (by rw [hq, e])).2.1)
     have s0 : W.cell? ⟨wr.heap.size + 3, 0, none⟩ = some (.pointer (some ⟨wr.heap.size + 2, 0, none⟩)) := (blk_cell hI.svc 0).trans rfl
     have HCL := Aside0.mk hcall
     have HIW := Aside0.mk hI
     have HAW := Aside0.mk hAt
     have HXW := Aside0.mk hX
     have hkind : (q1 = .inl y.p ∧ ∀ e W', hyphen_Set_pattern.Post (w.heap.size + 3) (wr.heap.size + 1) (wr.heap.size + 2) ar nb mb qb q W e W' → e = .returned (.bool false) ∧ Below W.heap.size W W') ∨
       (∃ le lv n, Cp.pats k (Cp.rest c (pre ++ [y]).length) (Trie.put ar le lv n) = some q1 ∧ Cp.PatsOK k (Cp.rest c (pre ++ [y]).length) (Trie.put ar le lv n) ∧ ∀ e W', hyphen_Set_pattern.Post (w.heap.size + 3) (wr.heap.size + 1) (wr.heap.size + 2) ar nb mb qb q W e W' → e = .returned (.bool true) ∧ ∃ nb' mb' qb', Trie.Tr (w.heap.size + 3) W' (Trie.put ar le lv n) nb' mb' qb' ∧ nb' 0 = nb 0 ∧
        W'.heap[wr.heap.size + 2]? = some (.cells #[.pointer (some ⟨nb 0, 0, none⟩), .int .i64 ((Trie.put ar le lv n).length : Int), .map (some (wr.heap.size + 1))] 52 (0, 0)) ∧ Trie.Fr W (Trie.Own (wr.heap.size + 2) ar nb mb qb) W' (Trie.Own (wr.heap.size + 2) (Trie.put ar le lv n) nb' mb' qb')) := by
      have hlen : (pre ++ [y]).length = pre.length + 1 := by simp
      rw [hlen]
      match q, hq, hp with
      | none, hq, hp =>
       injection hp with hp
       exact .inl ⟨hp.symm, fun e W' h => h⟩
      | some (le, lv, n), hq, hp =>
       by_cases hn : n = 0
       ·have hp2 : (if n = 0 then some (Sum.inl y.p) else Cp.pats k (List.map (fun x => (x.p, x.xs)) (List.drop (pre.length + 1) c.xs)) (Trie.put ar le lv n)) = some q1 := hp
        rw [if_pos hn] at hp2
        injection hp2 with hp2
        refine .inl ⟨hp2.symm, fun e W' h => ?_⟩
        have h2 : if n = 0 then _ else _ := h
        rw [if_pos hn] at h2
        exact h2
       ·have hp2 : (if n = 0 then some (Sum.inl y.p) else Cp.pats k (List.map (fun x => (x.p, x.xs)) (List.drop (pre.length + 1) c.xs)) (Trie.put ar le lv n)) = some q1 := hp
        rw [if_neg hn] at hp2
        refine .inr ⟨le, lv, n, hp2, (hpo2 le lv n hq).2.2 hn, fun e W' h => ?_⟩
        have h2 : if n = 0 then _ else _ := h
        rw [if_neg hn] at h2
        exact h2
     clear hcall hI hAt hX hp hq hpo1 hpo2 hin
     rcases hkind with ⟨hk1, hk2⟩ | ⟨le, lv, n, hk1, hk2, hk3⟩
     ·have HK1 := Aside0.mk hk1
      have HK2 := Aside0.mk hk2
      clear hk1 hk2
      gi_wp2
      refine ⟨trivial, ?_⟩
      refine (CallsIn.inRound lr (callsIn_wide.2 HCL.out)).mono ?_
      rintro e w3 hpost
      obtain ⟨rfl, hb⟩ := HK2.out e w3 hpost
      have HBx := Aside0.mk hb
      have HRx := Aside0.mk (HIW.out.res.below hb)
      have hf0 := blk_frozen HRx.out.c0 0
      have hf1 := blk_frozen HRx.out.c1 0
      have hf2 := blk_frozen HRx.out.c2 0
      have hg0 : w3.cell? ⟨w.heap.size, 0, none⟩ = some (.pointer none) := (blk_cell HRx.out.c0 0).trans rfl
      have hg1 : w3.cell? ⟨w.heap.size + 1, 0, none⟩ = some (.int .i64 0) := (blk_cell HRx.out.c1 0).trans rfl
      have hg2 : w3.cell? ⟨w.heap.size + 2, 0, none⟩ = some (.int .i64 0) := (blk_cell HRx.out.c2 0).trans rfl
      clear hb hpost
      gi_wp2
      exact ⟨(KeepsL.below HBx.out).trans (Cp.keepsL_ko (((Go.KeepsOthers.setCell _ _ _).trans (Go.KeepsOthers.setCell _ _ _)).trans (Go.KeepsOthers.setCell _ _ _))), y.p, HK1.out, rfl, HRx.out.ret3, Cp.below3 (below_step HIW.out.below HBx.out) _ _ _⟩
     ·have HK1 := Aside0.mk hk1
      have HK2 := Aside0.mk hk2
      have HK3 := Aside0.mk hk3
      clear hk1 hk2 hk3
      gi_wp2
      refine ⟨trivial, ?_⟩
      refine (CallsIn.inRound lr (callsIn_wide.2 HCL.out)).mono ?_
      rintro e w3 hpost
      obtain ⟨rfl, hb⟩ := HK3.out e w3 hpost
      have HBx := Aside0.mk hb
      clear hb hpost
      gi_wp2
      obtain ⟨nb', mb', qb', g1, g2, g3, g4⟩ := HBx.out
      exact ⟨Cp.keepsL_fr HAW.out g4, fun b hb cells q ho => g4.keep b _ ho (HXW.out b (.inr hb)), HIW.out.next HAW.out HXW.out g1 g2 g3 g4 HK1.out HK2.out⟩
    case stop =>
     rintro c D co pre W hD _ ⟨r, hr1, rfl, hr3, hr4⟩ hd
     have hHq := HHq.out
     rw [hr1] at hHq
     injection hHq with hh
     injection hh with h1 hh
     injection hh with h2 h3
     subst h1 h2 h3
     gi_wp2
     have hDz : w.heap.size + 3 ≤ D := by have := HZ5.out; have := HZr.out; omega
     exact Cp.leave1 hr3 hd hDz rfl rfl rfl ⟨_, rfl, rfl, Cp.below_put hr4 (by omega)⟩
    case done =>
     rintro c D xs W hD rfl hI hd
     obtain ⟨ar, nb, mb, qb, hAt, hX, hp, hpo⟩ := hI.st
     have hnil : Cp.rest c c.xs.length = [] := by unfold Cp.rest; rw [List.drop_length]; rfl
     rw [hnil, Cp.pats] at hp
     injection hp with hp
     have hHq := HHq.out
     rw [← hp] at hHq
     obtain ⟨q2, hq2, hh⟩ := Option.bind_eq_some_iff.mp hHq
     have HQ2 := Aside0.mk hq2
     have HHr := Aside0.mk hh
     have HIW := Aside0.mk hI
     have HAW := Aside0.mk hAt
     have HDW := Aside0.mk hd
     have HXO := Aside0.mk (HWV.out)
     have HDz := Aside0.mk (show w.heap.size + 3 ≤ D ∧ D < W.heap.size from ⟨by have := HZ5.out; have := HZr.out; omega, (Array.getElem?_eq_some_iff.1 hd).1⟩)
     clear hq2 hh hI hAt hd hX hp hpo hnil hHq hseq HQ1 HHq HR5 HB5 HA5 HV5 HPO hD
     go_wp2_with (first | (refine (hyphen_words.calls x _).mono ?_; rintro e w3 ⟨rfl, rfl⟩))
     obtain ⟨w6, hw6⟩ : ∃ w6, w6 = W.alloc (.cells #[.string x] 9) := ⟨_, rfl⟩
     have hb6 : Below W.heap.size W w6 := by rw [hw6]; exact below_alloc (Below.refl _ _) _
     have hcs6 : w6.heap[W.heap.size]? = some (.cells #[.string x] 9 (0, 0)) := by rw [hw6]; exact heap_alloc_new W _
     have hsz6 : w6.heap.size = W.heap.size + 1 := by rw [hw6]; simp
     rw [← hw6]
     refine (wpIn_wide (n := 3)).1 ?_
     have HB6 := Aside0.mk hb6
     have HB6w := Aside0.mk (below_step HIW.out.below hb6)
     have HZ6 := Aside0.mk hsz6
     have hLW6 := HLW.out.below HB6w.out
     obtain ⟨o2a, o2b, o2c⟩ := HWV.out
     have hseq2 := hyphen_words.seq k 2 x l2 a2 0 v w6 HD2.out HV.out (by have := HXS.out; omega) o2b o2a o2c hLW6 W.heap.size hcs6
     clear hw6 hb6 hcs6 hsz6 hLW6 o2a o2b o2c
     refine range_ghost (α := Wd.El) (γ := Wd.Gh) rfl (by decide) (gf := 42) (lb := #[.pointer (some ⟨W.heap.size, 0, none⟩)]) rfl trivial (enters_of Tryd.func42 (by kernel_rfl) rfl) hseq2 (fun c _ _ _ h q => h.trans q) (fun c W l L L' _ hl => Wd.Kp.book W l L L' hl) (Below.refl _ _) (fun _ => rfl)
      (Cp.I2 w (wr.heap.size + 2) (wr.heap.size + 1) (wr.heap.size + 3) k D ar nb mb qb q2) (fun _ co _ W => ∃ r, q2 = .inl r ∧ Cp.Iy w D r co W) (fun c => Cp.I2.own w _ _ _ k D ar nb mb qb q2 _ HB6w.out.size (by have := HZ6.out; have := HDz.out.2; omega) c) ?ixown2 ?start2
      (fun _ y a' _ => a' = { tmps := List.toArray ((Value.string p : Value) :: (Value.string x : Value) :: (undef : Value) :: (undef : Value) :: (.pointer (some ⟨w.heap.size, 0, none⟩) : Value) :: (.pointer (some ⟨w.heap.size + 1, 0, none⟩) : Value) :: (.pointer (some ⟨w.heap.size + 2, 0, none⟩) : Value) :: (undef : Value) :: (u8 : Value) :: (u9 : Value) :: (u10 : Value) :: (u11 : Value) :: (.pointer (some ⟨wr.heap.size + 3, 0, none⟩) : Value) :: (undef : Value) :: (undef : Value) :: (.int .i64 y.p : Value) :: (.slice y.A y.xs.length y.c : Value) :: (.string p : Value) :: (.int .i64 (p.size : Int) : Value) :: (.bool false : Value) :: (.bool false : Value) :: (.string x : Value) :: (.int .i64 (x.size : Int) : Value) :: (.bool false : Value) :: (.bool false : Value) :: (.string p : Value) :: (.string x : Value) :: (.slice (some ⟨w1.heap.size, 0, none⟩) 2 2 : Value) :: (.int .i64 2 : Value) :: (.int .i64 2 : Value) :: (.bool false : Value) :: (u31 : Value) :: (u32 : Value) :: (u33 : Value) :: (u34 : Value) :: (u35 : Value) :: (u36 : Value) :: (u37 : Value) :: (u38 : Value) :: (u39 : Value) :: (u40 : Value) :: (u41 : Value) :: (u42 : Value) :: (u43 : Value) :: (.agg #[.map none, .slice none 0 0] : Value) :: (.pointer (some ⟨wr.heap.size, 0, none⟩) : Value) :: (.map (some (wr.heap.size + 1)) : Value) :: (.agg #[.pointer (some ⟨wr.heap.size, 0, none⟩), .int .i64 1, .map (some (wr.heap.size + 1))] : Value) :: (.pointer (some ⟨wr.heap.size + 2, 0, none⟩) : Value) :: (.string p : Value) :: (.func (.func 42) #[] #[.pointer (some ⟨wr.heap.size + 4, 0, none⟩)] : Value) :: (undef : Value) :: (undef : Value) :: (undef : Value) :: (undef : Value) :: (undef : Value) :: (undef : Value) :: (undef : Value) :: (.string x : Value) :: (.func (.func 42) #[] #[.pointer (some ⟨W.heap.size, 0, none⟩)] : Value) :: (.int .i64 y.p : Value) :: (.slice y.A y.xs.length y.c : Value) :: (undef : Value) :: (undef : Value) :: (undef : Value) :: (undef : Value) :: (undef : Value) :: (undef : Value) :: []), defers := [] }) (fun _ _ _ _ _ _ _ h _ _ => h) ?assign2 ?body2 ?done2 ?stop2
     case ixown2 =>
      intro c co pre W W' row hs hg hr
      obtain ⟨r, h1, h2⟩ := hs
      exact ⟨r, h1, Cp.Iy.own w D r _ HB6w.out.size (by have := HZ6.out; have := HDz.out.2; omega) co pre W W' row h2 hg hr⟩
     case start2 =>
      intro c2 B W' hB hb hG
      obtain ⟨g1, g2, g3⟩ := hG
      have hbW : Below W.heap.size W W' := below_step HB6.out hb
      refine ⟨HIW.out.res.below hbW, (hbW.block _ (blk_lt HIW.out.svc)).trans HIW.out.svc, (hbW.block _ HDz.out.2).trans HDW.out, ⟨[], [], HAW.out.below hbW, ?_, ?_⟩, below_step HIW.out.below hbW, g2⟩
      ·unfold Cp.rest
       rw [List.length_nil, List.drop_zero, g3]
       exact HQ2.out
      ·unfold Cp.rest
       rw [List.length_nil, List.drop_zero, g3]
       exact HEO.out
     case assign2 =>
      rintro c2 lr pre y W2 K' hI hE hK
      unfold Wd.El.encs
      dsimp only
      gi_wp2
      exact hK _ _ (KeepsL.refl _ _) (fun _ _ _ _ ho => ho) hI rfl
     case body2 =>
      rintro c2 lr pre y a' W2 hlr hrec hI hE rfl hN
      obtain ⟨es, kn, hAt, hp, hpo⟩ := hI.st
      have hd : c2.xs.drop pre.length = y :: c2.xs.drop (pre.length + 1) := by
       obtain ⟨hlt, hy⟩ := List.getElem?_eq_some_iff.1 hE.1
       rw [List.drop_eq_getElem_cons hlt, hy]
      have hym : y ∈ c2.xs := List.mem_of_getElem? hE.1
      unfold Cp.rest at hp hpo
      rw [hd, List.map_cons] at hp hpo
      rw [Cp.excs] at hp
      rw [Cp.ExcsOK] at hpo
      obtain ⟨q, hq, hp⟩ := Option.bind_eq_some_iff.mp hp
      obtain ⟨hpo1, hpo2⟩ := hpo
      have hin := hI.ins y hym
      have hcall := hyphen_Set_exception.calls k y.A y.c y.xs q W2 hin.C hin.1 hq (w.heap.size + 3) (wr.heap.size + 2) (wr.heap.size + 1) ar nb mb qb es kn hAt (by have := blk_lt hI.svc; have := HZr.out; omega) ⟨hpo1⟩ (fun key pts e => (hpo2 key pts (by rw [hq, e])).1)
      have s0 : W2.cell? ⟨wr.heap.size + 3, 0, none⟩ = some (.pointer (some ⟨wr.heap.size + 2, 0, none⟩)) := (blk_cell hI.svc 0).trans rfl
      have HCL := Aside0.mk hcall
      have HI2 := Aside0.mk hI
      have HA2 := Aside0.mk hAt
      have hkind : (q2 = .inl y.p ∧ ∀ e W', hyphen_Set_exception.Post (w.heap.size + 3) (wr.heap.size + 2) (wr.heap.size + 1) ar nb mb qb kn q W2 e W' → e = .returned (.bool false) ∧ Below W2.heap.size W2 W') ∨
        (∃ key pts, Cp.excs k (Cp.rest c2 (pre ++ [y]).length) (Trie.kput kn key pts) = some q2 ∧ Cp.ExcsOK k (Cp.rest c2 (pre ++ [y]).length) (Trie.kput kn key pts) ∧ ∀ e W', hyphen_Set_exception.Post (w.heap.size + 3) (wr.heap.size + 2) (wr.heap.size + 1) ar nb mb qb kn q W2 e W' → e = .returned (.bool true) ∧ W2.grownBy W' (some (wr.heap.size + 1)) ∧ ∃ es', Trie.At (w.heap.size + 3) W' (wr.heap.size + 2) (wr.heap.size + 1) ar nb mb qb es' (Trie.kput kn key pts)) := by
       have hlen : (pre ++ [y]).length = pre.length + 1 := by simp
       rw [hlen]
       match q, hq, hp with
       | none, hq, hp =>
        injection hp with hp
        exact .inl ⟨hp.symm, fun e W' h => h⟩
       | some (key, pts), hq, hp => exact .inr ⟨key, pts, hp, (hpo2 key pts hq).2, fun e W' h => h⟩
      clear hcall hI hAt hp hq hpo1 hpo2 hin
      rcases hkind with ⟨hk1, hk2⟩ | ⟨key, pts, hk1, hk2, hk3⟩
      ·have HK1 := Aside0.mk hk1
       have HK2 := Aside0.mk hk2
       clear hk1 hk2
       gi_wp2
       refine ⟨trivial, ?_⟩
       refine (CallsIn.inRound lr (callsIn_wide.2 HCL.out)).mono ?_
       rintro e w3 hpost
       obtain ⟨rfl, hb⟩ := HK2.out e w3 hpost
       have HBx := Aside0.mk hb
       have HRx := Aside0.mk (HI2.out.res.below hb)
       have HMx := Aside0.mk ((hb.block D (blk_lt HI2.out.mark)).trans HI2.out.mark)
       have hf0 := blk_frozen HRx.out.c0 0
       have hf1 := blk_frozen HRx.out.c1 0
       have hf2 := blk_frozen HRx.out.c2 0
       have hg0 : w3.cell? ⟨w.heap.size, 0, none⟩ = some (.pointer none) := (blk_cell HRx.out.c0 0).trans rfl
       have hg1 : w3.cell? ⟨w.heap.size + 1, 0, none⟩ = some (.int .i64 0) := (blk_cell HRx.out.c1 0).trans rfl
       have hg2 : w3.cell? ⟨w.heap.size + 2, 0, none⟩ = some (.int .i64 0) := (blk_cell HRx.out.c2 0).trans rfl
       clear hb hpost
       gi_wp2
       have hko : Go.KeepsOthers w3 (((w3.setCell ⟨w.heap.size, 0, none⟩ (.pointer none)).setCell ⟨w.heap.size + 1, 0, none⟩ (.int .i64 y.p)).setCell ⟨w.heap.size + 2, 0, none⟩ (.int .i64 210)) := ((Go.KeepsOthers.setCell _ _ _).trans (Go.KeepsOthers.setCell _ _ _)).trans (Go.KeepsOthers.setCell _ _ _)
       exact ⟨(KeepsL.below HBx.out).trans (Cp.keepsL_ko hko), y.p, HK1.out, rfl, HRx.out.ret3, hko.same D _ HMx.out rfl, Cp.below3 (below_step HI2.out.below HBx.out) _ _ _⟩
      ·have HK1 := Aside0.mk hk1
       have HK2 := Aside0.mk hk2
       have HK3 := Aside0.mk hk3
       clear hk1 hk2 hk3
       gi_wp2
       refine ⟨trivial, ?_⟩
       refine (CallsIn.inRound lr (callsIn_wide.2 HCL.out)).mono ?_
       rintro e w3 hpost
       obtain ⟨rfl, hb⟩ := HK3.out e w3 hpost
       have HBx := Aside0.mk hb
       clear hb hpost
       gi_wp2
       obtain ⟨g1, es', g2⟩ := HBx.out
       exact ⟨Cp.keepsL_row g1 HA2.out.map, Cp.kp_row g1 HA2.out.map, HI2.out.next HA2.out g1 g2 HK1.out HK2.out⟩
     case stop2 =>
      rintro c2 E co pre W2 hE _ ⟨r, hr1, rfl, hr3, hm, hr4⟩ he
      have hHr := HHr.out
      rw [hr1] at hHr
      injection hHr with hh
      injection hh with h1 hh
      injection hh with h2 h3
      subst h1 h2 h3
      gi_wp2
      have hDz := HDz.out
      have hEz : w.heap.size + 3 ≤ E ∧ D < E := by have := HZ6.out; omega
      exact Cp.leave2 hr3 hm he (by omega) hDz.1 hEz.1 rfl rfl rfl ⟨_, rfl, rfl, Cp.below_put (Cp.below_put hr4 (by omega)) (by omega)⟩
     case done2 =>
      rintro c2 E xs W2 hE rfl hI he
      obtain ⟨es, kn, hAt, hp, hpo⟩ := hI.st
      have hnil : Cp.rest c2 c2.xs.length = [] := by unfold Cp.rest; rw [List.drop_length]; rfl
      rw [hnil, Cp.excs] at hp
      injection hp with hp
      have hHr := HHr.out
      rw [← hp] at hHr
      injection hHr with hh
      injection hh with h1 hh
      injection hh with h2 h3
      subst h1 h2 h3
      have s0 : W2.cell? ⟨wr.heap.size + 3, 0, none⟩ = some (.pointer (some ⟨wr.heap.size + 2, 0, none⟩)) := (blk_cell hI.svc 0).trans rfl
      have HRx := Aside0.mk hI.res
      have HMx := Aside0.mk hI.mark
      have HAx := Aside0.mk hAt
      have HEx := Aside0.mk he
      have HWx := Aside0.mk hI.below
      have hf0 := blk_frozen HRx.out.c0 0
      have hf1 := blk_frozen HRx.out.c1 0
      have hf2 := blk_frozen HRx.out.c2 0
      have hg0 : W2.cell? ⟨w.heap.size, 0, none⟩ = some (.pointer none) := (blk_cell HRx.out.c0 0).trans rfl
      have hg1 : W2.cell? ⟨w.heap.size + 1, 0, none⟩ = some (.int .i64 0) := (blk_cell HRx.out.c1 0).trans rfl
      have hg2 : W2.cell? ⟨w.heap.size + 2, 0, none⟩ = some (.int .i64 0) := (blk_cell HRx.out.c2 0).trans rfl
      clear hI hAt hp hpo hnil he
      go_wp2
      have hDz := HDz.out
      have hEz : w.heap.size + 3 ≤ E ∧ D < E := by have := HZ6.out; omega
      have hko : Go.KeepsOthers W2 (((W2.setCell ⟨w.heap.size, 0, none⟩ (.pointer (some ⟨wr.heap.size + 2, 0, none⟩))).setCell ⟨w.heap.size + 1, 0, none⟩ (.int .i64 0)).setCell ⟨w.heap.size + 2, 0, none⟩ (.int .i64 0)) := ((Go.KeepsOthers.setCell _ _ _).trans (Go.KeepsOthers.setCell _ _ _)).trans (Go.KeepsOthers.setCell _ _ _)
      refine Cp.leave2 HRx.out.ret3 (hko.same D _ HMx.out rfl) (hko.same E _ HEx.out rfl) (by omega) hDz.1 hEz.1 rfl rfl rfl ⟨_, rfl, ⟨_, _, _, _, _, _, rfl, Cp.At_lower (HAx.out.kept (fun b o hb ho hpl => ?_)) (Nat.le_add_right _ 3)⟩, Cp.below_put (Cp.below_put (Cp.below3 HWx.out _ _ _) (by omega)) (by omega)⟩
      have hnD : b ≠ D := fun e => by rw [e, HMx.out] at ho; injection ho with ho; subst ho; exact hpl
      have hnE : b ≠ E := fun e => by rw [e, HEx.out] at ho; injection ho with ho; subst ho; exact hpl
      refine (World.putObj_heap_other hnD).trans ((World.putObj_heap_other hnE).trans ?_)
      exact (Below.heap_setCell _ _ _ _ (by show b ≠ w.heap.size + 2; omega)).trans ((Below.heap_setCell _ _ _ _ (by show b ≠ w.heap.size + 1; omega)).trans (Below.heap_setCell _ _ _ _ (by show b ≠ w.heap.size; omega)))
end Go.Proofs.YtenhfmlkdcfbbaaDoor.PHyphenPoints
