/- law21: what one pattern does to the trie (function 26), walked. -/
import Derived.WalkSpells
import Derived.Test.YtenhfmlkdcfbbaaDoorPHyphenPointsx3
import Derived.Test.YtenhfmlkdcfbbaaDoorTr
namespace Go.Proofs.YtenhfmlkdcfbbaaDoor.PHyphenPoints
open Go.RowKit Go.Proofs.YtenhfmlkdcfbbaaDoorW.PrintWords Go.Proofs.YtenhfmlkdcfbbaaDoorW.PrintLast Go.Proofs.YtenhfmlkdcfbbaaDoorW.PrintMore
attribute [local go_sem] max2_int min2_int max_two min_two max_three min_three max_four min_four
set_option linter.unusedVariables false
set_option linter.unusedSimpArgs false
mutual
def hyphen_Set_pattern.l0 : Nat → List Int → List Int → List Int → Int → Bool → List Int → Int → Int → Option (Option (List Int × List Int × Int))
 | 0, _, _, _, _, _, _, _, _ => none
 | k + 1, x1, x5, x6, x7, x8, x19, x20, x21 => if x21 < x20 then (if 0 ≤ x21 then (if x21 < (x19.length : Int) then (if (rd x19 x21) = 46 then (if x21 = 0 then (hyphen_Set_pattern.j1 k x1 x5 x6 x7 x8 (rd x19 x21) x19 x20 x21 true) else (hyphen_Set_pattern.j1 k x1 x5 x6 x7 x8 (rd x19 x21) x19 x20 x21 (x21 == (wrap64 ((x1.length : Int) - 1))))) else (hyphen_Set_pattern.j1 k x1 x5 x6 x7 x8 (rd x19 x21) x19 x20 x21 false)) else (none)) else (none)) else (some (some (x5, x6, x7)))
def hyphen_Set_pattern.j1 : Nat → List Int → List Int → List Int → Int → Bool → Int → List Int → Int → Int → Bool → Option (Option (List Int × List Int × Int))
 | 0, _, _, _, _, _, _, _, _, _, _ => none
 | k + 1, x1, x5, x6, x7, x8, x10, x19, x20, x21, x26 => if x26 = true then (if x5.length < 17592186044416 then (hyphen_Set_pattern.l0 k x1 (x5 ++ [x10]) x6 x7 x8 x19 x20 (wrap64 (x21 + 1))) else (none)) else (if 48 ≤ x10 then (if x10 ≤ 57 then (hyphen_Set_pattern.j2 k x1 x5 x6 x7 x10 x19 x20 x21 (!x8)) else (hyphen_Set_pattern.j2 k x1 x5 x6 x7 x10 x19 x20 x21 false)) else (hyphen_Set_pattern.j2 k x1 x5 x6 x7 x10 x19 x20 x21 false))
def hyphen_Set_pattern.j2 : Nat → List Int → List Int → List Int → Int → Int → List Int → Int → Int → Bool → Option (Option (List Int × List Int × Int))
 | 0, _, _, _, _, _, _, _, _, _ => none
 | k + 1, x1, x5, x6, x7, x10, x19, x20, x21, x44 => if x44 = true then (if 0 ≤ x7 then (if x7 < (x6.length : Int) then (hyphen_Set_pattern.l0 k x1 x5 (x6.set (x7 : Int).toNat (wrap64 (x10 - 48))) x7 true x19 x20 (wrap64 (x21 + 1))) else (none)) else (none)) else ((hyphen_letter.f k x10).bind fun t121 => (if t121 = true then (if x7 < 64 then (if x5.length < 17592186044416 then (if x6.length < 17592186044416 then (hyphen_Set_pattern.l0 k x1 (x5 ++ [x10]) (x6 ++ [0]) (wrap64 (x7 + 1)) false x19 x20 (wrap64 (x21 + 1))) else (none)) else (none)) else (some none)) else (some none)))
end
def hyphen_Set_pattern.f (k : Nat) (l1 : List Int) : Option (Option (List Int × List Int × Int)) := if ([] : List Int).length < 17592186044416 then (hyphen_Set_pattern.l0 k l1 ([] : List Int) (([] : List Int) ++ [0]) 0 false l1 (l1.length : Int) 0) else (none)
def Trie.kget : List (Int × Nat) → Int → Option Nat
 | [], _ => none
 |(a, b) :: r, c => if a = c then some b else Trie.kget r c
theorem Trie.kget_mem : ∀ {l : List (Int × Nat)} {c : Int} {q : Nat}, Trie.kget l c = some q → (c, q) ∈ l
 | [], _, _, h => by cases h
 |(a, b) :: r, c, q, h => by
  rw [Trie.kget] at h
  by_cases e : a = c
  ·rw [if_pos e] at h
   injection h with h
   rw [e, h]
   exact List.mem_cons_self
  ·rw [if_neg e] at h
   exact List.mem_cons_of_mem _ (Trie.kget_mem h)
theorem Trie.vget_kl (nb : Nat → Nat) (c : Int) (z : Value) : ∀ (l : List (Int × Nat)), YtenhfmlkdcfbbaaDoorV.vget (Trie.kl nb l) c z = match Trie.kget l c with | some q => .pointer (some ⟨nb q, 0, none⟩) | none => z
 | [] => rfl
 |(a, b) :: r => by
  have ih := Trie.vget_kl nb c z r
  unfold Trie.kl at ih ⊢
  rw [List.map_cons, YtenhfmlkdcfbbaaDoorV.vget, Trie.kget]
  by_cases e : a = c
  ·rw [if_pos e, if_pos e]
  ·rw [if_neg e, if_neg e]
   exact ih
def Trie.down (ar : List Trie.PN) (i : Nat) (c : Int) : List Trie.PN × Nat :=
 match Trie.kget (((ar.getD i Trie.PN.z).kids).getD []) c with
 | some j => (ar, j)
 | none => (ar.set i ⟨some ((c, ar.length) :: ((ar.getD i Trie.PN.z).kids).getD []), (ar.getD i Trie.PN.z).lv⟩ ++ [Trie.PN.z], ar.length)
def Trie.walk : List Trie.PN → Nat → List Int → List Trie.PN × Nat
 | ar, i, [] => (ar, i)
 | ar, i, c :: r => Trie.walk (Trie.down ar i c).1 (Trie.down ar i c).2 r
def Trie.lev : List Int → Nat → List Int → List Int
 | L, _, [] => L
 | L, k, x :: r => Trie.lev (L.set k (mx (rd L (k : Int)) x)) (k + 1) r
def Trie.put (ar : List Trie.PN) (le lv : List Int) (n : Int) : List Trie.PN :=
 let z := Trie.walk ar 0 le
 z.1.set z.2 ⟨(z.1.getD z.2 Trie.PN.z).kids, some (Trie.lev (((z.1.getD z.2 Trie.PN.z).lv).getD (List.replicate (n + 1).toNat 0)) 0 lv)⟩
theorem Trie.getD_of {ar : List Trie.PN} {i : Nat} {nd : Trie.PN} (h : ar[i]? = some nd) : ar.getD i Trie.PN.z = nd := by
 rw [List.getD_eq_getElem?_getD, h]
 rfl
theorem Trie.down_open {ar : List Trie.PN} {i : Nat} {nd : Trie.PN} (h : ar[i]? = some nd) (hn : nd.kids = none) (c : Int) : Trie.down (ar.set i ⟨some [], nd.lv⟩) i c = Trie.down ar i c := by
 have hlt := (List.getElem?_eq_some_iff.1 h).1
 have h2 : (ar.set i ⟨some [], nd.lv⟩)[i]? = some ⟨some [], nd.lv⟩ := by rw [List.getElem?_set_self hlt]
 unfold Trie.down
 rw [Trie.getD_of h, Trie.getD_of h2, hn]
 show ((ar.set i ⟨some [], nd.lv⟩).set i ⟨some [(c, (ar.set i ⟨some [], nd.lv⟩).length)], nd.lv⟩ ++ [Trie.PN.z], (ar.set i ⟨some [], nd.lv⟩).length) = (ar.set i ⟨some [(c, ar.length)], nd.lv⟩ ++ [Trie.PN.z], ar.length)
 rw [List.length_set, List.set_set]
theorem Trie.down_new {ar : List Trie.PN} {i : Nat} {nd : Trie.PN} {l : List (Int × Nat)} {c : Int} (h : ar[i]? = some nd) (hn : nd.kids = some l) (hk : Trie.kget l c = none) : Trie.down ar i c = (ar.set i ⟨some ((c, ar.length) :: l), nd.lv⟩ ++ [Trie.PN.z], ar.length) := by
 unfold Trie.down
 rw [Trie.getD_of h, hn, show Trie.kget ((some l).getD []) c = none from hk]
 rfl
theorem Trie.down_old {ar : List Trie.PN} {i q : Nat} {nd : Trie.PN} {l : List (Int × Nat)} {c : Int} (h : ar[i]? = some nd) (hn : nd.kids = some l) (hk : Trie.kget l c = some q) : Trie.down ar i c = (ar, q) := by
 unfold Trie.down
 rw [Trie.getD_of h, hn, show Trie.kget ((some l).getD []) c = some q from hk]
theorem Trie.put_of {ar ar1 : List Trie.PN} {i1 : Nat} {le lv L : List Int} {n : Int} {nd : Trie.PN} (hw : (ar1, i1) = Trie.walk ar 0 le) (hnd : ar1[i1]? = some nd) (hL : L = (nd.lv).getD (List.replicate (n + 1).toNat 0)) : Trie.put ar le lv n = ar1.set i1 ⟨nd.kids, some (Trie.lev L 0 lv)⟩ := by
 unfold Trie.put
 rw [← hw]
 dsimp only
 rw [Trie.getD_of hnd, hL]
def Trie.Own (Sb : Nat) (ar : List Trie.PN) (nb mb qb : Nat → Nat) (b : Nat) : Prop :=
 b = Sb ∨ ∃ i nd, ar[i]? = some nd ∧ (b = nb i ∨ (nd.kids ≠ none ∧ b = mb i) ∨ (nd.lv ≠ none ∧ b = qb i))
structure Trie.Fr (W : World) (O : Nat → Prop) (W' : World) (O' : Nat → Prop) : Prop where
 os : W'.os = W.os
 tape : W'.tape = W.tape
 output : W'.output = W.output
 size : W.heap.size ≤ W'.heap.size
 keep : ∀ b o, W.heap[b]? = some o → ¬ O b → W'.heap[b]? = some o
 own : ∀ b, b < W.heap.size → O' b → O b
theorem Trie.Fr.trans {X Y Z : World} {O1 O2 O3 : Nat → Prop} (h : Trie.Fr X O1 Y O2) (k : Trie.Fr Y O2 Z O3) : Trie.Fr X O1 Z O3 :=
 ⟨k.os.trans h.os, k.tape.trans h.tape, k.output.trans h.output, Nat.le_trans h.size k.size, fun b o ho hn => k.keep b o (h.keep b o ho hn) (fun q => hn (h.own b (Array.getElem?_eq_some_iff.1 ho).1 q)), fun b hb q => h.own b hb (k.own b (Nat.lt_of_lt_of_le hb h.size) q)⟩
theorem Trie.Fr.below {X Y : World} (O : Nat → Prop) (h : Below X.heap.size X Y) : Trie.Fr X O Y O := ⟨h.os, h.tape, h.output, h.size, fun b o ho _ => (h.block b (Array.getElem?_eq_some_iff.1 ho).1).trans ho, fun _ _ q => q⟩
def hyphen_Set_pattern.Post (base K Sb : Nat) (ar : List Trie.PN) (nb mb qb : Nat → Nat) (r : Option (List Int × List Int × Int)) (W : World) (e : Ending) (W' : World) : Prop :=
 match r with
 | none => e = .returned (.bool false) ∧ Below W.heap.size W W'
 | some (le, lv, n) => if n = 0 then e = .returned (.bool false) ∧ Below W.heap.size W W' else
   e = .returned (.bool true) ∧ ∃ nb' mb' qb', Trie.Tr base W' (Trie.put ar le lv n) nb' mb' qb' ∧ nb' 0 = nb 0 ∧
    W'.heap[Sb]? = some (.cells #[.pointer (some ⟨nb 0, 0, none⟩), .int .i64 ((Trie.put ar le lv n).length : Int), .map (some K)] 52 (0, 0)) ∧ Trie.Fr W (Trie.Own Sb ar nb mb qb) W' (Trie.Own Sb (Trie.put ar le lv n) nb' mb' qb')
theorem hyphen_Set_pattern.Post.no {base K Sb : Nat} {ar : List Trie.PN} {nb mb qb : Nat → Nat} {W W' : World} {e : Ending} (he : e = .returned (.bool false)) (hb : Below W.heap.size W W') : hyphen_Set_pattern.Post base K Sb ar nb mb qb none W e W' := ⟨he, hb⟩
theorem Trie.row {w : World} {base n c : Nat} {ok : Nat → Prop} {A : Option Addr} {xs : List Int} (h : Kd.R (Kd.int .i64) 3 w base ok (.slice A n c) xs) (hn : 0 < n) :
  ∃ g cells, A = some ⟨g, 0, none⟩ ∧ base ≤ g ∧ ok g ∧ w.heap[g]? = some (.cells cells 3 (0, 0)) ∧ ∀ j : Nat, j < n → cells[j]? = some (.int .i64 (rd xs (j : Int))) := by
 obtain ⟨g, rfl⟩ : ∃ g, A = some ⟨g, 0, none⟩ := by
  obtain ⟨_, inner, ho, _⟩ := h
  rcases ho.2 with ⟨hv, _⟩ | ⟨g, cap', cur, hv, _⟩
  ·injection hv with h1 h2 h3
   omega
  ·injection hv with h1 h2 h3
   exact ⟨g, h1⟩
 obtain ⟨k1, k2, k3, q, hq, cells, k4⟩ := (Kd.R_bound h).1 g (by simp [Value.ownBlock])
 obtain rfl : q = 3 := by
  rcases List.mem_cons.1 hq with e | e
  ·exact e
  ·exact absurd e (by intro h9; cases h9)
 refine ⟨g, cells, rfl, k2, k1, k4, fun j hj => ?_⟩
 obtain ⟨cc, hcl, hM, hcc⟩ := Kd.R_getA h 0 (j : Int) (by omega) (by omega)
 have hM' : cc = [.int .i64 (rd xs (j : Int))] := hM
 subst hM'
 have := hcc 0 _ rfl
 rw [← this]
 have e : (⟨g, 0, none⟩ : Addr).add ((j : Int).toNat * (Kd.int .i64).sz + 0) = ⟨g, j, none⟩ := by
  rw [show (j : Int).toNat * (Kd.int .i64).sz + 0 = j by show (j : Int).toNat * 1 + 0 = j; omega]
  simp [Addr.add]
  exact fun h => h.symm
 rw [e]
 exact (blk_cell k4 j).symm
def Trie.Rw (w : World) (base : Nat) (A : Option Addr) (xs : List Int) : Prop :=
 xs = [] ∨ ∃ g cells, A = some ⟨g, 0, none⟩ ∧ base ≤ g ∧ w.heap[g]? = some (.cells cells 3 (0, 0)) ∧ ∀ j : Nat, j < xs.length → cells[j]? = some (.int .i64 (rd xs (j : Int)))
theorem Trie.Rw.of {w : World} {base c : Nat} {ok : Nat → Prop} {A : Option Addr} {xs : List Int} (h : Kd.R (Kd.int .i64) 3 w base ok (.slice A xs.length c) xs) : Trie.Rw w base A xs := by
 by_cases e : xs.length = 0
 ·exact .inl (List.length_eq_zero_iff.1 e)
 ·obtain ⟨g, cells, h1, h2, _, h3, h4⟩ := Trie.row h (by omega)
  exact .inr ⟨g, cells, h1, h2, h3, h4⟩
theorem Trie.Rw.cell {w : World} {base : Nat} {A : Option Addr} {xs : List Int} (h : Trie.Rw w base A xs) (j : Nat) (hj : j < xs.length) : ∃ g, A = some ⟨g, 0, none⟩ ∧ w.cell? ⟨g, j, none⟩ = some (.int .i64 (rd xs (j : Int))) := by
 rcases h with rfl | ⟨g, cells, h1, _, h3, h4⟩
 ·exact absurd hj (by simp)
 ·exact ⟨g, h1, (blk_cell h3 j).trans (h4 j hj)⟩
theorem Trie.Rw.kept {w w1 : World} {base : Nat} {A : Option Addr} {xs : List Int} (h : Trie.Rw w base A xs) (hk : ∀ g cells, base ≤ g → w.heap[g]? = some (.cells cells 3 (0, 0)) → w1.heap[g]? = w.heap[g]?) : Trie.Rw w1 base A xs := by
 rcases h with rfl | ⟨g, cells, h1, h2, h3, h4⟩
 ·exact .inl rfl
 ·exact .inr ⟨g, cells, h1, h2, (hk g cells h2 h3).trans h3, h4⟩
theorem Trie.made_zeros (n : Nat) : madeCells (Value.int .i64 0).cells (n * 1) = ((List.replicate n (0 : Int)).map (Value.int .i64)).toArray := by
 apply Array.ext'
 apply List.ext_getElem
 ·simp [madeCells]
 ·intro i h1 h2
  simp [madeCells, Value.cells, Nat.mod_one]
theorem Trie.set_id {α : Type} {l : List α} {i : Nat} {x : α} (h : l[i]? = some x) : l.set i x = l := by
 apply List.ext_getElem?
 intro j
 by_cases e : i = j
 ·subst e
  rw [List.getElem?_set_self (List.getElem?_eq_some_iff.1 h).1, h]
 ·rw [List.getElem?_set_ne e]
section
variable {base : Nat} {W W1 : World} {ar : List Trie.PN} {nb mb qb : Nat → Nat}
theorem Trie.own_nb (Sb : Nat) (nb mb qb : Nat → Nat) {i : Nat} {nd : Trie.PN} (hi : ar[i]? = some nd) : Trie.Own Sb ar nb mb qb (nb i) := .inr ⟨i, nd, hi, .inl rfl⟩
theorem Trie.own_mb (Sb : Nat) (nb mb qb : Nat → Nat) {i : Nat} {nd : Trie.PN} (hi : ar[i]? = some nd) (h : nd.kids ≠ none) : Trie.Own Sb ar nb mb qb (mb i) := .inr ⟨i, nd, hi, .inr (.inl ⟨h, rfl⟩)⟩
theorem Trie.own_qb (Sb : Nat) (nb mb qb : Nat → Nat) {i : Nat} {nd : Trie.PN} (hi : ar[i]? = some nd) (h : nd.lv ≠ none) : Trie.Own Sb ar nb mb qb (qb i) := .inr ⟨i, nd, hi, .inr (.inr ⟨h, rfl⟩)⟩
theorem Trie.Fr.opened (Sb : Nat) {i : Nat} {nd : Trie.PN} (hi : ar[i]? = some nd) (hn : nd.kids = none) :
  Trie.Fr W (Trie.Own Sb ar nb mb qb) ((W.alloc (.map #[] 0)).setCell ⟨nb i, 0, none⟩ (.map (some W.heap.size))) (Trie.Own Sb (ar.set i ⟨some [], nd.lv⟩) nb (Trie.setf mb i W.heap.size) qb) := by
 refine ⟨rfl, rfl, rfl, by simp, fun b o ho hO => ?_, fun b hb hO => ?_⟩
 ·have hne : b ≠ nb i := fun e => hO (e ▸ Trie.own_nb Sb nb mb qb hi)
  exact (Below.heap_setCell _ _ _ _ hne).trans ((Below.heap_alloc W _ b (blk_lt ho)).trans ho)
 ·rcases hO with rfl | ⟨j, nj, hj, h⟩
  ·exact .inl rfl
  ·rcases Trie.get_set hj with ⟨rfl, rfl, _⟩ | ⟨hne, hq⟩
   ·rcases h with rfl | ⟨_, rfl⟩ | ⟨h1, rfl⟩
    ·exact Trie.own_nb Sb nb mb qb hi
    ·rw [Trie.setf_same] at hb
     omega
    ·exact Trie.own_qb Sb nb mb qb hi h1
   ·rw [Trie.setf_other _ hne] at h
    exact .inr ⟨j, nj, hq, h⟩
theorem Trie.Fr.child (Sb : Nat) {i : Nat} {nd : Trie.PN} (hi : ar[i]? = some nd) {l : List (Int × Nat)} (hl : nd.kids = some l) (c : Int) (o1 : Obj) (hg : (W.alloc o1).grownBy W1 (some (mb i))) :
  Trie.Fr W (Trie.Own Sb ar nb mb qb) W1 (Trie.Own Sb (ar.set i ⟨some ((c, ar.length) :: l), nd.lv⟩ ++ [Trie.PN.z]) (Trie.setf nb ar.length W.heap.size) mb qb) := by
 refine ⟨hg.os, hg.tape, hg.output, by have := hg.size; simp at this; omega, fun b o ho hO => ?_, fun b hb hO => ?_⟩
 ·have hne : b ≠ mb i := fun e => hO (e ▸ Trie.own_mb Sb nb mb qb hi (by rw [hl]; simp))
  exact (hg.block b (by have := blk_lt ho; simp; omega) (fun e => hne (by injection e))).trans ((Below.heap_alloc W _ b (blk_lt ho)).trans ho)
 ·rcases hO with rfl | ⟨j, nj, hj, h⟩
  ·exact .inl rfl
  ·rcases Trie.get_app hj with ⟨a, hj⟩ | ⟨a, e⟩
   ·rw [List.length_set] at a
    rw [Trie.setf_other _ (by omega)] at h
    rcases Trie.get_set hj with ⟨rfl, rfl, _⟩ | ⟨hne, hq⟩
    ·rcases h with rfl | ⟨_, rfl⟩ | ⟨h1, rfl⟩
     ·exact Trie.own_nb Sb nb mb qb hi
     ·exact Trie.own_mb Sb nb mb qb hi (by rw [hl]; simp)
     ·exact Trie.own_qb Sb nb mb qb hi h1
    ·exact .inr ⟨j, nj, hq, h⟩
   ·rw [List.length_set] at a
    subst a
    rcases h with rfl | ⟨h1, rfl⟩ | ⟨h1, rfl⟩
    ·rw [Trie.setf_same] at hb
     omega
    ·exact absurd (by rw [e]; rfl) h1
    ·exact absurd (by rw [e]; rfl) h1
theorem Trie.Fr.count (Sb : Nat) (O : Nat → Prop) (hO : O Sb) (i : Nat) (v : Value) : Trie.Fr W O (W.setCell ⟨Sb, i, none⟩ v) O := by
 refine ⟨rfl, rfl, rfl, by simp, fun b o ho hn => ?_, fun _ _ q => q⟩
 exact (Below.heap_setCell _ _ _ _ (fun (e : b = Sb) => hn (by rw [e]; exact hO))).trans ho
theorem Trie.Fr.level (Sb : Nat) {i : Nat} {nd : Trie.PN} (hi : ar[i]? = some nd) (L : List Int) (o1 : Obj) (v : Value) :
  Trie.Fr W (Trie.Own Sb ar nb mb qb) ((W.alloc o1).setCell ⟨nb i, 1, none⟩ v) (Trie.Own Sb (ar.set i ⟨nd.kids, some L⟩) nb mb (Trie.setf qb i W.heap.size)) := by
 refine ⟨rfl, rfl, rfl, by simp, fun b o ho hO => ?_, fun b hb hO => ?_⟩
 ·have hne : b ≠ nb i := fun e => hO (e ▸ Trie.own_nb Sb nb mb qb hi)
  exact (Below.heap_setCell _ _ _ _ hne).trans ((Below.heap_alloc W _ b (blk_lt ho)).trans ho)
 ·rcases hO with rfl | ⟨j, nj, hj, h⟩
  ·exact .inl rfl
  ·rcases Trie.get_set hj with ⟨rfl, rfl, _⟩ | ⟨hne, hq⟩
   ·rcases h with rfl | ⟨h1, rfl⟩ | ⟨_, rfl⟩
    ·exact Trie.own_nb Sb nb mb qb hi
    ·exact Trie.own_mb Sb nb mb qb hi h1
    ·rw [Trie.setf_same] at hb
     omega
   ·rw [Trie.setf_other _ hne] at h
    exact .inr ⟨j, nj, hq, h⟩
theorem Trie.Fr.write (Sb : Nat) {i : Nat} {nd : Trie.PN} (hi : ar[i]? = some nd) {L L' : List Int} (hl : nd.lv = some L) (k : Nat) (v : Value) :
  Trie.Fr W (Trie.Own Sb ar nb mb qb) (W.setCell ⟨qb i, k, none⟩ v) (Trie.Own Sb (ar.set i ⟨nd.kids, some L'⟩) nb mb qb) := by
 refine ⟨rfl, rfl, rfl, by simp, fun b o ho hO => ?_, fun b hb hO => ?_⟩
 ·exact (Below.heap_setCell _ _ _ _ (fun (e : b = qb i) => hO (by rw [e]; exact Trie.own_qb Sb nb mb qb hi (by rw [hl]; simp)))).trans ho
 ·rcases hO with rfl | ⟨j, nj, hj, h⟩
  ·exact .inl rfl
  ·rcases Trie.get_set hj with ⟨rfl, rfl, _⟩ | ⟨hne, hq⟩
   ·rcases h with rfl | ⟨h1, rfl⟩ | ⟨_, rfl⟩
    ·exact Trie.own_nb Sb nb mb qb hi
    ·exact Trie.own_mb Sb nb mb qb hi h1
    ·exact Trie.own_qb Sb nb mb qb hi (by rw [hl]; simp)
   ·exact .inr ⟨j, nj, hq, h⟩
end
set_option maxHeartbeats 8000000 in
set_option maxRecDepth 100000 in
theorem hyphen_Set_pattern.calls (k : Nat) (Sb : Nat) (A1 : Option Addr) (c1 : Nat) (l1 : List Int) (r : Option (List Int × List Int × Int)) (w : World) (hr1 : Kd.C (Kd.int .i64) w A1 l1.length l1) (hc1 : l1.length ≤ c1) (h : hyphen_Set_pattern.f k l1 = some r)
  (base K : Nat) (ar : List Trie.PN) (nb mb qb : Nat → Nat) (hT : Trie.Tr base w ar nb mb qb) (hS : w.heap[Sb]? = some (.cells #[.pointer (some ⟨nb 0, 0, none⟩), .int .i64 (ar.length : Int), .map (some K)] 52 (0, 0))) (hbase : base ≤ w.heap.size) (har : 0 < ar.length ∧ ar.length ≤ 1000000000000) (hR : ∀ le lv n, r = some (le, lv, n) → (∀ c ∈ le, (Lit.int .i64 c).wf = true) ∧ (lv.length : Int) = n + 1 ∧ 0 ≤ n ∧ n ≤ 64 ∧ le.length ≤ 100 ∧ lv.length ≤ 65) (hLV : ∀ le lv n, r = some (le, lv, n) → ∀ nd L, (Trie.walk ar 0 le).1[(Trie.walk ar 0 le).2]? = some nd → nd.lv = some L → L.length = lv.length) :
  Calls Tryd.prog 26 #[.pointer (some ⟨Sb, 0, none⟩), .slice A1 l1.length c1] w fun e w' => hyphen_Set_pattern.Post base K Sb ar nb mb qb r w e w' := by
 have HT := Aside0.mk hT
 have HR := Aside0.mk hR
 have HLV := Aside0.mk hLV
 clear hR hLV
 have HSB := Aside0.mk hS
 clear hT hS
 have HR1 := Aside0.mk hr1
 have HC1 := Aside0.mk hc1
 clear hr1 hc1
 have HB := Aside0.mk (Below.refl w.heap.size w)
 have H : (if ([] : List Int).length < 17592186044416 then (hyphen_Set_pattern.l0 k l1 ([] : List Int) (([] : List Int) ++ [0]) 0 false l1 (l1.length : Int) 0) else (none)) = some r := h
 clear h
 by_cases c3 : ([] : List Int).length < 17592186044416
 ·rw [if_pos c3] at H
  have LMc3 := Aside0.mk c3
  clear c3
  obtain ⟨y113, hy113⟩ : ∃ y_ : List Int, y_ = (([] : List Int) ++ [0]) := ⟨_, rfl⟩
  replace H : (hyphen_Set_pattern.l0 k l1 ([] : List Int) y113 0 false l1 (l1.length : Int) 0) = some r := by first | (rw [hy113]; with_reducible exact H) | (have H2_ := (Option.bind_some _ _).symm.trans H; rw [hy113]; with_reducible exact H2_) | (have H2_ := (Option.bind_some _ _).symm.trans H; with_reducible exact H2_) | with_reducible exact H | (rw [hy113]; exact H) | exact H
  have Ny113 := Aside0.mk hy113
  clear hy113
  have H' := Aside0.mk H
  clear H
  go_enter Tryd.func26, Tryd.ntmps26
  go_wp2_with (first | ((with_reducible refine gate_builtin (b := .append) (xs := #[.tmp 16, .tmp 17]) rfl ?_); (try (refine gate_guard (by rfl) ?_; dsimp only)); at_builtin; refine Kd.R_append (Kd.int .i64) (w0 := w) w.heap.size rfl (.tmp 16) (.tmp 17) 22 3 (.int .i64 0) 8 rfl Tryd.underlying22 info3 rfl (by decide) (by omega) (.slice none 0 0) ([] : List Int) 0 [.int .i64 0] (fun _ => True) (fun _ => False) rfl rfl ?aP (fun _ hk => hk.elim) ?aF ?aO ?aB ?aS ?aL ?_; (case aP => exact rfl); (case aB => exact (by repeat (first | (with_reducible first | exact HB.out | apply below_alloc | apply pw_below_drewN | apply below_drew1) | exact HB.out))); (case aF => exact (fun _ _ => trivial)); (case aO => exact ((Kd.R_nil _ _ _ _ (fun _ => True)))); (case aS => exact (below_size (by repeat (first | (with_reducible first | exact HB.out | apply below_alloc | apply pw_below_drewN | apply below_drew1) | exact HB.out)))); (case aL => have := LMc3.out; omega); intro v114 w4 ho hb hg hat; rw [← Ny113.out] at ho; have n0_ := Aside0.mk (hb); have n1_ := Aside0.mk (ho); clear HB; have HB := n0_; have HO115 := n1_; clear n0_ n1_; clear ho hb hg hat))
  go_loopg [5, 6, 7, 8, 21] k (fun kq v5 v6 v7 v8 v21 w' => ∃ (x5_1 : List Int) (x6_1 : List Int) (x7_1 : Int) (x8_1 : Bool) (x21_1 : Int), v7 = .int .i64 x7_1 ∧ v8 = .bool x8_1 ∧ v21 = .int .i64 x21_1 ∧ Aside0 (hyphen_Set_pattern.l0 kq l1 x5_1 x6_1 x7_1 x8_1 l1 (l1.length : Int) x21_1 = some r) ∧ Aside0 (kq ≤ k) ∧ Aside0 (Kd.R (Kd.int .i64) 3 w' w.heap.size (fun k_ => some k_ ≠ (v6 : Value).ownBlock) v5 x5_1) ∧ Aside0 (Kd.R (Kd.int .i64) 3 w' w.heap.size (fun k_ => some k_ ≠ (v5 : Value).ownBlock) v6 x6_1) ∧ Aside0 (Below w.heap.size w w'))
  case atStart => exact ⟨(([] : List Int)), (y113), (0), (false), (0), (by first | rfl | (simp; done) | (simp [*]; done)), (by first | rfl | (simp; done) | (simp [*]; done)), (by first | rfl | (simp; done) | (simp [*]; done)), H', ⟨Nat.le_refl _⟩, ⟨by first | exact Kd.R_nil _ _ _ _ _ | exact Kd.N_nil _ _ _ _ _ | exact Kd.V_nil _ _ _ _ _ | exact Kd.Q_nil _ _ _ _ _ | exact Kd.S_nil _ _ _ _ _⟩, ⟨by (with_reducible repeat (first | apply Kd.R_alloc | apply Kd.R_drewN | apply Kd.R_drew)); exact Kd.R_mono HO115.out (fun _ hk => (by simp [Value.ownBlock]))⟩, ⟨by repeat (first | (with_reducible first | exact HB.out | apply below_alloc | apply pw_below_drewN | apply below_drew1) | exact HB.out)⟩⟩
  case round =>
   clear H'
   obtain ⟨x5_1, x6_1, x7_1, x8_1, x21_1, rfl, rfl, rfl, HA, HK1, HO_5, HO_6, HB⟩ := hrel
   cases gk with
   | zero => exact absurd HA.out (by simp [hyphen_Set_pattern.l0])
   | succ k1 =>
    have H := HA.out
    clear HA
    simp only [hyphen_Set_pattern.l0] at H
    by_cases c5 : x21_1 < (l1.length : Int)
    ·rw [if_pos c5] at H
     have c5b0 : decide (x21_1 < (l1.length : Int)) = true := decide_eq_true c5
     clear c5
     by_cases c6 : 0 ≤ x21_1
     ·rw [if_pos c6] at H
      have c6b0 : decide (0 ≤ x21_1) = true := decide_eq_true c6
      clear c6
      by_cases c7 : x21_1 < (l1.length : Int)
      ·rw [if_pos c7] at H
       have c7b0 : decide (x21_1 < (l1.length : Int)) = true := decide_eq_true c7
       clear c7
       have HC8 := Aside0.mk H
       clear H
       have p116 : 0 ≤ (x21_1 : Int) := of_decide_eq_true (by first | (with_reducible assumption) | assumption)
       have q116 : x21_1 < (l1.length : Int) := of_decide_eq_true (by first | (with_reducible assumption) | assumption)
       obtain ⟨ad116, e116, hx116_0⟩ := Kd.at_int HR1.out x21_1 p116 q116
       cases e116
       replace hx116_0 := (HB.out.cell (World.block_lt_of_cell? w _ hx116_0)).trans hx116_0
       replace p116 := eq_true p116
       replace q116 := eq_true q116
       go_upto_region 8 with (fail)
       go_cut [26] (fun v26 wc => ∃ (kq : Nat) (x26_7 : Bool), v26 = .bool x26_7 ∧ Aside0 (hyphen_Set_pattern.j1 kq l1 x5_1 x6_1 x7_1 x8_1 (rd l1 x21_1) l1 (l1.length : Int) x21_1 x26_7 = some r) ∧ Aside0 (kq ≤ k1) ∧ Aside0 (Kd.R (Kd.int .i64) 3 wc w.heap.size (fun k_ => some k_ ≠ (u6 : Value).ownBlock) u5 x5_1) ∧ Aside0 (Kd.R (Kd.int .i64) 3 wc w.heap.size (fun k_ => some k_ ≠ (u5 : Value).ownBlock) u6 x6_1) ∧ Aside0 (Below w.heap.size w wc))
       case first =>
        have H := HC8.out
        clear HC8
        by_cases c9 : (rd l1 x21_1) = 46
        ·rw [if_pos c9] at H
         have c9b0 : ((rd l1 x21_1) == 46) = true := beq_iff_eq.mpr c9
         have c9b1 : ((rd l1 x21_1) != 46) = false := bne_eq_false_iff_eq.mpr c9
         clear c9
         (first | rw [c9b0] | (simp only [i64_w, i32_w]; rw [c9b0]) | skip)
         by_cases c10 : x21_1 = 0
         ·rw [if_pos c10] at H
          have c10b0 : (x21_1 == 0) = true := beq_iff_eq.mpr c10
          have c10b1 : (x21_1 != 0) = false := bne_eq_false_iff_eq.mpr c10
          clear c10
          have H' := Aside0.mk H
          clear H
          go_wp2
          go_meet
          case rel => exact ⟨_, (true), (by first | rfl | (simp; done) | (simp [*]; done)), H', ⟨by have := HK1.out; first | omega | exact Nat.le_refl _⟩, ⟨by (with_reducible repeat (first | apply Kd.R_alloc | apply Kd.R_drewN | apply Kd.R_drew)); exact HO_5.out⟩, ⟨by (with_reducible repeat (first | apply Kd.R_alloc | apply Kd.R_drewN | apply Kd.R_drew)); exact HO_6.out⟩, ⟨by repeat (first | (with_reducible first | exact HB.out | apply below_alloc | apply pw_below_drewN | apply below_drew1) | exact HB.out)⟩⟩
         ·rw [if_neg c10] at H
          have c10b0 : (x21_1 == 0) = false := beq_eq_false_iff_ne.mpr c10
          have c10b1 : (x21_1 != 0) = true := bne_iff_ne.mpr c10
          have H' := Aside0.mk H
          clear H
          go_wp2
          go_meet
          case rel => exact ⟨_, ((x21_1 == (wrap64 ((l1.length : Int) - 1)))), (by first | rfl | (simp; done) | (simp [*]; done)), H', ⟨by have := HK1.out; first | omega | exact Nat.le_refl _⟩, ⟨by (with_reducible repeat (first | apply Kd.R_alloc | apply Kd.R_drewN | apply Kd.R_drew)); exact HO_5.out⟩, ⟨by (with_reducible repeat (first | apply Kd.R_alloc | apply Kd.R_drewN | apply Kd.R_drew)); exact HO_6.out⟩, ⟨by repeat (first | (with_reducible first | exact HB.out | apply below_alloc | apply pw_below_drewN | apply below_drew1) | exact HB.out)⟩⟩
        ·rw [if_neg c9] at H
         have c9b0 : ((rd l1 x21_1) == 46) = false := beq_eq_false_iff_ne.mpr c9
         have c9b1 : ((rd l1 x21_1) != 46) = true := bne_iff_ne.mpr c9
         (first | rw [c9b0] | (simp only [i64_w, i32_w]; rw [c9b0]) | skip)
         have H' := Aside0.mk H
         clear H
         go_wp2
         go_meet
         case rel => exact ⟨_, (false), (by first | rfl | (simp; done) | (simp [*]; done)), H', ⟨by have := HK1.out; first | omega | exact Nat.le_refl _⟩, ⟨by (with_reducible repeat (first | apply Kd.R_alloc | apply Kd.R_drewN | apply Kd.R_drew)); exact HO_5.out⟩, ⟨by (with_reducible repeat (first | apply Kd.R_alloc | apply Kd.R_drewN | apply Kd.R_drew)); exact HO_6.out⟩, ⟨by repeat (first | (with_reducible first | exact HB.out | apply below_alloc | apply pw_below_drewN | apply below_drew1) | exact HB.out)⟩⟩
       case rest =>
        clear HC8
        obtain ⟨kq, x26_7, rfl, HA, HJ7, HO_5, HO_6, HB⟩ := hcut
        cases kq with
        | zero => exact absurd HA.out (by simp [hyphen_Set_pattern.j1])
        | succ kj7 =>
         have H := HA.out
         clear HA
         simp only [hyphen_Set_pattern.j1] at H
         by_cases c11 : x26_7 = true
         ·subst c11
          have H1 : (if x5_1.length < 17592186044416 then (hyphen_Set_pattern.l0 kj7 l1 (x5_1 ++ [(rd l1 x21_1)]) x6_1 x7_1 x8_1 l1 (l1.length : Int) (wrap64 (x21_1 + 1))) else (none)) = some r := by rw [if_pos rfl] at H; exact H
          clear H
          have H := H1
          clear H1
          by_cases c12 : x5_1.length < 17592186044416
          ·rw [if_pos c12] at H
           have LMc12 := Aside0.mk c12
           clear c12
           obtain ⟨y117, hy117⟩ : ∃ y_ : List Int, y_ = (x5_1 ++ [(rd l1 x21_1)]) := ⟨_, rfl⟩
           replace H : (hyphen_Set_pattern.l0 kj7 l1 y117 x6_1 x7_1 x8_1 l1 (l1.length : Int) (wrap64 (x21_1 + 1))) = some r := by first | (rw [hy117]; with_reducible exact H) | (have H2_ := (Option.bind_some _ _).symm.trans H; rw [hy117]; with_reducible exact H2_) | (have H2_ := (Option.bind_some _ _).symm.trans H; with_reducible exact H2_) | with_reducible exact H | (rw [hy117]; exact H) | exact H
           have Ny117 := Aside0.mk hy117
           clear hy117
           have H' := Aside0.mk H
           clear H
           go_wp2_with (first | ((with_reducible refine gate_builtin (b := .append) (xs := #[.tmp 40, .tmp 42]) rfl ?_); (try (refine gate_guard (by rfl) ?_; dsimp only)); at_builtin; refine Kd.R_append (Kd.int .i64) (w0 := w) w.heap.size rfl (.tmp 40) (.tmp 42) 22 3 (.int .i64 0) 8 rfl Tryd.underlying22 info3 rfl (by decide) (by omega) u5 x5_1 (rd l1 x21_1) [.int .i64 (rd l1 x21_1)] (fun k_ => some k_ ≠ (u6 : Value).ownBlock) (fun _ => False) rfl rfl ?aP (fun _ hk => hk.elim) ?aF ?aO ?aB ?aS ?aL ?_; (case aP => exact rfl); (case aB => exact (by repeat (first | (with_reducible first | exact HB.out | apply below_alloc | apply pw_below_drewN | apply below_drew1) | exact HB.out))); (case aF => exact (fun k_ hk => Kd.fresh' (Kd.R_lt (by (with_reducible repeat (first | apply Kd.R_alloc | apply Kd.R_drewN | apply Kd.R_drew)); exact HO_6.out)) k_ hk)); (case aO => exact (by (with_reducible repeat (first | apply Kd.R_alloc | apply Kd.R_drewN | apply Kd.R_drew)); exact HO_5.out)); (case aS => exact (below_size (by repeat (first | (with_reducible first | exact HB.out | apply below_alloc | apply pw_below_drewN | apply below_drew1) | exact HB.out)))); (case aL => have := LMc12.out; omega); intro v118 w13 ho hb hg hat; rw [← Ny117.out] at ho; have n0_ := Aside0.mk (Kd.R_after (ok := (fun _ => True)) (by (with_reducible repeat (first | apply Kd.R_alloc | apply Kd.R_drewN | apply Kd.R_drew)); exact Kd.R_mono HO_6.out (fun _ hk => ⟨trivial, hk⟩)) hg hat); have n1_ := Aside0.mk (hb); have n2_ := Aside0.mk (ho); clear HO_6; clear HB; clear HO_5; have HO_6 := n0_; have HB := n1_; have HO119 := n2_; clear n0_ n1_ n2_; clear ho hb hg hat))
           go_roundg kj7
           case measure => have := HK1.out; have := HJ7.out; omega
           case rel => exact ⟨(y117), (x6_1), (x7_1), (x8_1), (wrap64 (x21_1 + 1)), (by first | rfl | (simp; done) | (simp [*]; done)), (by first | rfl | (simp; done) | (simp [*]; done)), (by first | rfl | (simp; done) | (simp [*]; done)), H', ⟨by have := HK1.out; have := HJ7.out; omega⟩, ⟨by (with_reducible repeat (first | apply Kd.R_alloc | apply Kd.R_drewN | apply Kd.R_drew)); exact HO119.out⟩, ⟨by (with_reducible repeat (first | apply Kd.R_alloc | apply Kd.R_drewN | apply Kd.R_drew)); exact Kd.R_mono HO_6.out (fun _ hk => hk.2)⟩, ⟨by repeat (first | (with_reducible first | exact HB.out | apply below_alloc | apply pw_below_drewN | apply below_drew1) | exact HB.out)⟩⟩
          ·rw [if_neg c12] at H
           exact absurd H (by simp)
         ·replace c11 := Bool.eq_false_iff.mpr c11
          subst c11
          have H1 : (if 48 ≤ (rd l1 x21_1) then (if (rd l1 x21_1) ≤ 57 then (hyphen_Set_pattern.j2 kj7 l1 x5_1 x6_1 x7_1 (rd l1 x21_1) l1 (l1.length : Int) x21_1 (!x8_1)) else (hyphen_Set_pattern.j2 kj7 l1 x5_1 x6_1 x7_1 (rd l1 x21_1) l1 (l1.length : Int) x21_1 false)) else (hyphen_Set_pattern.j2 kj7 l1 x5_1 x6_1 x7_1 (rd l1 x21_1) l1 (l1.length : Int) x21_1 false)) = some r := by rw [if_neg (show ¬ (false = true) by decide)] at H; exact H
          clear H
          have H := H1
          clear H1
          have HC14 := Aside0.mk H
          clear H
          go_upto_region 10 with (fail)
          go_cut [44] (fun v44 wc => ∃ (kq : Nat) (x44_13 : Bool), v44 = .bool x44_13 ∧ Aside0 (hyphen_Set_pattern.j2 kq l1 x5_1 x6_1 x7_1 (rd l1 x21_1) l1 (l1.length : Int) x21_1 x44_13 = some r) ∧ Aside0 (kq ≤ kj7) ∧ Aside0 (Kd.R (Kd.int .i64) 3 wc w.heap.size (fun k_ => some k_ ≠ (u6 : Value).ownBlock) u5 x5_1) ∧ Aside0 (Kd.R (Kd.int .i64) 3 wc w.heap.size (fun k_ => some k_ ≠ (u5 : Value).ownBlock) u6 x6_1) ∧ Aside0 (Below w.heap.size w wc))
          case first =>
           have H := HC14.out
           clear HC14
           by_cases c15 : 48 ≤ (rd l1 x21_1)
           ·rw [if_pos c15] at H
            have c15b0 : decide (48 ≤ (rd l1 x21_1)) = true := decide_eq_true c15
            clear c15
            (first | rw [c15b0] | (simp only [i64_w, i32_w]; rw [c15b0]) | skip)
            by_cases c16 : (rd l1 x21_1) ≤ 57
            ·rw [if_pos c16] at H
             have c16b0 : decide ((rd l1 x21_1) ≤ 57) = true := decide_eq_true c16
             clear c16
             have H' := Aside0.mk H
             clear H
             go_wp2
             go_meet
             case rel => exact ⟨_, (!x8_1), (by first | rfl | (simp; done) | (simp [*]; done)), H', ⟨by have := HK1.out; have := HJ7.out; first | omega | exact Nat.le_refl _⟩, ⟨by (with_reducible repeat (first | apply Kd.R_alloc | apply Kd.R_drewN | apply Kd.R_drew)); exact HO_5.out⟩, ⟨by (with_reducible repeat (first | apply Kd.R_alloc | apply Kd.R_drewN | apply Kd.R_drew)); exact HO_6.out⟩, ⟨by repeat (first | (with_reducible first | exact HB.out | apply below_alloc | apply pw_below_drewN | apply below_drew1) | exact HB.out)⟩⟩
            ·rw [if_neg c16] at H
             have c16b0 : decide ((rd l1 x21_1) ≤ 57) = false := decide_eq_false c16
             clear c16
             have H' := Aside0.mk H
             clear H
             go_wp2
             go_meet
             case rel => exact ⟨_, (false), (by first | rfl | (simp; done) | (simp [*]; done)), H', ⟨by have := HK1.out; have := HJ7.out; first | omega | exact Nat.le_refl _⟩, ⟨by (with_reducible repeat (first | apply Kd.R_alloc | apply Kd.R_drewN | apply Kd.R_drew)); exact HO_5.out⟩, ⟨by (with_reducible repeat (first | apply Kd.R_alloc | apply Kd.R_drewN | apply Kd.R_drew)); exact HO_6.out⟩, ⟨by repeat (first | (with_reducible first | exact HB.out | apply below_alloc | apply pw_below_drewN | apply below_drew1) | exact HB.out)⟩⟩
           ·rw [if_neg c15] at H
            have c15b0 : decide (48 ≤ (rd l1 x21_1)) = false := decide_eq_false c15
            clear c15
            (first | rw [c15b0] | (simp only [i64_w, i32_w]; rw [c15b0]) | skip)
            have H' := Aside0.mk H
            clear H
            go_wp2
            go_meet
            case rel => exact ⟨_, (false), (by first | rfl | (simp; done) | (simp [*]; done)), H', ⟨by have := HK1.out; have := HJ7.out; first | omega | exact Nat.le_refl _⟩, ⟨by (with_reducible repeat (first | apply Kd.R_alloc | apply Kd.R_drewN | apply Kd.R_drew)); exact HO_5.out⟩, ⟨by (with_reducible repeat (first | apply Kd.R_alloc | apply Kd.R_drewN | apply Kd.R_drew)); exact HO_6.out⟩, ⟨by repeat (first | (with_reducible first | exact HB.out | apply below_alloc | apply pw_below_drewN | apply below_drew1) | exact HB.out)⟩⟩
          case rest =>
           clear HC14
           obtain ⟨kq, x44_13, rfl, HA, HJ13, HO_5, HO_6, HB⟩ := hcut
           cases kq with
           | zero => exact absurd HA.out (by simp [hyphen_Set_pattern.j2])
           | succ kj13 =>
            have H := HA.out
            clear HA
            simp only [hyphen_Set_pattern.j2] at H
            by_cases c17 : x44_13 = true
            ·subst c17
             have H1 : (if 0 ≤ x7_1 then (if x7_1 < (x6_1.length : Int) then (hyphen_Set_pattern.l0 kj13 l1 x5_1 (x6_1.set (x7_1 : Int).toNat (wrap64 ((rd l1 x21_1) - 48))) x7_1 true l1 (l1.length : Int) (wrap64 (x21_1 + 1))) else (none)) else (none)) = some r := by rw [if_pos rfl] at H; exact H
             clear H
             have H := H1
             clear H1
             by_cases c18 : 0 ≤ x7_1
             ·rw [if_pos c18] at H
              have c18b0 : decide (0 ≤ x7_1) = true := decide_eq_true c18
              clear c18
              by_cases c19 : x7_1 < (x6_1.length : Int)
              ·rw [if_pos c19] at H
               have c19b0 : decide (x7_1 < (x6_1.length : Int)) = true := decide_eq_true c19
               clear c19
               obtain ⟨y120, hy120⟩ : ∃ y_ : List Int, y_ = (x6_1.set (x7_1 : Int).toNat (wrap64 ((rd l1 x21_1) - 48))) := ⟨_, rfl⟩
               replace H : (hyphen_Set_pattern.l0 kj13 l1 x5_1 y120 x7_1 true l1 (l1.length : Int) (wrap64 (x21_1 + 1))) = some r := by first | (rw [hy120]; with_reducible exact H) | (have H2_ := (Option.bind_some _ _).symm.trans H; rw [hy120]; with_reducible exact H2_) | (have H2_ := (Option.bind_some _ _).symm.trans H; with_reducible exact H2_) | with_reducible exact H | (rw [hy120]; exact H) | exact H
               have Ny120 := Aside0.mk hy120
               clear hy120
               have H' := Aside0.mk H
               clear H
               have p20 : 0 ≤ (x7_1 : Int) := of_decide_eq_true (by first | (with_reducible assumption) | assumption)
               have q20 : (x7_1 : Int) < ((x6_1.length : Int) : Int) := of_decide_eq_true (by first | (with_reducible assumption) | assumption)
               obtain ⟨go20, co20, eo20, gb20, gl20, cl20, HG20⟩ := Kd.R_form HO_6.out (by omega)
               (first | cases eo20 | (injection eo20 with ea_ en_ ec_; (first | subst ea_ | (injection ea_ with ea_; subst ea_)); subst ec_; clear en_))
               have GB20 := Aside0.mk gb20
               have GG20 := Aside0.mk HG20
               clear gb20 gl20 HG20
               obtain ⟨hx20_0, hf20_0⟩ := Kd.R_celln 0 HO_6.out (x7_1 : Int) p20 q20
               replace p20 := eq_true p20
               replace q20 := eq_true q20
               have HP21 := Kd.R_putg HO_6.out (x7_1 : Int) (wrap64 ((rd l1 x21_1) - 48))
               go_wp2_with (first | ((with_reducible refine gate_store (t := 3) (p := 59) rfl ?_); refine store_event (t := 3) (p := 59) (v := ?vo_w22) (w1 := (wc.setCell ⟨go20, (x7_1 : Int).toNat, none⟩ (.int .i64 (wrap64 ((rd l1 x21_1) - 48))))) ?hg ?ho ?hn ?hr ?_; (case ho => rfl); (case hg => rfl); (case hn => rfl); (case hr => first | (go_simp; done) | (go_simp; rfl)); intro w22 hw; have hg : wc.grownBy w22 (some go20) := (by rw [hw]; exact HP21.2); have hp_ : Kd.R (Kd.int .i64) 3 w22 w.heap.size (fun k_ => some k_ ≠ (u5 : Value).ownBlock) (.slice (some ⟨go20, 0, none⟩) x6_1.length co20) y120 := (by rw [hw, Ny120.out]; exact HP21.1); clear HP21; have n0_ := Aside0.mk (Kd.R_after (v := (.slice (some ⟨go20, 0, none⟩) x6_1.length co20)) (v1 := (.slice (some ⟨go20, 0, none⟩) x6_1.length co20)) (ok := (fun _ => True)) (by (with_reducible repeat (first | apply Kd.R_alloc | apply Kd.R_drewN | apply Kd.R_drew)); exact Kd.R_mono HO_5.out (fun _ hk => ⟨trivial, hk⟩)) hg (.inl rfl)); have n1_ := Aside0.mk (hp_); have n2_ := Aside0.mk ((by rw [hw]; exact below_set (HB.out) GB20.out : Below w.heap.size w w22)); clear HO_5; clear HO_6; clear HB; have HO_5 := n0_; have HO_6 := n1_; have HB := n2_; clear n0_ n1_ n2_; clear hg hw hp_))
               go_roundg kj13
               case measure => have := HK1.out; have := HJ7.out; have := HJ13.out; omega
               case rel => exact ⟨(x5_1), (y120), (x7_1), (true), (wrap64 (x21_1 + 1)), (by first | rfl | (simp; done) | (simp [*]; done)), (by first | rfl | (simp; done) | (simp [*]; done)), (by first | rfl | (simp; done) | (simp [*]; done)), H', ⟨by have := HK1.out; have := HJ7.out; have := HJ13.out; omega⟩, ⟨by (with_reducible repeat (first | apply Kd.R_alloc | apply Kd.R_drewN | apply Kd.R_drew)); exact Kd.R_mono HO_5.out (fun _ hk => hk.2)⟩, ⟨by (with_reducible repeat (first | apply Kd.R_alloc | apply Kd.R_drewN | apply Kd.R_drew)); exact HO_6.out⟩, ⟨by repeat (first | (with_reducible first | exact HB.out | apply below_alloc | apply pw_below_drewN | apply below_drew1) | exact HB.out)⟩⟩
              ·rw [if_neg c19] at H
               exact absurd H (by simp)
             ·rw [if_neg c18] at H
              exact absurd H (by simp)
            ·replace c17 := Bool.eq_false_iff.mpr c17
             subst c17
             have H1 : ((hyphen_letter.f kj13 (rd l1 x21_1)).bind fun t121 => (if t121 = true then (if x7_1 < 64 then (if x5_1.length < 17592186044416 then (if x6_1.length < 17592186044416 then (hyphen_Set_pattern.l0 kj13 l1 (x5_1 ++ [(rd l1 x21_1)]) (x6_1 ++ [0]) (wrap64 (x7_1 + 1)) false l1 (l1.length : Int) (wrap64 (x21_1 + 1))) else (none)) else (none)) else (some none)) else (some none))) = some r := by rw [if_neg (show ¬ (false = true) by decide)] at H; exact H
             clear H
             have H := H1
             clear H1
             replace H := Option.bind_eq_some_iff.mp H
             obtain ⟨t121, A230, H⟩ := H
             replace H : (if t121 = true then (if x7_1 < 64 then (if x5_1.length < 17592186044416 then (if x6_1.length < 17592186044416 then (hyphen_Set_pattern.l0 kj13 l1 (x5_1 ++ [(rd l1 x21_1)]) (x6_1 ++ [0]) (wrap64 (x7_1 + 1)) false l1 (l1.length : Int) (wrap64 (x21_1 + 1))) else (none)) else (none)) else (some none)) else (some none)) = some r := H
             have A23 := Aside0.mk A230
             clear A230
             by_cases c24 : t121 = true
             ·subst c24
              have H1 : (if x7_1 < 64 then (if x5_1.length < 17592186044416 then (if x6_1.length < 17592186044416 then (hyphen_Set_pattern.l0 kj13 l1 (x5_1 ++ [(rd l1 x21_1)]) (x6_1 ++ [0]) (wrap64 (x7_1 + 1)) false l1 (l1.length : Int) (wrap64 (x21_1 + 1))) else (none)) else (none)) else (some none)) = some r := by rw [if_pos rfl] at H; exact H
              clear H
              have H := H1
              clear H1
              by_cases c25 : x7_1 < 64
              ·rw [if_pos c25] at H
               have c25b0 : decide (x7_1 < 64) = true := decide_eq_true c25
               clear c25
               by_cases c26 : x5_1.length < 17592186044416
               ·rw [if_pos c26] at H
                have LMc26 := Aside0.mk c26
                clear c26
                obtain ⟨y122, hy122⟩ : ∃ y_ : List Int, y_ = (x5_1 ++ [(rd l1 x21_1)]) := ⟨_, rfl⟩
                replace H : (if x6_1.length < 17592186044416 then (hyphen_Set_pattern.l0 kj13 l1 y122 (x6_1 ++ [0]) (wrap64 (x7_1 + 1)) false l1 (l1.length : Int) (wrap64 (x21_1 + 1))) else (none)) = some r := by first | (rw [hy122]; with_reducible exact H) | (have H2_ := (Option.bind_some _ _).symm.trans H; rw [hy122]; with_reducible exact H2_) | (have H2_ := (Option.bind_some _ _).symm.trans H; with_reducible exact H2_) | with_reducible exact H | (rw [hy122]; exact H) | exact H
                have Ny122 := Aside0.mk hy122
                clear hy122
                by_cases c27 : x6_1.length < 17592186044416
                ·rw [if_pos c27] at H
                 have LMc27 := Aside0.mk c27
                 clear c27
                 obtain ⟨y125, hy125⟩ : ∃ y_ : List Int, y_ = (x6_1 ++ [0]) := ⟨_, rfl⟩
                 replace H : (hyphen_Set_pattern.l0 kj13 l1 y122 y125 (wrap64 (x7_1 + 1)) false l1 (l1.length : Int) (wrap64 (x21_1 + 1))) = some r := by first | (rw [hy125]; with_reducible exact H) | (have H2_ := (Option.bind_some _ _).symm.trans H; rw [hy125]; with_reducible exact H2_) | (have H2_ := (Option.bind_some _ _).symm.trans H; with_reducible exact H2_) | with_reducible exact H | (rw [hy125]; exact H) | exact H
                 have Ny125 := Aside0.mk hy125
                 clear hy125
                 have H' := Aside0.mk H
                 clear H
                 go_wp2_with (first | ((with_reducible refine gate_callee (f := 44) rfl ?_); refine goesL_ (some 62) rfl rfl Tryd.func44 (by kernel_rfl) rfl #[.int .i64 (rd l1 x21_1)] rfl (by (try simp only [List.map_toArray, List.map_cons, List.map_nil]); first | done | rfl | (simp only [List.length_drop, List.length_take]; rfl)) ?_; (with_reducible refine (hyphen_letter.calls kj13 (rd l1 x21_1) true _ A23.out).mono ?_); rintro e w' ⟨rfl, ⟨nd, rfl⟩⟩; refine ⟨_, rfl, ?_⟩) | ((with_reducible refine gate_builtin (b := .append) (xs := #[.tmp 67, .tmp 69]) rfl ?_); (try (refine gate_guard (by rfl) ?_; dsimp only)); at_builtin; refine Kd.R_append (Kd.int .i64) (w0 := w) w.heap.size rfl (.tmp 67) (.tmp 69) 22 3 (.int .i64 0) 8 rfl Tryd.underlying22 info3 rfl (by decide) (by omega) u5 x5_1 (rd l1 x21_1) [.int .i64 (rd l1 x21_1)] (fun k_ => some k_ ≠ (u6 : Value).ownBlock) (fun _ => False) rfl rfl ?aP (fun _ hk => hk.elim) ?aF ?aO ?aB ?aS ?aL ?_; (case aP => exact rfl); (case aB => exact (by repeat (first | (with_reducible first | exact HB.out | apply below_alloc | apply pw_below_drewN | apply below_drew1) | exact HB.out))); (case aF => exact (fun k_ hk => Kd.fresh' (Kd.R_lt (by (with_reducible repeat (first | apply Kd.R_alloc | apply Kd.R_drewN | apply Kd.R_drew)); exact HO_6.out)) k_ hk)); (case aO => exact (by (with_reducible repeat (first | apply Kd.R_alloc | apply Kd.R_drewN | apply Kd.R_drew)); exact HO_5.out)); (case aS => exact (below_size (by repeat (first | (with_reducible first | exact HB.out | apply below_alloc | apply pw_below_drewN | apply below_drew1) | exact HB.out)))); (case aL => have := LMc26.out; omega); intro v123 w28 ho hb hg hat; rw [← Ny122.out] at ho; have n0_ := Aside0.mk (Kd.R_after (ok := (fun _ => True)) (by (with_reducible repeat (first | apply Kd.R_alloc | apply Kd.R_drewN | apply Kd.R_drew)); exact Kd.R_mono HO_6.out (fun _ hk => ⟨trivial, hk⟩)) hg hat); have n1_ := Aside0.mk (hb); have n2_ := Aside0.mk (ho); clear HO_6; clear HB; clear HO_5; have HO_6 := n0_; have HB := n1_; have HO124 := n2_; clear n0_ n1_ n2_; clear ho hb hg hat) | ((with_reducible refine gate_builtin (b := .append) (xs := #[.tmp 71, .tmp 72]) rfl ?_); (try (refine gate_guard (by rfl) ?_; dsimp only)); at_builtin; refine Kd.R_append (Kd.int .i64) (w0 := w) w.heap.size rfl (.tmp 71) (.tmp 72) 22 3 (.int .i64 0) 8 rfl Tryd.underlying22 info3 rfl (by decide) (by omega) u6 x6_1 0 [.int .i64 0] (fun k_ => some k_ ≠ (v123 : Value).ownBlock) (fun _ => False) rfl rfl ?aP (fun _ hk => hk.elim) ?aF ?aO ?aB ?aS ?aL ?_; (case aP => exact rfl); (case aB => exact (by repeat (first | (with_reducible first | exact HB.out | apply below_alloc | apply pw_below_drewN | apply below_drew1) | exact HB.out))); (case aF => exact (fun k_ hk => Kd.fresh' (Kd.R_lt (by (with_reducible repeat (first | apply Kd.R_alloc | apply Kd.R_drewN | apply Kd.R_drew)); exact HO124.out)) k_ hk)); (case aO => exact (by (with_reducible repeat (first | apply Kd.R_alloc | apply Kd.R_drewN | apply Kd.R_drew)); exact Kd.R_mono HO_6.out (fun _ hk => hk.2))); (case aS => exact (below_size (by repeat (first | (with_reducible first | exact HB.out | apply below_alloc | apply pw_below_drewN | apply below_drew1) | exact HB.out)))); (case aL => have := LMc27.out; omega); intro v126 w29 ho hb hg hat; rw [← Ny125.out] at ho; have n0_ := Aside0.mk (Kd.R_after (ok := (fun _ => True)) (by (with_reducible repeat (first | apply Kd.R_alloc | apply Kd.R_drewN | apply Kd.R_drew)); exact Kd.R_mono HO124.out (fun _ hk => ⟨trivial, hk⟩)) hg hat); have n1_ := Aside0.mk (hb); have n2_ := Aside0.mk (ho); clear HO124; clear HB; clear HO_6; have HO124 := n0_; have HB := n1_; have HO127 := n2_; clear n0_ n1_ n2_; clear ho hb hg hat))
                 go_roundg kj13
                 case measure => have := HK1.out; have := HJ7.out; have := HJ13.out; omega
                 case rel => exact ⟨(y122), (y125), (wrap64 (x7_1 + 1)), (false), (wrap64 (x21_1 + 1)), (by first | rfl | (simp; done) | (simp [*]; done)), (by first | rfl | (simp; done) | (simp [*]; done)), (by first | rfl | (simp; done) | (simp [*]; done)), H', ⟨by have := HK1.out; have := HJ7.out; have := HJ13.out; omega⟩, ⟨by (with_reducible repeat (first | apply Kd.R_alloc | apply Kd.R_drewN | apply Kd.R_drew)); exact Kd.R_mono HO124.out (fun _ hk => hk.2)⟩, ⟨by (with_reducible repeat (first | apply Kd.R_alloc | apply Kd.R_drewN | apply Kd.R_drew)); exact HO127.out⟩, ⟨by repeat (first | (with_reducible first | exact HB.out | apply below_alloc | apply pw_below_drewN | apply below_drew1) | exact HB.out)⟩⟩
                ·rw [if_neg c27] at H
                 exact absurd H (by simp)
               ·rw [if_neg c26] at H
                exact absurd H (by simp)
              ·rw [if_neg c25] at H
               have c25b0 : decide (x7_1 < 64) = false := decide_eq_false c25
               clear c25
               obtain rfl := Option.some.inj H
               go_wp2_with (first | ((with_reducible refine gate_callee (f := 44) rfl ?_); refine goesL_ (some 62) rfl rfl Tryd.func44 (by kernel_rfl) rfl #[.int .i64 (rd l1 x21_1)] rfl (by (try simp only [List.map_toArray, List.map_cons, List.map_nil]); first | done | rfl | (simp only [List.length_drop, List.length_take]; rfl)) ?_; (with_reducible refine (hyphen_letter.calls kj13 (rd l1 x21_1) true _ A23.out).mono ?_); rintro e w' ⟨rfl, ⟨nd, rfl⟩⟩; refine ⟨_, rfl, ?_⟩))
               go_ret
               exact hyphen_Set_pattern.Post.no rfl (by repeat (first | (with_reducible first | exact HB.out | apply below_alloc | apply pw_below_drewN | apply below_drew1) | exact HB.out))
             ·replace c24 := Bool.eq_false_iff.mpr c24
              subst c24
              have H1 : (some none) = some r := by rw [if_neg (show ¬ (false = true) by decide)] at H; exact H
              clear H
              have H := H1
              clear H1
              obtain rfl := Option.some.inj H
              go_wp2_with (first | ((with_reducible refine gate_callee (f := 44) rfl ?_); refine goesL_ (some 62) rfl rfl Tryd.func44 (by kernel_rfl) rfl #[.int .i64 (rd l1 x21_1)] rfl (by (try simp only [List.map_toArray, List.map_cons, List.map_nil]); first | done | rfl | (simp only [List.length_drop, List.length_take]; rfl)) ?_; (with_reducible refine (hyphen_letter.calls kj13 (rd l1 x21_1) false _ A23.out).mono ?_); rintro e w' ⟨rfl, ⟨nd, rfl⟩⟩; refine ⟨_, rfl, ?_⟩))
              go_ret
              exact hyphen_Set_pattern.Post.no rfl (by repeat (first | (with_reducible first | exact HB.out | apply below_alloc | apply pw_below_drewN | apply below_drew1) | exact HB.out))
      ·rw [if_neg c7] at H
       exact absurd H (by simp)
     ·rw [if_neg c6] at H
      exact absurd H (by simp)
    ·rw [if_neg c5] at H
     have c5b0 : decide (x21_1 < (l1.length : Int)) = false := decide_eq_false c5
     clear c5
     obtain rfl := Option.some.inj H
     obtain ⟨A5, q5, rfl⟩ := Kd.R_slice HO_5.out
     obtain ⟨A6, q6, rfl⟩ := Kd.R_slice HO_6.out
     by_cases hn : x7_1 = 0
     ·subst hn
      go_wp2
      go_ret
      exact ⟨rfl, by repeat (first | (with_reducible first | exact HB.out | apply below_alloc | apply pw_below_drewN | apply below_drew1) | exact HB.out)⟩
     ·have hn0 : (x7_1 == 0) = false := beq_eq_false_iff_ne.mpr hn
      have HNZ := Aside0.mk hn
      clear hn
      have HTr := Aside0.mk (HT.out.below HB.out)
      have hS := HB.out.block _ (blk_lt HSB.out)
      rw [HSB.out] at hS
      have HSr := Aside0.mk hS
      have hs0 : wr.cell? ⟨Sb, 0, none⟩ = some (.pointer (some ⟨nb 0, 0, none⟩)) := (blk_cell hS 0).trans rfl
      have HFr := Aside0.mk (Trie.Fr.below (Trie.Own Sb ar nb mb qb) HB.out)
      clear hS
      have HRL := Aside0.mk (Trie.Rw.of HO_5.out)
      have HRV := Aside0.mk (Trie.Rw.of HO_6.out)
      have HQ := Aside0.mk (fun i nd L (hi : ar[i]? = some nd) (hl : nd.lv = some L) => blk_lt (HT.out.lev i nd L hi hl).2)
      have hbr : base ≤ wr.heap.size := Nat.le_trans hbase HB.out.size
      clear HO_5 HO_6 HB HT HSB
      go_wp2
      go_loopw [11, 85] (fun v11 v85 w' => ∃ (j i1 : Nat) (ar1 : List Trie.PN) (nb1 mb1 : Nat → Nat), v85 = .int .i64 (j : Int) ∧ v11 = .pointer (some ⟨nb1 i1, 0, none⟩) ∧ j ≤ x5_1.length ∧ i1 < ar1.length ∧ ar1.length ≤ ar.length + j ∧ base ≤ w'.heap.size ∧ Aside0 (Trie.walk ar1 i1 (x5_1.drop j) = Trie.walk ar 0 x5_1) ∧ Aside0 (Trie.Tr base w' ar1 nb1 mb1 qb) ∧ Aside0 (nb1 0 = nb 0) ∧ Aside0 (w'.heap[Sb]? = some (.cells #[.pointer (some ⟨nb 0, 0, none⟩), .int .i64 (ar1.length : Int), .map (some K)] 52 (0, 0))) ∧ Aside0 (Trie.Fr w (Trie.Own Sb ar nb mb qb) w' (Trie.Own Sb ar1 nb1 mb1 qb)) ∧ Aside0 (Trie.Rw w' w.heap.size A5 x5_1) ∧ Aside0 (Trie.Rw w' w.heap.size A6 x6_1) ∧ Aside0 (∀ i nd L, ar1[i]? = some nd → nd.lv = some L → qb i < w.heap.size))
       (fun _ v85 _ => x5_1.length - (intOf v85).toNat)
      case atStart => exact ⟨0, 0, ar, nb, mb, rfl, rfl, Nat.zero_le _, har.1, Nat.le_refl _, hbr, ⟨by rw [List.drop_zero]⟩, HTr, ⟨rfl⟩, HSr, HFr, HRL, HRV, HQ⟩
      case round =>
       clear HTr HSr HFr HRL HRV HQ hs0 hbr
       obtain ⟨j, i1, ar1, nb1, mb1, rfl, rfl, hj, hi1, hal, hbr, HW, HTr, HN0, HSr, HFr, HRL, HRV, HQ⟩ := hrel
       by_cases hlt : j < x5_1.length
       ·have kc1 : ((j : Int) < (x5_1.length : Int)) = True := eq_true (by omega)
        have kc2 : (j < x5_1.length) = True := eq_true hlt
        have kc3 : ((0 : Int) ≤ (j : Int)) = True := eq_true (by omega)
        have kc6 : IntKind.i64.wrap ((j : Int) + 1) = (j : Int) + 1 := by rw [IntKind.wrap_i64]; have := (HR.out _ _ _ rfl).2.2.2.2.1; omega
        obtain ⟨g5, rfl, hx5⟩ := HRL.out.cell j hlt
        obtain ⟨nd, hnd⟩ : ∃ nd, ar1[i1]? = some nd := ⟨_, List.getElem?_eq_getElem hi1⟩
        have hwf : (Lit.int .i64 (rd x5_1 (j : Int))).wf = true := (HR.out _ _ _ rfl).1 _ (by
         show x5_1.getD (j : Int).toNat 0 ∈ x5_1
         simp [List.getD_eq_getElem?_getD, hlt])
        have hkey := Maps.keyOf_int_mk (P := Tryd.prog) (k := 3) Tryd.underlying3 hwf
        have hmn := fun (W : World) (m : Option Nat) => run_eql_map_nil (P := Tryd.prog) W 47 3 46 m Tryd.underlying47
        have hmm := @run_makeMap Tryd.prog
        have hN := HTr.out.node i1 nd hnd
        have e9 : x5_1[j] = rd x5_1 (j : Int) := by show _ = x5_1.getD (j : Int).toNat 0; simp [List.getD_eq_getElem?_getD, hlt]
        have HW1 : Aside0 (Trie.walk (Trie.down ar1 i1 (rd x5_1 (j : Int))).1 (Trie.down ar1 i1 (rd x5_1 (j : Int))).2 (x5_1.drop (j + 1)) = Trie.walk ar 0 x5_1) := ⟨by
         have h9 := HW.out
         rw [List.drop_eq_getElem_cons hlt, Trie.walk, e9] at h9
         exact h9⟩
        clear e9 HW
        have hkv : ∃ mo, Trie.kv nd.kids (mb1 i1) = .map mo := by cases nd.kids <;> exact ⟨_, rfl⟩
        obtain ⟨mo, hmo⟩ := hkv
        rw [hmo] at hN
        have hk0 : wr.cell? ⟨nb1 i1, 0, none⟩ = some (.map mo) := (blk_cell hN 0).trans rfl
        have hkf := fun o => blk_frozen ((Below.heap_alloc wr o _ (blk_lt hN)).trans hN) 0
        have hka : ∀ o, (wr.alloc o).cell? ⟨nb1 i1, 0, none⟩ = some (.map mo) := fun o => (blk_cell ((Below.heap_alloc wr o _ (blk_lt hN)).trans hN) 0).trans rfl
        go_upto_if 93 with (fail)
        go_cut [13] (fun v13 wc => v13 = .int .i64 (rd x5_1 (j : Int)) ∧ ∃ (ar2 : List Trie.PN) (mb2 : Nat → Nat) (nd2 : Trie.PN) (l2 : List (Int × Nat)), ar2.length = ar1.length ∧ ar2[i1]? = some nd2 ∧ nd2.kids = some l2 ∧ base ≤ wc.heap.size ∧ Aside0 (Trie.down ar2 i1 (rd x5_1 (j : Int)) = Trie.down ar1 i1 (rd x5_1 (j : Int))) ∧ Aside0 (Trie.Tr base wc ar2 nb1 mb2 qb) ∧ Aside0 (wc.heap[Sb]? = some (.cells #[.pointer (some ⟨nb 0, 0, none⟩), .int .i64 (ar1.length : Int), .map (some K)] 52 (0, 0))) ∧ Aside0 (Trie.Fr w (Trie.Own Sb ar nb mb qb) wc (Trie.Own Sb ar2 nb1 mb2 qb)) ∧ Aside0 (Trie.Rw wc w.heap.size (some ⟨g5, 0, none⟩) x5_1) ∧ Aside0 (Trie.Rw wc w.heap.size A6 x6_1) ∧ Aside0 (∀ i nd L, ar2[i]? = some nd → nd.lv = some L → qb i < w.heap.size))
        case first =>
         cases hkd : nd.kids with
         | none =>
          rw [hkd] at hmo
          injection hmo with hmo
          subst hmo
          go_wp2
          go_meet
          exact ⟨rfl, ar1.set i1 ⟨some [], nd.lv⟩, Trie.setf mb1 i1 wr.heap.size, ⟨some [], nd.lv⟩, [], List.length_set, by rw [List.getElem?_set_self hi1], rfl, by simp; omega, ⟨Trie.down_open hnd hkd _⟩, ⟨HTr.out.opened hnd hkd hbr⟩, ⟨blk_far ((Below.heap_alloc wr _ _ (blk_lt HSr.out)).trans HSr.out) (blk_ne HSr.out hN (by decide)) _⟩, ⟨HFr.out.trans (Trie.Fr.opened Sb hnd hkd)⟩,
           ⟨HRL.out.kept (fun g cells _ hg => (Below.heap_setCell _ _ _ _ (blk_ne hg hN (by decide))).trans (Below.heap_alloc wr _ _ (blk_lt hg)))⟩, ⟨HRV.out.kept (fun g cells _ hg => (Below.heap_setCell _ _ _ _ (blk_ne hg hN (by decide))).trans (Below.heap_alloc wr _ _ (blk_lt hg)))⟩,
           ⟨fun i nd' L hi hl => by obtain ⟨z, hz, hzl⟩ := Trie.set_lv hnd (by rfl) hi hl; exact HQ.out _ _ _ hz hzl⟩⟩
         | some l =>
          rw [hkd] at hmo
          injection hmo with hmo
          subst hmo
          go_wp2
          go_meet
          exact ⟨rfl, ar1, mb1, nd, l, rfl, hnd, hkd, hbr, ⟨rfl⟩, HTr, HSr, HFr, HRL, HRV, HQ⟩
        case rest =>
         clear HTr HSr HFr HRL HRV HQ hN hk0 hkf hka hmo mo hnd nd hx5 hbr hmn hmm
         obtain ⟨rfl, ar2, mb2, nd, l, hl2, hnd, hkd, hbr, HD, HTr, HSr, HFr, HRL, HRV, HQ⟩ := hcut
         obtain ⟨m1, m2, m3⟩ := HTr.out.kids i1 nd l hnd hkd
         have hN := HTr.out.node i1 nd hnd
         rw [hkd] at hN
         have hk0 : wc.cell? ⟨nb1 i1, 0, none⟩ = some (.map (some (mb2 i1))) := (blk_cell hN 0).trans rfl
         have hlk := YtenhfmlkdcfbbaaDoorV.MapV.look m2 (t := 47) (e := 46) (Maps.int_keyed Tryd.underlying3) Tryd.underlying47 (z := .pointer none) (by kernel_rfl) (rd x5_1 (j : Int)) hkey
         cases hkg : Trie.kget l (rd x5_1 (j : Int)) with
         | some q =>
          have hv : YtenhfmlkdcfbbaaDoorV.vget (Trie.kl nb1 l) (rd x5_1 (j : Int)) (.pointer none) = .pointer (some ⟨nb1 q, 0, none⟩) := by rw [Trie.vget_kl, hkg]
          rw [hv] at hlk
          have hlk' : (Instr.lookup 47 (.map (some (mb2 i1))) (.int .i64 (rd x5_1 (j : Int))) false).run Tryd.prog wc = .ok (.pointer (some ⟨nb1 q, 0, none⟩)) wc := hlk
          clear hlk hv
          go_wp2
          go_roundw
          case rel => exact ⟨j + 1, q, ar2, nb1, mb2, by simp, rfl, by omega, m3.1 _ (Trie.kget_mem hkg), by omega, hbr, ⟨by
           have h9 := HW1.out
           rw [← HD.out, Trie.down_old hnd hkd hkg] at h9
           exact h9⟩, HTr, HN0, ⟨by rw [hl2]; exact HSr.out⟩, HFr, HRL, HRV, HQ⟩
          case measure => (try simp [intOf]); omega
         | none =>
          have hv : YtenhfmlkdcfbbaaDoorV.vget (Trie.kl nb1 l) (rd x5_1 (j : Int)) (.pointer none) = .pointer none := by rw [Trie.vget_kl, hkg]
          rw [hv] at hlk
          have hlk' : (Instr.lookup 47 (.map (some (mb2 i1))) (.int .i64 (rd x5_1 (j : Int))) false).run Tryd.prog wc = .ok (.pointer none) wc := hlk
          clear hlk hv
          obtain ⟨oN, hoN⟩ : ∃ o : Obj, o = .cells #[.map none, .slice none 0 0] 49 (0, 0) := ⟨_, rfl⟩
          obtain ⟨w1, hmu, hm1, hg1⟩ := YtenhfmlkdcfbbaaDoorV.MapV.put (m2.of_eq (w1 := wc.alloc (.cells #[.map none, .slice none 0 0] 49)) (Below.heap_alloc wc _ _ m2.lt)) (t := 47) (e := 46) (Maps.int_keyed Tryd.underlying3) Tryd.underlying47 (by have := m3.2; have := (HR.out _ _ _ rfl).2.2.2.2.1; show (List.map _ l).length < 9223372036854775807; rw [List.length_map]; omega) (rd x5_1 (j : Int)) (.pointer (some ⟨wc.heap.size, 0, none⟩)) hkey
          have hmu' : (Instr.mapUpdate 47 (.map (some (mb2 i1))) (.int .i64 (rd x5_1 (j : Int))) (.pointer (some ⟨wc.heap.size, 0, none⟩))).run Tryd.prog (wc.alloc (.cells #[.map none, .slice none 0 0] 49)) = .ok () w1 := hmu
          clear hmu
          have hmbS : some Sb ≠ some (mb2 i1) := fun e => by injection e with e; exact m2.ne HSr.out e.symm
          have hS1 : w1.heap[Sb]? = _ := blk_grown ((Below.heap_alloc wc _ _ (blk_lt HSr.out)).trans HSr.out) hg1 hmbS
          have hN1 : w1.heap[nb1 i1]? = _ := blk_grown ((Below.heap_alloc wc _ _ (blk_lt hN)).trans hN) hg1 (fun e => by injection e with e; exact m2.ne hN e.symm)
          have hs1 : w1.cell? ⟨Sb, 1, none⟩ = some (.int .i64 (ar1.length : Int)) := (blk_cell hS1 1).trans rfl
          have hf1 := blk_frozen hS1 1
          have hk1 : w1.cell? ⟨nb1 i1, 0, none⟩ = some (.map (some (mb2 i1))) := (blk_cell hN1 0).trans rfl
          have hne1 : nb1 i1 ≠ Sb := blk_ne hN HSr.out (by decide)
          have hne2 : Sb ≠ nb1 i1 := fun e => hne1 e.symm
          have kc7 : IntKind.i64.wrap ((ar1.length : Int) + 1) = (ar1.length : Int) + 1 := by rw [IntKind.wrap_i64]; have := (HR.out _ _ _ rfl).2.2.2.2.1; omega
          have hlk2 : (Instr.lookup 47 (.map (some (mb2 i1))) (.int .i64 (rd x5_1 (j : Int))) false).run Tryd.prog (w1.setCell ⟨Sb, 1, none⟩ (.int .i64 ((ar1.length : Int) + 1))) = .ok (.pointer (some ⟨wc.heap.size, 0, none⟩)) (w1.setCell ⟨Sb, 1, none⟩ (.int .i64 ((ar1.length : Int) + 1))) := by
           have := YtenhfmlkdcfbbaaDoorV.MapV.look (hm1.of_eq (w1 := w1.setCell ⟨Sb, 1, none⟩ (.int .i64 ((ar1.length : Int) + 1))) (Below.heap_setCell _ _ _ _ (hm1.ne hS1))) (t := 47) (e := 46) (Maps.int_keyed Tryd.underlying3) Tryd.underlying47 (z := .pointer none) (by kernel_rfl) (rd x5_1 (j : Int)) hkey
           rw [YtenhfmlkdcfbbaaDoorV.vget, if_pos rfl] at this
           exact this
          have HG1 := Aside0.mk hg1
          have HM1 := Aside0.mk hm1
          have HS1 := Aside0.mk hS1
          clear hg1 hm1 hS1 hN1 hmbS
          go_wp2
          go_roundw
          case rel =>
           have hTc := HTr.out.child hnd hkd (rd x5_1 (j : Int)) hbr HM1.out HG1.out
           have hq1 : ∀ i nd' L, (ar2.set i1 ⟨some ((rd x5_1 (j : Int), ar2.length) :: l), nd.lv⟩ ++ [Trie.PN.z])[i]? = some nd' → nd'.lv = some L → qb i ≠ Sb := fun i nd' L hi hl => blk_ne (hTc.lev i nd' L hi hl).2 HS1.out (by decide)
           have krow : ∀ {A : Option Addr} {xs : List Int}, Trie.Rw wc w.heap.size A xs → Trie.Rw (w1.setCell ⟨Sb, 1, none⟩ (.int .i64 ((ar1.length : Int) + 1))) w.heap.size A xs := fun h => h.kept (fun g cells _ hg => by
            have h1 : w1.heap[g]? = _ := blk_grown ((Below.heap_alloc wc _ _ (blk_lt hg)).trans hg) HG1.out (fun e => by injection e with e; exact m2.ne hg e.symm)
            exact (Below.heap_setCell _ _ _ _ (blk_ne h1 HS1.out (by decide))).trans (h1.trans hg.symm))
           refine ⟨j + 1, ar2.length, ar2.set i1 ⟨some ((rd x5_1 (j : Int), ar2.length) :: l), nd.lv⟩ ++ [Trie.PN.z], Trie.setf nb1 ar2.length wc.heap.size, mb2, by simp, by rw [Trie.setf_same], by omega, by simp, by simp; omega, ?_, ⟨?_⟩, ⟨hTc.far HS1.out (by decide) hq1 1 _⟩, ⟨?_⟩, ⟨?_⟩, ⟨(HFr.out.trans (Trie.Fr.child Sb hnd hkd _ _ HG1.out)).trans (Trie.Fr.count Sb _ (.inl rfl) 1 _)⟩, ⟨krow HRL.out⟩, ⟨krow HRV.out⟩, ⟨fun i nd' L hi hl => ?_⟩⟩
           ·have := HG1.out.size
            simp at this ⊢
            omega
           ·have h9 := HW1.out
            rw [← HD.out, Trie.down_new hnd hkd hkg] at h9
            exact h9
           ·rw [Trie.setf_other _ (by omega)]
            exact HN0.out
           ·have := blk_put HS1.out 1 (.int .i64 ((ar1.length : Int) + 1)) rfl
            rw [this]
            simp [hl2]
           ·rcases Trie.get_app hi with ⟨_, hi⟩ | ⟨_, rfl⟩
            ·obtain ⟨z, hz, hzl⟩ := Trie.set_lv hnd (by rfl) hi hl
             exact HQ.out _ _ _ hz hzl
            ·cases hl
          case measure => (try simp [intOf]); omega
       ·obtain rfl : j = x5_1.length := by omega
        have kc1 : ((x5_1.length : Int) < (x5_1.length : Int)) = False := eq_false (by omega)
        have kc2 : (x5_1.length < x5_1.length) = False := eq_false (by omega)
        have hw : (ar1, i1) = Trie.walk ar 0 x5_1 := by have h9 := HW.out; rw [List.drop_eq_nil_of_le (Nat.le_refl _), Trie.walk] at h9; exact h9
        have HW2 := Aside0.mk hw
        clear hw HW
        obtain ⟨nd, hnd⟩ : ∃ nd, ar1[i1]? = some nd := ⟨_, List.getElem?_eq_getElem hi1⟩
        have hN := HTr.out.node i1 nd hnd
        have hvv : ∃ va vn vc, Trie.lv nd.lv (qb i1) = .slice va vn vc := by cases nd.lv <;> exact ⟨_, _, _, rfl⟩
        obtain ⟨va, vn, vc, hvl⟩ := hvv
        rw [hvl] at hN
        have hk1 : wr.cell? ⟨nb1 i1, 1, none⟩ = some (.slice va vn vc) := (blk_cell hN 1).trans rfl
        have hkf := fun o => blk_frozen ((Below.heap_alloc wr o _ (blk_lt hN)).trans hN) 1
        have hka : ∀ o, (wr.alloc o).cell? ⟨nb1 i1, 1, none⟩ = some (.slice va vn vc) := fun o => (blk_cell ((Below.heap_alloc wr o _ (blk_lt hN)).trans hN) 1).trans rfl
        have hsn := fun (W : World) (a : Option Addr) (n c : Nat) => Lib.run_eql_slice_nil (P := Tryd.prog) W 22 3 a n c 0 0 Tryd.underlying22
        have HN := Aside0.mk hN
        clear hN
        go_upto_if 130 with (fail)
        go_cut [11] (fun v11 wc => v11 = .pointer (some ⟨nb1 i1, 0, none⟩) ∧ ∃ (ar2 : List Trie.PN) (qb2 : Nat → Nat) (L : List Int), Aside0 (ar2 = ar1.set i1 ⟨nd.kids, some L⟩) ∧ Aside0 (L = (nd.lv).getD (List.replicate (x7_1 + 1).toNat 0)) ∧ L.length = x6_1.length ∧ Aside0 (Trie.Tr base wc ar2 nb1 mb1 qb2) ∧ Aside0 (wc.heap[Sb]? = some (.cells #[.pointer (some ⟨nb 0, 0, none⟩), .int .i64 (ar1.length : Int), .map (some K)] 52 (0, 0))) ∧ Aside0 (Trie.Fr w (Trie.Own Sb ar nb mb qb) wc (Trie.Own Sb ar2 nb1 mb1 qb2)) ∧ Aside0 (Trie.Rw wc w.heap.size A6 x6_1) ∧ Aside0 (∀ g cells, w.heap.size ≤ g → A6 = some ⟨g, 0, none⟩ → wc.heap[g]? = some (.cells cells 3 (0, 0)) → qb2 i1 ≠ g))
        case first =>
         obtain ⟨hl6, hx7, hx7b, _⟩ := (HR.out _ _ _ rfl).2
         have hkw : IntKind.i64.wrap (x7_1 + 1) = x7_1 + 1 := by rw [IntKind.wrap_i64]; omega
         have hmk : ∀ w : World, (Instr.makeSlice 22 (.int .i64 (x7_1 + 1)) (.int .i64 (x7_1 + 1))).run Tryd.prog w = .ok (.slice (some ⟨w.heap.size, 0, none⟩) x6_1.length x6_1.length) (w.alloc (.cells ((List.replicate (x7_1 + 1).toNat (0 : Int)).map (Value.int .i64)).toArray 3)) := by
          intro w
          obtain ⟨i, hi, he⟩ := Option.map_eq_some_iff.1 info3
          simp only [Prod.mk.injEq] at he
          obtain ⟨e1, e2, e3⟩ := he
          have := run_make (P := Tryd.prog) w 22 3 i (.int .i64 0) Tryd.underlying22 hi e1 .i64 .i64 (x7_1 + 1) (x7_1 + 1) (by omega) (by omega) (by rw [e3]; omega) (by omega)
          rw [this, e2, Trie.made_zeros]
          have e4 : (x7_1 + 1).toNat = x6_1.length := by omega
          rw [e4]
         have hN := HN.out
         cases hlv : nd.lv with
         | none =>
          rw [hlv] at hvl
          injection hvl with hv1 hv2 hv3
          subst hv1 hv2 hv3
          go_wp2
          go_meet
          have hlr : (List.replicate (x7_1 + 1).toNat (0 : Int)).length = x6_1.length := by rw [List.length_replicate]; omega
          have eZ : (List.map (Value.int .i64) (List.replicate (x7_1 + 1).toNat (0 : Int))).toArray = Array.replicate (x7_1 + 1).toNat (.int .i64 0) := by simp
          have hTl := HTr.out.level hnd hlv hbr _ hlr
          rw [eZ] at hTl
          refine ⟨rfl, _, Trie.setf qb i1 wr.heap.size, List.replicate (x7_1 + 1).toNat 0, ⟨rfl⟩, ⟨by rw [hlv]; rfl⟩, hlr, ⟨hTl⟩, ⟨blk_far ((Below.heap_alloc wr _ _ (blk_lt HSr.out)).trans HSr.out) (blk_ne HSr.out hN (by decide)) _⟩, ⟨HFr.out.trans (Trie.Fr.level Sb hnd _ _ _)⟩,
           ⟨HRV.out.kept (fun g cells _ hg => (Below.heap_setCell _ _ _ _ (blk_ne hg hN (by decide))).trans (Below.heap_alloc wr _ _ (blk_lt hg)))⟩, ⟨fun g cells _ hA hg => ?_⟩⟩
          rw [Trie.setf_same]
          rcases HRV.out with h9 | ⟨g', cells', h1, h2, h3, h4⟩
          ·rw [h9] at hlr
           simp at hlr
           omega
          ·rw [h1] at hA
           injection hA with hA
           injection hA with hA
           rw [← hA]
           have := blk_lt h3
           omega
         | some L =>
          rw [hlv] at hvl
          injection hvl with hv1 hv2 hv3
          subst hv1 hv2 hv3
          go_wp2
          go_meet
          exact ⟨rfl, ar1, qb, L, ⟨by
           rw [← hlv, show (⟨nd.kids, nd.lv⟩ : Trie.PN) = nd from rfl]
           exact (Trie.set_id hnd).symm⟩, ⟨by rw [hlv]; rfl⟩, HLV.out _ _ _ rfl nd L (by rw [← HW2.out]; exact hnd) hlv, HTr, HSr, HFr, HRV, ⟨fun g cells hg hA hgg => by have := HQ.out _ _ _ hnd hlv; omega⟩⟩
        case rest =>
         have hat : ∃ nd', ar1[i1]? = some nd' := ⟨nd, hnd⟩
         have HND := Aside0.mk hnd
         clear HTr HSr HFr HRL HRV HQ HN hk1 hkf hka hvl va vn vc hsn hnd hbr
         obtain ⟨rfl, ar2, qb2, L, HA2, HL0, hLl, HTr, HSr, HFr, HRV, HQ⟩ := hcut
         go_wp2
         go_loopw [139] (fun v139 w' => ∃ (k : Nat) (L1 : List Int), v139 = .int .i64 (k : Int) ∧ k ≤ x6_1.length ∧ L1.length = x6_1.length ∧ Aside0 (Trie.lev L1 k (x6_1.drop k) = Trie.lev L 0 x6_1) ∧ Aside0 (Trie.Tr base w' (ar1.set i1 ⟨nd.kids, some L1⟩) nb1 mb1 qb2) ∧ Aside0 (w'.heap[Sb]? = some (.cells #[.pointer (some ⟨nb 0, 0, none⟩), .int .i64 (ar1.length : Int), .map (some K)] 52 (0, 0))) ∧ Aside0 (Trie.Fr w (Trie.Own Sb ar nb mb qb) w' (Trie.Own Sb (ar1.set i1 ⟨nd.kids, some L1⟩) nb1 mb1 qb2)) ∧ Aside0 (Trie.Rw w' w.heap.size A6 x6_1) ∧ Aside0 (∀ g cells, w.heap.size ≤ g → A6 = some ⟨g, 0, none⟩ → w'.heap[g]? = some (.cells cells 3 (0, 0)) → qb2 i1 ≠ g))
          (fun v139 _ => x6_1.length - (intOf v139).toNat)
         case atStart => exact ⟨0, L, rfl, Nat.zero_le _, hLl, ⟨by rw [List.drop_zero]⟩, ⟨HA2.out ▸ HTr.out⟩, HSr, ⟨HA2.out ▸ HFr.out⟩, HRV, HQ⟩
         case round =>
          clear HTr HSr HFr HRV HQ hLl
          obtain ⟨k, L1, rfl, hk, hL1, HV, HTr, HSr, HFr, HRV, HQ⟩ := hrel
          have hnd1 : (ar1.set i1 ⟨nd.kids, some L1⟩)[i1]? = some ⟨nd.kids, some L1⟩ := by rw [List.getElem?_set_self hi1]
          have HND1 := Aside0.mk hnd1
          clear hnd1
          by_cases hlt : k < x6_1.length
          ·have kc1 : ((k : Int) < (x6_1.length : Int)) = True := eq_true (by omega)
           have kc2 : (k < x6_1.length) = True := eq_true hlt
           have kc3 : ((0 : Int) ≤ (k : Int)) = True := eq_true (by omega)
           have kc4 : (k < L1.length) = True := eq_true (by omega)
           have kc5 : ((k : Int) < (L1.length : Int)) = True := eq_true (by omega)
           have kc6 : IntKind.i64.wrap ((k : Int) + 1) = (k : Int) + 1 := by rw [IntKind.wrap_i64]; have := (HR.out _ _ _ rfl).2; omega
           have hg6 : ∃ g cells, A6 = some ⟨g, 0, none⟩ ∧ w.heap.size ≤ g ∧ wr.heap[g]? = some (.cells cells 3 (0, 0)) ∧ ∀ j : Nat, j < x6_1.length → cells[j]? = some (.int .i64 (rd x6_1 (j : Int))) := by
            rcases HRV.out with h9 | ⟨g', cells', h1, h2, h3, h4⟩
            ·rw [h9] at hlt
             exact absurd hlt (by simp)
            ·exact ⟨g', cells', h1, h2, h3, h4⟩
           obtain ⟨g6, cells6, rfl, hg6b, hg6h, hg6c⟩ := hg6
           have hx6 : wr.cell? ⟨g6, k, none⟩ = some (.int .i64 (rd x6_1 (k : Int))) := (blk_cell hg6h k).trans (hg6c k hlt)
           have HG6c := Aside0.mk hg6c
           clear hg6c
           have hN := HTr.out.node i1 _ HND1.out
           have hk1 : wr.cell? ⟨nb1 i1, 1, none⟩ = some (.slice (some ⟨qb2 i1, 0, none⟩) L1.length L1.length) := (blk_cell hN 1).trans rfl
           obtain ⟨q1, q2⟩ := HTr.out.lev i1 _ L1 HND1.out rfl
           have hq1 : wr.cell? ⟨qb2 i1, k, none⟩ = some (.int .i64 (rd L1 (k : Int))) := by
            rw [blk_cell q2 k]
            show (L1.map (Value.int .i64)).toArray[k]? = some (.int .i64 (L1.getD (k : Int).toNat 0))
            simp [List.getD_eq_getElem?_getD, show k < L1.length by omega]
           have hqf := blk_frozen q2 k
           have hne6 := HQ.out g6 cells6 hg6b rfl hg6h
           have hnq : nb1 i1 ≠ qb2 i1 := blk_ne hN q2 (by decide)
           have hnq' : qb2 i1 ≠ nb1 i1 := fun e => hnq e.symm
           have Hq2 := Aside0.mk q2
           have HG6 := Aside0.mk hg6h
           clear q2 hg6h hN
           go_wp2
           go_region
           go_wp2
           go_roundw
           case rel =>
            have e9 : x6_1[k] = rd x6_1 (k : Int) := by show _ = x6_1.getD (k : Int).toNat 0; simp [List.getD_eq_getElem?_getD, hlt]
            have hTw := HTr.out.write HND1.out rfl k (mx (rd L1 (k : Int)) (rd x6_1 (k : Int)))
            rw [List.set_set] at hTw
            refine ⟨k + 1, L1.set k (mx (rd L1 (k : Int)) (rd x6_1 (k : Int))), by simp, by omega, by rw [List.length_set]; exact hL1, ⟨?_⟩, ⟨hTw.kept (fun _ _ _ _ _ => rfl)⟩, ⟨?_⟩, ⟨?_⟩, ⟨.inr ⟨g6, cells6, rfl, hg6b, blk_far HG6.out (fun e => hne6 e.symm) _, HG6c.out⟩⟩, ⟨fun g cells hg hA hgg => ?_⟩⟩
            ·have h9 := HV.out
             rw [List.drop_eq_getElem_cons hlt, Trie.lev, e9] at h9
             exact h9
            ·exact blk_far HSr.out (blk_ne HSr.out Hq2.out (by decide)) _
            ·have h9 := HFr.out.trans (Trie.Fr.write Sb HND1.out (L' := L1.set k (mx (rd L1 (k : Int)) (rd x6_1 (k : Int)))) rfl k (.int .i64 (mx (rd L1 (k : Int)) (rd x6_1 (k : Int)))))
             rw [List.set_set] at h9
             exact h9.trans (Trie.Fr.below _ (below_drew (Below.refl _ _)))
            ·injection hA with hA
             injection hA with hA
             rw [← hA]
             exact hne6
           case measure => (try simp [intOf]); omega
          ·obtain rfl : k = x6_1.length := by omega
           have kc1 : ((x6_1.length : Int) < (x6_1.length : Int)) = False := eq_false (by omega)
           have kc2 : (x6_1.length < x6_1.length) = False := eq_false (by omega)
           go_wp2
           go_ret
           have h9 := HV.out
           rw [List.drop_eq_nil_of_le (Nat.le_refl _), Trie.lev] at h9
           subst h9
           show if x7_1 = 0 then _ else _
           rw [if_neg HNZ.out, Trie.put_of HW2.out HND.out HL0.out]
           exact ⟨rfl, nb1, mb1, qb2, HTr.out, HN0.out, by rw [HSr.out, List.length_set], HFr.out⟩
 ·rw [if_neg c3] at H
  exact absurd H (by simp)
end Go.Proofs.YtenhfmlkdcfbbaaDoor.PHyphenPoints
