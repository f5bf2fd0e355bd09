/- law21, the plain law: what the reference's methods say of its set. -/
import Derived.Test.YtenhfmlkdcfbbaaDoorLb
import Derived.Test.YtenhfmlkdcfbbaaDoorLe
import Derived.Test.YtenhfmlkdcfbbaaDoorRn
import Derived.Test.YtenhfmlkdcfbbaaDoorPts
namespace Go.Proofs.YtenhfmlkdcfbbaaDoor.Law21
open Go.RowKit Go.Proofs.YtenhfmlkdcfbbaaDoorW.PrintWords Go.Proofs.YtenhfmlkdcfbbaaDoorW.PrintLast Go.Proofs.YtenhfmlkdcfbbaaDoorW.PrintMore Go.Proofs.YtenhfmlkdcfbbaaDoor.PHyphenPoints Go.Proofs.YtenhfmlkdcfbbaaDoor.LawW
set_option linter.unusedVariables false
def Ev {α : Type} (f : Nat → Option α) (v : α) : Prop := ∃ K, ∀ k, K ≤ k → f k = some v
theorem Ev.all {α : Type} {f : Nat → Option α} {v : α} (h : ∀ k, f k = some v) : Ev f v := ⟨0, fun k _ => h k⟩
theorem Ev.bind {α β : Type} {f : Nat → Option α} {g : Nat → α → Option β} {a : α} {b : β} (hf : Ev f a) (hg : Ev (fun k => g k a) b) : Ev (fun k => (f k).bind (g k)) b := by
  obtain ⟨K1, h1⟩ := hf
  obtain ⟨K2, h2⟩ := hg
  exact ⟨K1 + K2, fun k hk => by show (f k).bind (g k) = some b; rw [h1 k (by omega)]; exact h2 k (by omega)⟩
theorem Ev.succ {α : Type} {f g : Nat → Option α} {v : α} (h : ∀ k, f (k + 1) = g k) (hg : Ev g v) : Ev f v := by
  obtain ⟨K, hK⟩ := hg
  refine ⟨K + 1, fun k hk => ?_⟩
  obtain ⟨q, rfl⟩ : ∃ q, k = q + 1 := ⟨k - 1, by omega⟩
  rw [h, hK q (by omega)]
theorem Ev.one {α : Type} {f : Nat → Option α} {v : α} (h : ∀ k, f (k + 1) = some v) : Ev f v := Ev.succ (g := fun _ => some v) h (Ev.all fun _ => rfl)
theorem Ev.from {α : Type} {f g : Nat → Option α} {v : α} (N : Nat) (h : ∀ k, N ≤ k → f k = g k) (hg : Ev g v) : Ev f v := by
  obtain ⟨K, hK⟩ := hg
  exact ⟨K + N, fun k hk => by rw [h k (by omega), hK k (by omega)]⟩
theorem Ev.congr {α : Type} {f g : Nat → Option α} {v : α} (h : ∀ k, f k = g k) (hg : Ev g v) : Ev f v := Ev.from 0 (fun k _ => h k) hg
theorem Ev.inj {α : Type} {f : Nat → Option α} {v u : α} (h1 : Ev f v) (h2 : Ev f u) : v = u := by
  obtain ⟨K1, h1⟩ := h1
  obtain ⟨K2, h2⟩ := h2
  have a := h1 (K1 + K2) (by omega)
  rw [h2 (K1 + K2) (by omega)] at a
  injection a with a
  exact a.symm
theorem rd_at {l : List Int} {i : Nat} (h : i < l.length) : rd l (i : Int) = l[i] := by
  unfold rd
  rw [Int.toNat_natCast, List.getD_eq_getElem?_getD, List.getElem?_eq_getElem h]
  rfl
theorem class_ev (c : Int) : Ev (fun k => utf_Class.f k c) (cls c) := ⟨5, fun k hk => class_f k hk c⟩
theorem rclass_ev (c : Int) : Ev (fun k => colophonref04_Class.f k c) (cls c) := ⟨5, fun k hk => rclass_f k hk c⟩
def mayB (l : List Int) : Bool := decide (0 < l.length) && (decide (l.length ≤ 64) && l.all fun c => decide (cls c = 2))
def sm (l : List Int) : List Int := if mayB l = true then l.map lowV else []
theorem small_l0 (l : List Int) (hl : l.length ≤ 64) : ∀ (d i : Nat) (x : List Int), i + d = l.length → x.length ≤ i →
    Ev (fun k => hyphen_small.l0 k x l (l.length : Int) (i : Int)) (if ((l.drop i).all fun c => decide (cls c = 2)) = true then x ++ (l.drop i).map lowV else [])
  | 0, i, x, hd, hx => by
    refine Ev.one (fun k => ?_)
    rw [hyphen_small.l0, if_neg (by omega), List.drop_eq_nil_of_le (by omega), if_pos (by rfl)]
    simp
  | d + 1, i, x, hd, hx => by
    have hi : i < l.length := by omega
    have e1 : wrap64 ((i : Int) + 1) = ((i + 1 : Nat) : Int) := by rw [w_in (by omega)]; omega
    rw [List.drop_eq_getElem_cons hi, List.all_cons, List.map_cons]
    have hx' : x.length < 17592186044416 := by omega
    have e : ∀ k, hyphen_small.l0 (k + 1) x l (l.length : Int) (i : Int) = (utf_Class.f k l[i]).bind fun t => if t = 2 then hyphen_small.l0 k (x ++ [lowV l[i]]) l (l.length : Int) ((i + 1 : Nat) : Int) else some [] := by
      intro k
      rw [hyphen_small.l0, if_pos (by omega), if_pos (by omega), if_pos (by omega), rd_at hi]
      simp only [lower_f, Option.bind_some, if_pos hx', e1]
    refine Ev.succ e (Ev.bind (class_ev _) ?_)
    by_cases h2 : cls l[i] = 2
    · rw [decide_eq_true h2, Bool.true_and]
      have := small_l0 l hl d (i + 1) (x ++ [lowV l[i]]) (by omega) (by simp; omega)
      exact Ev.congr (fun k => if_pos h2) (by simpa using this)
    · rw [decide_eq_false h2, Bool.false_and, if_neg (by decide)]
      exact Ev.all (fun k => if_neg h2)
theorem small_ev (l : List Int) : Ev (fun k => hyphen_small.f k l) (sm l) := by
  unfold hyphen_small.f sm mayB
  by_cases h : (l.length : Int) > 64
  · refine Ev.all (fun k => ?_)
    rw [if_pos h, decide_eq_false (show ¬ l.length ≤ 64 by omega)]
    simp
  · refine Ev.congr (fun k => if_neg h) ?_
    have := small_l0 l (by omega) l.length 0 [] (by omega) (by simp)
    rw [List.drop_zero, List.nil_append] at this
    rw [decide_eq_true (show l.length ≤ 64 by omega), Bool.true_and]
    cases l with
    | nil => exact this
    | cons c r =>
      rw [decide_eq_true (show 0 < (c :: r).length by simp), Bool.true_and]
      exact this
theorem may_l0 (l : List Int) (hl : l.length ≤ 64) : ∀ (d i : Nat), i + d = l.length → Ev (fun k => colophonref21_may.l0 k l (i : Int)) ((l.drop i).all fun c => decide (cls c = 2))
  | 0, i, hd => by
    refine Ev.one (fun k => ?_)
    rw [colophonref21_may.l0, if_neg (by omega), List.drop_eq_nil_of_le (by omega)]
    rfl
  | d + 1, i, hd => by
    have hi : i < l.length := by omega
    have e1 : wrap64 ((i : Int) + 1) = ((i + 1 : Nat) : Int) := by rw [w_in (by omega)]; omega
    rw [List.drop_eq_getElem_cons hi, List.all_cons]
    have e : ∀ k, colophonref21_may.l0 (k + 1) l (i : Int) = (colophonref04_Class.f k l[i]).bind fun t => if t = 2 then colophonref21_may.l0 k l ((i + 1 : Nat) : Int) else some false := by
      intro k
      rw [colophonref21_may.l0, if_pos (by omega), if_pos (by omega), rd_at hi, e1]
    refine Ev.succ e (Ev.bind (rclass_ev _) ?_)
    by_cases h2 : cls l[i] = 2
    · rw [decide_eq_true h2, Bool.true_and]
      exact Ev.congr (fun k => if_pos h2) (may_l0 l hl d (i + 1) (by omega))
    · rw [decide_eq_false h2, Bool.false_and]
      exact Ev.all (fun k => if_neg h2)
theorem may_ev (l : List Int) : Ev (fun k => colophonref21_may.f k l) (mayB l) := by
  unfold colophonref21_may.f mayB
  by_cases h0 : (l.length : Int) < 1
  · refine Ev.congr (fun k => if_pos h0) (Ev.succ (g := fun _ => some false) (fun k => ?_) ?_)
    · rw [colophonref21_may.j0, if_pos rfl]
    · rw [decide_eq_false (show ¬ 0 < l.length by omega), Bool.false_and]
      exact Ev.all (fun _ => rfl)
  · refine Ev.congr (fun k => if_neg h0) ?_
    rw [decide_eq_true (show 0 < l.length by omega), Bool.true_and]
    by_cases h1 : (l.length : Int) > 64
    · rw [decide_eq_true h1, decide_eq_false (show ¬ l.length ≤ 64 by omega), Bool.false_and]
      exact Ev.succ (g := fun _ => some false) (fun k => by rw [colophonref21_may.j0, if_pos rfl]) (Ev.all fun _ => rfl)
    · rw [decide_eq_false h1, decide_eq_true (show l.length ≤ 64 by omega), Bool.true_and]
      have := may_l0 l (by omega) l.length 0 (by omega)
      rw [List.drop_zero] at this
      exact Ev.succ (fun k => by rw [colophonref21_may.j0, if_neg (by decide)]; rfl) this
theorem lowers_l0 (l : List Int) (hl : l.length ≤ 64) : ∀ (d i : Nat) (x : List Int), i + d = l.length → x.length ≤ i → Ev (fun k => colophonref04_Lowers.l0 k l x (i : Int)) (x ++ (l.drop i).map lowV)
  | 0, i, x, hd, hx => by
    refine Ev.one (fun k => ?_)
    rw [colophonref04_Lowers.l0, if_neg (by omega), List.drop_eq_nil_of_le (by omega)]
    simp
  | d + 1, i, x, hd, hx => by
    have hi : i < l.length := by omega
    have e1 : wrap64 ((i : Int) + 1) = ((i + 1 : Nat) : Int) := by rw [w_in (by omega)]; omega
    have e : ∀ k, colophonref04_Lowers.l0 (k + 1) l x (i : Int) = colophonref04_Lowers.l0 k l (x ++ [lowV l[i]]) ((i + 1 : Nat) : Int) := by
      intro k
      rw [colophonref04_Lowers.l0, if_pos (by omega), if_pos (by omega), rd_at hi, rlower_f, Option.bind_some, if_pos (by omega), e1]
    rw [List.drop_eq_getElem_cons hi, List.map_cons]
    have := lowers_l0 l hl d (i + 1) (x ++ [lowV l[i]]) (by omega) (by simp; omega)
    exact Ev.succ e (by simpa using this)
theorem lowers_ev (l : List Int) (hl : l.length ≤ 64) : Ev (fun k => colophonref04_Lowers.f k l) (l.map lowV) := by
  have := lowers_l0 l hl l.length 0 [] (by omega) (by simp)
  rw [List.drop_zero, List.nil_append] at this
  exact this
theorem fits_l0 (l w : List Int) (a : Nat) (hs : a + l.length ≤ w.length) (hw : w.length ≤ 100000) : ∀ (d i : Nat), i + d = l.length → Ev (fun k => colophonref21_fits.l0 k l w (a : Int) (i : Int)) (decide (l.drop i <+: w.drop (a + i)))
  | 0, i, hd => by
    refine Ev.one (fun k => ?_)
    rw [colophonref21_fits.l0, if_neg (by omega), List.drop_eq_nil_of_le (by omega), decide_eq_true List.nil_prefix]
  | d + 1, i, hd => by
    have hi : i < l.length := by omega
    have hai : a + i < w.length := by omega
    have e1 : wrap64 ((i : Int) + 1) = ((i + 1 : Nat) : Int) := by rw [w_in (by omega)]; omega
    have e2 : wrap64 ((a : Int) + (i : Int)) = ((a + i : Nat) : Int) := by rw [w_in (by omega)]; omega
    have e : ∀ k, colophonref21_fits.l0 (k + 1) l w (a : Int) (i : Int) = if w[a + i] = l[i] then colophonref21_fits.l0 k l w (a : Int) ((i + 1 : Nat) : Int) else some false := by
      intro k
      rw [colophonref21_fits.l0, if_pos (by omega), e2, if_pos (by omega), if_pos (by omega), if_pos (by omega), rd_at hi, rd_at hai, e1]
    rw [List.drop_eq_getElem_cons hi, List.drop_eq_getElem_cons hai]
    refine Ev.succ e ?_
    by_cases h : w[a + i] = l[i]
    · have := fits_l0 l w a hs hw d (i + 1) (by omega)
      have e3 : decide (l[i] :: l.drop (i + 1) <+: w[a + i] :: w.drop (a + i + 1)) = decide (l.drop (i + 1) <+: w.drop (a + (i + 1))) := by
        rw [decide_eq_decide, List.cons_prefix_cons]
        exact ⟨fun q => q.2, fun q => ⟨h.symm, q⟩⟩
      rw [e3]
      exact Ev.congr (fun k => if_pos h) this
    · rw [decide_eq_false (fun q => h (List.cons_prefix_cons.1 q).1.symm)]
      exact Ev.all (fun k => if_neg h)
theorem fits_ev (l w : List Int) (a : Nat) (hl : l.length ≤ 100000) (ha : a ≤ w.length) (hw : w.length ≤ 100000) : Ev (fun k => colophonref21_fits.f k l w (a : Int)) (decide (l <+: w.drop a)) := by
  unfold colophonref21_fits.f
  have e : wrap64 ((a : Int) + (l.length : Int)) = ((a + l.length : Nat) : Int) := by rw [w_in (by omega)]; omega
  rw [e]
  by_cases h : ((a + l.length : Nat) : Int) > (w.length : Int)
  · rw [decide_eq_false (fun q => by
      have q1 := q.length_le
      rw [List.length_drop] at q1
      omega)]
    exact Ev.all (fun k => if_pos h)
  · refine Ev.congr (fun k => if_neg h) ?_
    have := fits_l0 l w a (by omega) hw l.length 0 (by omega)
    rw [List.drop_zero] at this
    exact this
structure GP (p : S66) : Prop where
  ne : p.f0 ≠ []
  len : p.f0.length ≤ 64
  lev : p.f3.length = p.f0.length + 1
  let_ : ∀ c ∈ p.f0, cls c = 2 ∧ lowV c = c
  nn : ∀ x ∈ p.f3, 0 ≤ x
def sp (p : S66) : List Int × List Int := (dot p.f1 ++ p.f0 ++ dot p.f2, p.f3)
theorem sp_len {p : S66} (h : GP p) : (sp p).1.length ≤ 66 := by
  have := h.len
  unfold sp dot
  cases p.f1 <;> cases p.f2 <;> simp <;> omega
def met (Q : List (List Int)) (x : List Int) : Bool := Q.any fun q => decide (x <+: q)
def freshQ (Q : List (List Int)) (pre : List Int) : List Int → Nat
  | [] => 0
  | c :: r => (if met Q (pre ++ [c]) = true then 0 else 1) + freshQ Q (pre ++ [c]) r
theorem met_iff (Q : List (List Int)) (x : List Int) : met Q x = true ↔ ∃ q ∈ Q, x <+: q := by
  unfold met
  rw [List.any_eq_true]
  simp
theorem fresh_eq {P : List (List Int × List Int)} {ar : List Trie.PN} (h : Says P ar) : ∀ (le pre : List Int), fresh ar pre le = freshQ (P.map (·.1)) pre le
  | [], _ => rfl
  | c :: r, pre => by
    rw [fresh, freshQ, fresh_eq h r]
    congr 1
    have e : (reach ar 0 (pre ++ [c])).isSome = true ↔ met (P.map (·.1)) (pre ++ [c]) = true := by
      rw [h.pre, met_iff]
      constructor
      · rintro (q | ⟨p, hp, q⟩)
        · simp at q
        · exact ⟨p.1, List.mem_map_of_mem hp, q⟩
      · rintro ⟨q, hq, h2⟩
        obtain ⟨p, hp, rfl⟩ := List.mem_map.1 hq
        exact .inr ⟨p, hp, h2⟩
    by_cases h2 : met (P.map (·.1)) (pre ++ [c]) = true
    · rw [if_pos h2, if_pos (e.2 h2)]
    · rw [if_neg h2, if_neg (fun q => h2 (e.1 q))]
def nodesOf : List (List Int) → List (List Int) → Nat
  | _, [] => 0
  | Q, le :: r => freshQ Q [] le + nodesOf (Q ++ [le]) r
theorem nodesOf_snoc : ∀ (R Q : List (List Int)) (le : List Int), nodesOf Q (R ++ [le]) = nodesOf Q R + freshQ (Q ++ R) [] le
  | [], Q, le => by simp [nodesOf]
  | a :: R, Q, le => by
    rw [List.cons_append, nodesOf, nodesOf, nodesOf_snoc R]
    simp [Nat.add_assoc]
abbrev sps (ps : List S66) : List (List Int) := ps.map fun p => (sp p).1
theorem rd66 {ps : List S66} {i : Nat} (h : i < ps.length) : rd_T66 ps (i : Int) = ps[i] := by
  unfold rd_T66
  rw [Int.toNat_natCast, List.getD_eq_getElem?_getD, List.getElem?_eq_getElem h]
  rfl
section nodes
variable (ps : List S66) (hg : ∀ p ∈ ps, GP p) (hn : ps.length ≤ 1000000)
include hg hn
end nodes
def Hit (p : S66) (w : List Int) (a : Nat) : Prop := a + p.f0.length ≤ w.length ∧ p.f0 <+: w.drop a ∧ (p.f1 = true → a = 0) ∧ (p.f2 = true → a + p.f0.length = w.length)
theorem lev_nn : ∀ (r L : List Int) (k : Nat), (∀ j : Nat, 0 ≤ rd L (j : Int)) → k + r.length ≤ L.length → ∀ j : Nat, 0 ≤ rd (Trie.lev L k r) (j : Int)
  | r, L, k, h, hk, j => by
    rw [lev_rd r L k j hk]
    split
    · have := h j
      unfold mx
      split <;> omega
    · exact h j
section levels
variable (ps : List S66) (w : List Int) (hg : ∀ p ∈ ps, GP p) (hn : ps.length ≤ 1000000) (hw : w.length ≤ 64)
include hg hn hw
omit hg hn in
theorem levels_l2 (out : List Int) (ho : out.length = w.length + 1) (i a : Nat) (p : S66) (hp : GP p) (ha : a + p.f0.length ≤ w.length) (r : List Int) : ∀ (d x : Nat) (o : List Int), x + d = p.f3.length → o.length = w.length + 1 →
    Ev (fun k => colophonref21_Set_Levels.l1 k ps w (Trie.lev o (a + x) (p.f3.drop x)) (i : Int) ((a + 1 : Nat) : Int) p.f0 p.f1 p.f2 p.f3) r →
    Ev (fun k => colophonref21_Set_Levels.l2 k ps w o (i : Int) (a : Int) (x : Int) p.f0 p.f1 p.f2 p.f3) r
  | 0, x, o, hd, hol, h => by
    have e1 : wrap64 ((a : Int) + 1) = ((a + 1 : Nat) : Int) := by rw [w_in (by omega)]; omega
    rw [List.drop_eq_nil_of_le (by omega), Trie.lev] at h
    refine Ev.succ (fun k => ?_) h
    rw [colophonref21_Set_Levels.l2, if_neg (by omega), e1]
  | d + 1, x, o, hd, hol, h => by
    have hpl := hp.lev
    have hx : x < p.f3.length := by omega
    have c1 : (x : Int) < (p.f3.length : Int) := by omega
    have c2 : (0 : Int) ≤ ((a + x : Nat) : Int) := Int.natCast_nonneg _
    have c3 : ((a + x : Nat) : Int) < (o.length : Int) := by omega
    have c4 : (0 : Int) ≤ (x : Int) := Int.natCast_nonneg _
    have q1 : x + 1 + d = p.f3.length := by omega
    have e1 : wrap64 ((x : Int) + 1) = ((x + 1 : Nat) : Int) := by rw [w_in (by omega)]; omega
    have e2 : wrap64 ((a : Int) + (x : Int)) = ((a + x : Nat) : Int) := by rw [w_in (by omega)]; omega
    have e : ∀ k, colophonref21_Set_Levels.l2 (k + 1) ps w o (i : Int) (a : Int) (x : Int) p.f0 p.f1 p.f2 p.f3 = colophonref21_Set_Levels.l2 k ps w (o.set (a + x) (mx (rd o ((a + x : Nat) : Int)) p.f3[x])) (i : Int) (a : Int) ((x + 1 : Nat) : Int) p.f0 p.f1 p.f2 p.f3 := by
      intro k
      rw [colophonref21_Set_Levels.l2, if_pos c1, e2, if_pos c2, if_pos c3, if_pos c4, e1, Int.toNat_natCast, rd_at hx]
    refine Ev.succ e (levels_l2 out ho i a p hp ha r d (x + 1) _ q1 (by rw [List.length_set]; exact hol) ?_)
    rw [List.drop_eq_getElem_cons hx, Trie.lev] at h
    exact h
omit hg hn in
theorem levels_l1 (i : Nat) (p : S66) (hp : GP p) : ∀ (d a : Nat) (o : List Int), a + d = w.length + 1 → o.length = w.length + 1 → (∀ j : Nat, 0 ≤ rd o (j : Int)) →
    ∃ o' : List Int, o'.length = w.length + 1 ∧ (∀ j : Nat, 0 ≤ rd o' (j : Int)) ∧ (∀ (j : Nat) (v : Int), At o' j v ↔ At o j v ∨ ∃ b, a ≤ b ∧ Hit p w b ∧ b ≤ j ∧ At p.f3 (j - b) v) ∧
      ∀ r, Ev (fun k => colophonref21_Set_Levels.l0 k ps w o' (wrap64 ((i : Int) + 1))) r → Ev (fun k => colophonref21_Set_Levels.l1 k ps w o (i : Int) (a : Int) p.f0 p.f1 p.f2 p.f3) r
  | d, a, o, hd, hol, hnn => by
    have hpl := hp.len
    have e0 : wrap64 ((a : Int) + (p.f0.length : Int)) = ((a + p.f0.length : Nat) : Int) := by rw [w_in (by omega)]; omega
    by_cases hend : a + p.f0.length ≤ w.length
    · have hne := List.length_pos_iff.2 hp.ne
      obtain ⟨d, rfl⟩ : ∃ q, d = q + 1 := ⟨d - 1, by omega⟩
      have e1 : wrap64 ((a : Int) + 1) = ((a + 1 : Nat) : Int) := by rw [w_in (by omega)]; omega
      have hpv := hp.lev
      obtain ⟨t, ht⟩ : ∃ t : Bool, t = true ↔ Hit p w a := ⟨@decide (Hit p w a) (Classical.propDecidable _), by simp⟩
      have step : ∀ {r : List Int}, Ev (fun k => if t = true then colophonref21_Set_Levels.l2 k ps w o (i : Int) (a : Int) ((0 : Nat) : Int) p.f0 p.f1 p.f2 p.f3 else colophonref21_Set_Levels.l1 k ps w o (i : Int) ((a + 1 : Nat) : Int) p.f0 p.f1 p.f2 p.f3) r → Ev (fun k => colophonref21_Set_Levels.l1 k ps w o (i : Int) (a : Int) p.f0 p.f1 p.f2 p.f3) r := by
        intro r hr
        have e : ∀ k, colophonref21_Set_Levels.l1 (k + 1) ps w o (i : Int) (a : Int) p.f0 p.f1 p.f2 p.f3 = (colophonref21_fits.f k p.f0 w (a : Int)).bind fun q => colophonref21_Set_Levels.j3 k ps w o (i : Int) (a : Int) (!(q && ((!p.f1 || decide (a = 0)) && (!p.f2 || decide (a + p.f0.length = w.length))))) p.f0 p.f1 p.f2 p.f3 := by
          intro k
          have n2 : (((a + p.f0.length : Nat) : Int) != (w.length : Int)) = !decide (a + p.f0.length = w.length) := by
            by_cases q : a + p.f0.length = w.length
            · rw [decide_eq_true q, q]; simp
            · rw [decide_eq_false q]
              exact bne_iff_ne.2 (by omega)
          rw [colophonref21_Set_Levels.l1, e0, if_pos (by omega), n2]
          congr 1
          funext q
          cases q <;> cases p.f1 <;> cases p.f2 <;> simp <;> split <;> simp [*]
        refine Ev.succ e (Ev.bind (fits_ev p.f0 w a (by omega) (by omega) (by omega)) (Ev.succ (g := fun k => if t = true then colophonref21_Set_Levels.l2 k ps w o (i : Int) (a : Int) ((0 : Nat) : Int) p.f0 p.f1 p.f2 p.f3 else colophonref21_Set_Levels.l1 k ps w o (i : Int) ((a + 1 : Nat) : Int) p.f0 p.f1 p.f2 p.f3) (fun k => ?_) hr))
        rw [colophonref21_Set_Levels.j3, e1]
        have ht2 : (!(decide (p.f0 <+: w.drop a) && ((!p.f1 || decide (a = 0)) && (!p.f2 || decide (a + p.f0.length = w.length))))) = !t := by
          congr 1
          rw [Bool.eq_iff_iff, ht]
          unfold Hit
          simp only [Bool.and_eq_true, Bool.or_eq_true, decide_eq_true_eq, Bool.not_eq_true']
          constructor
          · rintro ⟨a1, a2, a3⟩
            exact ⟨hend, a1, fun q => a2.resolve_left (by rw [q]; decide), fun q => a3.resolve_left (by rw [q]; decide)⟩
          · rintro ⟨_, a1, a2, a3⟩
            refine ⟨a1, ?_, ?_⟩
            · cases hq : p.f1 with
              | false => exact .inl rfl
              | true => exact .inr (a2 hq)
            · cases hq : p.f2 with
              | false => exact .inl rfl
              | true => exact .inr (a3 hq)
        rw [ht2]
        cases t with
        | false => rw [if_pos (by rfl), if_neg (by decide)]
        | true => rw [if_neg (by decide), if_pos rfl]; rfl
      cases t with
      | false =>
        have hno : ¬ Hit p w a := fun q => absurd (ht.2 q) (by decide)
        obtain ⟨o', h1, h2, h3, h4⟩ := levels_l1 i p hp d (a + 1) o (by omega) hol hnn
        refine ⟨o', h1, h2, fun j v => ?_, fun r hr => step (Ev.congr (fun k => if_neg (by decide)) (h4 r hr))⟩
        rw [h3]
        constructor
        · rintro (q | ⟨b, b1, b2⟩)
          · exact .inl q
          · exact .inr ⟨b, by omega, b2⟩
        · rintro (q | ⟨b, b1, b2⟩)
          · exact .inl q
          · by_cases e : b = a
            · subst e
              exact absurd b2.1 hno
            · exact .inr ⟨b, by omega, b2⟩
      | true =>
        have hyes : Hit p w a := ht.1 rfl
        have hfit : a + p.f3.length ≤ o.length := by omega
        obtain ⟨o', h1, h2, h3, h4⟩ := levels_l1 i p hp d (a + 1) (Trie.lev o a p.f3) (by omega) (by rw [lev_len]; exact hol) (lev_nn _ _ _ hnn hfit)
        refine ⟨o', h1, h2, fun j v => ?_, fun r hr => step (Ev.congr (fun k => if_pos rfl) (levels_l2 ps w hw o hol i a p hp hend r p.f3.length 0 o (by omega) hol ?_))⟩
        · rw [h3, lev_at _ _ _ _ _ hfit]
          constructor
          · rintro ((q | ⟨q1, q2⟩) | ⟨b, b1, b2⟩)
            · exact .inl q
            · exact .inr ⟨a, Nat.le_refl _, hyes, q1, q2⟩
            · exact .inr ⟨b, by omega, b2⟩
          · rintro (q | ⟨b, b1, b2, b3, b4⟩)
            · exact .inl (.inl q)
            · by_cases e : b = a
              · subst e
                exact .inl (.inr ⟨b3, b4⟩)
              · exact .inr ⟨b, by omega, b2, b3, b4⟩
        · rw [List.drop_zero, Nat.add_zero]
          exact h4 r hr
    · refine ⟨o, hol, hnn, fun j v => ⟨fun q => .inl q, ?_⟩, fun r hr => ?_⟩
      · rintro (q | ⟨b, b1, b2, _⟩)
        · exact q
        · have := b2.1
          omega
      · refine Ev.succ (fun k => ?_) hr
        rw [colophonref21_Set_Levels.l1, e0, if_neg (by omega)]
theorem levels_l0 : ∀ (d i : Nat) (o : List Int), i + d = ps.length → o.length = w.length + 1 → (∀ j : Nat, 0 ≤ rd o (j : Int)) →
    ∃ r : List Int, Ev (fun k => colophonref21_Set_Levels.l0 k ps w o (i : Int)) r ∧ r.length = w.length + 1 ∧ (∀ j : Nat, 0 ≤ rd r (j : Int)) ∧ ∀ (j : Nat) (v : Int), At r j v ↔ At o j v ∨ ∃ p ∈ ps.drop i, ∃ b, Hit p w b ∧ b ≤ j ∧ At p.f3 (j - b) v
  | 0, i, o, hd, hol, hnn => by
    refine ⟨o, Ev.one (fun k => ?_), hol, hnn, fun j v => ?_⟩
    · rw [colophonref21_Set_Levels.l0, if_neg (by omega)]
    · rw [List.drop_eq_nil_of_le (by omega)]
      simp
  | d + 1, i, o, hd, hol, hnn => by
    have hi : i < ps.length := by omega
    have e1 : wrap64 ((i : Int) + 1) = ((i + 1 : Nat) : Int) := by rw [w_in (by omega)]; omega
    obtain ⟨o', h1, h2, h3, h4⟩ := levels_l1 ps w hw i ps[i] (hg _ (List.getElem_mem hi)) (w.length + 1) 0 o (by omega) hol hnn
    obtain ⟨r, r1, r2, r3, r4⟩ := levels_l0 d (i + 1) o' (by omega) h1 h2
    refine ⟨r, Ev.succ (fun k => ?_) (h4 r (by rw [e1]; exact r1)), r2, r3, fun j v => ?_⟩
    · rw [colophonref21_Set_Levels.l0, if_pos (by omega), if_pos (by omega), rd66 hi]
      rfl
    · rw [r4, h3, List.drop_eq_getElem_cons hi]
      constructor
      · rintro ((q | ⟨b, _, b2⟩) | ⟨p, hp, q⟩)
        · exact .inl q
        · exact .inr ⟨_, List.mem_cons_self, b, b2⟩
        · exact .inr ⟨p, List.mem_cons_of_mem _ hp, q⟩
      · rintro (q | ⟨p, hp, b, b2⟩)
        · exact .inl (.inl q)
        · rcases List.mem_cons.1 hp with rfl | hp
          · exact .inl (.inr ⟨b, Nat.zero_le _, b2⟩)
          · exact .inr ⟨p, hp, b, b2⟩
end levels
end Go.Proofs.YtenhfmlkdcfbbaaDoor.Law21
