/- The plain law of StyleAll: the styles of all elements of any tree, for rules of any form and values of at most 1048576 bytes. -/
import Derived.Test.YtpembifnjlekdaaPStyleAllx15
import Derived.Test.YtpembifnjlekdaaPureStyleAllD
namespace Go.Proofs.Ytpembifnjlekdaa.PureStyleAll
open Go.RowKit Go.ChangeShapes Go.WideShapes Go.Proofs.Ytpembifnjlekdaa Go.Proofs.Ytpembifnjlekdaa.PStyleAll Go.Proofs.YtpembifnjlekdaaW.PrintWords Go.Proofs.YtpembifnjlekdaaW.PrintLast Go.Proofs.YtpembifnjlekdaaW.PrintMore
/-! ### trees: how many nodes, how deep -/
mutual
def cnt : S52 → Nat
  | ⟨_, _, _, l, _⟩ => cnts l + 1
def cnts : List S52 → Nat
  | [] => 0
  | x :: r => cnt x + cnts r
end
mutual
def dep : S52 → Nat
  | ⟨_, _, _, l, _⟩ => deps l + 1
def deps : List S52 → Nat
  | [] => 0
  | x :: r => max (dep x) (deps r)
end
theorem mem82 {l : List S82} {j : Nat} (h : j < l.length) : rd_T82 l (j : Int) ∈ l := getD_mem l j z82 h
theorem cnt_eq (x : S52) : cnt x = cnts x.f3 + 1 := by cases x; rw [cnt]
theorem dep_eq (x : S52) : dep x = deps x.f3 + 1 := by cases x; rw [dep]
theorem dep_le {l : List S52} {y : S52} (h : y ∈ l) : dep y ≤ deps l := by
  induction l with
  | nil => cases h
  | cons a r ih =>
    rw [deps]
    rcases List.mem_cons.mp h with rfl | h
    · exact Nat.le_max_left _ _
    · exact Nat.le_trans (ih h) (Nat.le_max_right _ _)
theorem val_l1 (p : Int) (hp0 : 0 ≤ p) (hp : p ≤ 60) (a0 a1 : ByteArray) (l2 : List S82) (a4 : Int) (l : List S52) (hn : l.length ≤ 1048576) (K : Nat) (hK : ∀ y, y ∈ l → ∀ k, K ≤ k → ∀ q : Int, 0 ≤ q → q ≤ 2199023255552 → ∃ t, colophonlaw18_large.f k y.f0 y.f1 y.f2 y.f3 y.f4 (p + 1) q = some t ∧ -1 ≤ t ∧ t ≤ 2199023255552 ∧ (0 ≤ t → q + cnt y ≤ t ∧ p + 1 + dep y ≤ 61 ∧ q + cnt y ≤ 300)) : ∀ (d k i : Nat) (n : Int), i + d = l.length → K + d + 1 ≤ k → -1 ≤ n → n ≤ 2199023255552 →
    ∃ t, colophonlaw18_large.l1 k p n (i : Int) a0 a1 l2 l a4 = some t ∧ -1 ≤ t ∧ t ≤ 2199023255552 ∧ (0 ≤ t → n + cnts (l.drop i) ≤ t ∧ p + 1 + deps (l.drop i) ≤ 61 ∧ (cnts (l.drop i) = 0 ∨ n + cnts (l.drop i) ≤ 300)) := by
  intro d
  induction d with
  | zero =>
    intro k i n h1 h2 h3 h4
    obtain ⟨k, rfl⟩ : ∃ q, k = q + 1 := ⟨k - 1, by omega⟩
    refine ⟨n, by rw [colophonlaw18_large.l1, if_neg (by omega)], h3, h4, fun h => ?_⟩
    rw [List.drop_eq_nil_of_le (by omega), cnts, deps]
    exact ⟨by omega, by omega, .inl rfl⟩
  | succ d ih =>
    intro k i n h1 h2 h3 h4
    obtain ⟨k, rfl⟩ : ∃ q, k = q + 1 := ⟨k - 1, by omega⟩
    have hi : i < l.length := by omega
    rw [colophonlaw18_large.l1, if_pos (by omega)]
    by_cases c : n ≥ 0
    · obtain ⟨t, ht, t1, t2, t3⟩ := hK _ (mem52 hi) k (by omega) n c h4
      rw [if_pos c, if_pos (by omega), w_in (e := p + 1) (by omega), ht, Option.bind_some, casN i (by omega)]
      obtain ⟨u, hu, u1, u2, u3⟩ := ih k (i + 1) t (by omega) (by omega) t1 t2
      refine ⟨u, hu, u1, u2, fun h => ?_⟩
      have u4 := u3 h
      have ht0 : 0 ≤ t := by
        have := u4.1
        by_cases c2 : 0 ≤ t
        · exact c2
        · exfalso
          obtain ⟨v, hv⟩ : ∃ v, colophonlaw18_large.l1 k p t ((i + 1 : Nat) : Int) a0 a1 l2 l a4 = some v ∧ v = t := by
            obtain ⟨k, rfl⟩ : ∃ q, k = q + 1 := ⟨k - 1, by omega⟩
            rw [colophonlaw18_large.l1]
            by_cases c3 : ((i + 1 : Nat) : Int) < (l.length : Int)
            · exact ⟨t, by rw [if_pos c3, if_neg c2], rfl⟩
            · exact ⟨t, by rw [if_neg c3], rfl⟩
          rw [hv.1] at hu
          injection hu with hu
          omega
      have t4 := t3 ht0
      rw [drop52 hi, cnts, deps]
      have := u4.2.1
      have := t4.2.1
      have e : max (dep (rd_T52 l (i : Int))) (deps (List.drop (i + 1) l)) = dep (rd_T52 l (i : Int)) ∨ max (dep (rd_T52 l (i : Int))) (deps (List.drop (i + 1) l)) = deps (List.drop (i + 1) l) := by omega
      refine ⟨by have := u4.1; have := t4.1; omega, ?_, .inr ?_⟩
      · rcases e with e | e <;> (rw [e]; omega)
      · have := u4.2.2
        have := t4.2.2
        have := t4.1
        omega
    · rw [if_neg c]
      exact ⟨n, rfl, h3, h4, fun h => absurd h c⟩
theorem val_l0 (p : Int) (hp0 : 0 ≤ p) (hp : p ≤ 60) (a0 a1 : ByteArray) (l2 : List S82) (hl : l2.length ≤ 1048576) (hs : ∀ a ∈ l2, a.f0.size ≤ 1048576 ∧ a.f1.size ≤ 1048576) (a4 : Int) (l : List S52) (hn : l.length ≤ 1048576) (K : Nat) (hK : ∀ y, y ∈ l → ∀ k, K ≤ k → ∀ q : Int, 0 ≤ q → q ≤ 2199023255552 → ∃ t, colophonlaw18_large.f k y.f0 y.f1 y.f2 y.f3 y.f4 (p + 1) q = some t ∧ -1 ≤ t ∧ t ≤ 2199023255552 ∧ (0 ≤ t → q + cnt y ≤ t ∧ p + 1 + dep y ≤ 61 ∧ q + cnt y ≤ 300)) : ∀ (d k i : Nat) (n : Int), i + d = l2.length → K + l.length + d + 2 ≤ k → 0 ≤ n → n + (d : Int) * 20972 ≤ 2199023255552 →
    ∃ t, colophonlaw18_large.l0 k p n (i : Int) a0 a1 l2 l a4 = some t ∧ -1 ≤ t ∧ t ≤ 2199023255552 ∧ (0 ≤ t → n + cnts l ≤ t ∧ p + 1 + deps l ≤ 61 ∧ (cnts l = 0 ∨ n + cnts l ≤ 300)) := by
  intro d
  induction d with
  | zero =>
    intro k i n h1 h2 h3 h4
    obtain ⟨k, rfl⟩ : ∃ q, k = q + 1 := ⟨k - 1, by omega⟩
    rw [colophonlaw18_large.l0, if_neg (by omega)]
    have := val_l1 p hp0 hp a0 a1 l2 a4 l hn K hK l.length k 0 n (by omega) (by omega) (by omega) (by omega)
    rw [List.drop_zero] at this
    exact this
  | succ d ih =>
    intro k i n h1 h2 h3 h4
    obtain ⟨k, rfl⟩ : ∃ q, k = q + 1 := ⟨k - 1, by omega⟩
    have hi : i < l2.length := by omega
    have hz := (hs _ (mem82 hi)).2
    rw [colophonlaw18_large.l0, if_pos (by omega), if_pos (by omega), casN i (by omega), w_in (e := _ / 50) (by omega), w_in (e := n + _) (by omega)]
    obtain ⟨t, ht, t1, t2, t3⟩ := ih k (i + 1) (n + (((rd_T82 l2 (i : Int)).f1.size : Int) / 50)) (by omega) (by omega) (by omega) (by omega)
    exact ⟨t, ht, t1, t2, fun h => ⟨by have := (t3 h).1; omega, (t3 h).2.1, by have := (t3 h).2.2; omega⟩⟩
theorem val_node (x : S52) (h : OKN x) : ∃ K, ∀ k, K ≤ k → ∀ p q : Int, 0 ≤ p → p ≤ 61 → 0 ≤ q → q ≤ 2199023255552 → ∃ t, colophonlaw18_large.f k x.f0 x.f1 x.f2 x.f3 x.f4 p q = some t ∧ -1 ≤ t ∧ t ≤ 2199023255552 ∧ (0 ≤ t → q + cnt x ≤ t ∧ p + dep x ≤ 61 ∧ q + cnt x ≤ 300) := by
  induction h with
  | mk x h0 h1 h2 h3 h5 h4 ih =>
    obtain ⟨K, hK⟩ := bnd (Q := fun K y => ∀ k, K ≤ k → ∀ p q : Int, 0 ≤ p → p ≤ 61 → 0 ≤ q → q ≤ 2199023255552 → ∃ t, colophonlaw18_large.f k y.f0 y.f1 y.f2 y.f3 y.f4 p q = some t ∧ -1 ≤ t ∧ t ≤ 2199023255552 ∧ (0 ≤ t → q + cnt y ≤ t ∧ p + dep y ≤ 61 ∧ q + cnt y ≤ 300)) (fun k k' y hk hq q hq2 => hq q (by omega)) x.f3 (fun y hy => ih y hy)
    refine ⟨K + x.f3.length + x.f2.length + 4, fun k hk p q hp0 hp hq0 hq => ?_⟩
    obtain ⟨k, rfl⟩ : ∃ z, k = z + 2 := ⟨k - 2, by omega⟩
    have hl2 := h2.1
    rw [cnt_eq, dep_eq]
    rw [colophonlaw18_large.f, w_in (e := q + 1) (by omega), w_in (e := _ / 50) (by omega), w_in (e := q + 1 + _) (by omega), w_in (e := q + 1 + _ + _) (by omega)]
    by_cases c : q + 1 + ((x.f1.size : Int) / 50) + (x.f2.length : Int) > 300
    · rw [if_pos c, colophonlaw18_large.j0, if_pos rfl]
      exact ⟨-1, rfl, by omega, by omega, fun h => by omega⟩
    · rw [if_neg c, colophonlaw18_large.j0]
      by_cases c2 : p > 60
      · rw [if_pos (decide_eq_true c2)]
        exact ⟨-1, rfl, by omega, by omega, fun h => by omega⟩
      · rw [if_neg (by rw [decide_eq_true_eq]; exact c2)]
        obtain ⟨t, ht, t1, t2, t3⟩ := val_l0 p hp0 (by omega) x.f0 x.f1 x.f2 hl2 h2.2 x.f4 x.f3 h3 K (fun y hy k hk q h1 h2 => by
          obtain ⟨t, ht, t1, t2, t3⟩ := hK y hy k hk (p + 1) q (by omega) (by omega) h1 h2
          exact ⟨t, ht, t1, t2, fun h => ⟨(t3 h).1, (t3 h).2.1, (t3 h).2.2⟩⟩) x.f2.length k 0 (q + 1 + ((x.f1.size : Int) / 50) + (x.f2.length : Int)) (by omega) (by omega) (by omega) (by omega)
        refine ⟨t, ht, t1, t2, fun h => ?_⟩
        have := t3 h
        exact ⟨by omega, by omega, by omega⟩
/-! ### a node is as it is -/
theorem same_l1 (a0 a1 : ByteArray) (l2 : List S82) (a4 : Int) (l : List S52) (hn : l.length ≤ 1048576) (K : Nat) (hK : ∀ y, y ∈ l → ∀ k, K ≤ k → colophonref18_Same.f k y.f0 y.f1 y.f2 y.f3 y.f4 y.f0 y.f1 y.f2 y.f3 y.f4 = some true) : ∀ (d k i : Nat), i + d = l.length → K + d + 1 ≤ k → colophonref18_Same.l1 k (i : Int) a0 a1 l2 l a4 a0 a1 l2 l a4 = some true := by
  intro d
  induction d with
  | zero =>
    intro k i h1 h2
    obtain ⟨k, rfl⟩ : ∃ q, k = q + 1 := ⟨k - 1, by omega⟩
    rw [colophonref18_Same.l1, if_neg (by omega)]
  | succ d ih =>
    intro k i h1 h2
    obtain ⟨k, rfl⟩ : ∃ q, k = q + 1 := ⟨k - 1, by omega⟩
    have hi : i < l.length := by omega
    rw [colophonref18_Same.l1, if_pos (by omega), if_pos (by omega), if_pos (by omega), hK _ (mem52 hi) k (by omega), Option.bind_some, if_pos rfl, casN i (by omega), ih k (i + 1) (by omega) (by omega)]
theorem same_l0 (a0 a1 : ByteArray) (l2 : List S82) (hl : l2.length ≤ 1048576) (a4 : Int) (l : List S52) (hn : l.length ≤ 1048576) (K : Nat) (hK : ∀ y, y ∈ l → ∀ k, K ≤ k → colophonref18_Same.f k y.f0 y.f1 y.f2 y.f3 y.f4 y.f0 y.f1 y.f2 y.f3 y.f4 = some true) : ∀ (d k i : Nat), i + d = l2.length → K + l.length + d + 2 ≤ k → colophonref18_Same.l0 k (i : Int) a0 a1 l2 l a4 a0 a1 l2 l a4 = some true := by
  intro d
  induction d with
  | zero =>
    intro k i h1 h2
    obtain ⟨k, rfl⟩ : ∃ q, k = q + 1 := ⟨k - 1, by omega⟩
    rw [colophonref18_Same.l0, if_neg (by omega)]
    exact same_l1 a0 a1 l2 a4 l hn K hK l.length k 0 (by omega) (by omega)
  | succ d ih =>
    intro k i h1 h2
    obtain ⟨k, rfl⟩ : ∃ q, k = q + 1 := ⟨k - 1, by omega⟩
    rw [colophonref18_Same.l0, if_pos (by omega), if_pos (by omega), if_pos (by omega), if_neg (by simp), casN i (by omega), ih k (i + 1) (by omega) (by omega)]
theorem same_node (x : S52) (h : OKN x) : ∃ K, ∀ k, K ≤ k → colophonref18_Same.f k x.f0 x.f1 x.f2 x.f3 x.f4 x.f0 x.f1 x.f2 x.f3 x.f4 = some true := by
  induction h with
  | mk x h0 h1 h2 h3 h5 h4 ih =>
    obtain ⟨K, hK⟩ := bnd (Q := fun K y => ∀ k, K ≤ k → colophonref18_Same.f k y.f0 y.f1 y.f2 y.f3 y.f4 y.f0 y.f1 y.f2 y.f3 y.f4 = some true) (fun k k' y hk hq q hq2 => hq q (by omega)) x.f3 (fun y hy => ih y hy)
    refine ⟨K + x.f3.length + x.f2.length + 4, fun k hk => ?_⟩
    obtain ⟨k, rfl⟩ : ∃ z, k = z + 2 := ⟨k - 2, by omega⟩
    rw [colophonref18_Same.f, if_pos rfl, if_pos rfl, if_pos rfl, colophonref18_Same.j0, if_neg (by simp)]
    exact same_l0 x.f0 x.f1 x.f2 h2.1 x.f4 x.f3 h3 K hK x.f2.length k 0 (by omega) (by omega)
/-! ### both sides tell the same styles -/
theorem kids_both {g h : S52 → List S33 → Option (List S33)} : ∀ (xs : List S52) (out : List S33), (∀ y ∈ xs, ∀ o : List S33, o.length + cnt y ≤ 1000 → ∃ r, g y o = some r ∧ h y o = some r ∧ r.length ≤ o.length + cnt y) → out.length + cnts xs ≤ 1000 → ∃ r, style_All.kids g xs out = some r ∧ style_All.kids h xs out = some r ∧ r.length ≤ out.length + cnts xs
  | [], out, _, _ => ⟨out, rfl, rfl, by simp⟩
  | x :: r, out, hy, hl => by
    rw [cnts] at hl ⊢
    obtain ⟨o, h1, h2, h3⟩ := hy x (List.mem_cons_self ..) out (by omega)
    obtain ⟨u, u1, u2, u3⟩ := kids_both r o (fun y hy' => hy y (List.mem_cons_of_mem _ hy')) (by omega)
    refine ⟨u, ?_, ?_, by omega⟩
    · rw [style_All.kids, h1, Option.bind_some, u1]
    · rw [style_All.kids, h2, Option.bind_some, u2]
theorem of_both (l : List S41) (path : List S56) (hl : l.length ≤ 60) (hm : path.length ≤ 100) (hg : ∀ x ∈ l, G41 x) (hpath : ∀ e ∈ path, e.f2.length ≤ 1048577) (p0 p1 p2 p3 p4 p5 p6 p7 p8 : Int) (K : Nat) (hK : 100000000000 ≤ K) :
    ∃ x, style_Of.f K l path p0 p1 p2 p3 p4 p5 p6 p7 p8 = some x ∧ colophonref20_Of.f K l path p0 p1 p2 p3 p4 p5 p6 p7 p8 = some x := by
  obtain ⟨ms, m1, m2⟩ := rules_f l path hl hm hg hpath K hK
  have e2 := rof_loop K l path ms m2 [p0, p1, p2, p3, p4, p5, p6, p7, p8] 9 0 [0, 655360, 786432, 0, 0, 0, 0, 0, 1] rfl
  have e3 := of_len ms [p0, p1, p2, p3, p4, p5, p6, p7, p8] 9 0 [0, 655360, 786432, 0, 0, 0, 0, 0, 1]
  obtain ⟨x, hx⟩ := tup9_len (style_Of.loop ms [p0, p1, p2, p3, p4, p5, p6, p7, p8] 9 0 [0, 655360, 786432, 0, 0, 0, 0, 0, 1]) e3
  refine ⟨x, ?_, ?_⟩
  · unfold style_Of.f
    rw [m1, Option.bind_some, hx]
  · unfold colophonref20_Of.f
    rw [e2, Option.bind_some, hx]
theorem down_both (l : List S41) (hl : l.length ≤ 60) (hg : ∀ x ∈ l, G41 x) (x : S52) (h : OKN x) : ∀ (k : Nat) (path : List S56) (par : S33) (out : List S33), 100000000000 + dep x ≤ k → path.length + dep x ≤ 61 → (∀ e ∈ path, e.f2.length ≤ 1048577) → out.length + cnt x ≤ 1000 →
    ∃ r, style_All.down l k path x par out = some r ∧ colophonref20_all.down l k path x par out = some r ∧ r.length ≤ out.length + cnt x := by
  induction h with
  | mk x h0 h1 h2 h3 h5 h4 ih =>
    intro k path par out hk hp hpath ho
    rw [dep_eq] at hk hp
    rw [cnt_eq] at ho ⊢
    obtain ⟨k, rfl⟩ : ∃ z, k = z + 1 := ⟨k - 1, by omega⟩
    rw [style_All.down, colophonref20_all.down]
    cases hx : x.f0.toList.isEmpty with
    | true =>
      rw [if_pos rfl, if_pos rfl]
      obtain ⟨r, r1, r2, r3⟩ := kids_both (g := fun x o => style_All.down l k path x par o) (h := fun x o => colophonref20_all.down l k path x par o) x.f3 out (fun y hy o ho2 => by
        have := dep_le hy
        exact ih y hy k path par o (by omega) (by omega) hpath ho2) (by omega)
      exact ⟨r, r1, r2, by omega⟩
    | false =>
      rw [if_neg (show ¬ (false = true) by decide), if_neg (show ¬ (false = true) by decide), if_pos (show path.length < 1000000 ∧ out.length < 1000000 from ⟨by omega, by omega⟩), if_pos (show path.length < 1000000 ∧ out.length < 1000000 from ⟨by omega, by omega⟩)]
      obtain ⟨f, f1, f2⟩ := facts_both k x.f0 x.f1 x.f2 x.f3 x.f3 x.f4 x.f4 (by have := h2.1; omega) (fun a ha => Nat.le_trans (h2.2 a ha).2 (by decide)) (by have := h2.1; omega)
      have hf : f.2.2.length ≤ 1048577 := by
        unfold style_Facts.f at f1
        rw [if_pos (List.all_eq_true.mpr (fun a ha => decide_eq_true (Nat.le_trans (h2.2 a ha).2 (by decide)))), go_fst] at f1
        obtain rfl := Option.some.inj f1
        dsimp only
        rw [if_neg (show ¬ (false = true) by decide)]
        split
        · have q1 := fields_len (fst [99, 108, 97, 115, 115] x.f2).1
          have q2 := fst_size [99, 108, 97, 115, 115] 1048576 x.f2 (fun a ha => (h2.2 a ha).2)
          omega
        · simp
      have hp2 : ∀ e ∈ path ++ [(⟨f.1, f.2.1, f.2.2⟩ : S56)], e.f2.length ≤ 1048577 := by
        intro e he
        rcases List.mem_append.mp he with he | he
        · exact hpath e he
        · rw [List.mem_singleton] at he
          subst he
          exact hf
      obtain ⟨q, q1, q2⟩ := of_both l (path ++ [(⟨f.1, f.2.1, f.2.2⟩ : S56)]) hl (by rw [List.length_append, List.length_singleton]; omega) hg hp2 par.f0 par.f1 par.f2 par.f3 par.f4 par.f5 par.f6 par.f7 par.f8 k (by omega)
      obtain ⟨r, r1, r2, r3⟩ := kids_both (g := fun x o => style_All.down l k (path ++ [(⟨f.1, f.2.1, f.2.2⟩ : S56)]) x (style_All.s33 q) o) (h := fun x o => colophonref20_all.down l k (path ++ [(⟨f.1, f.2.1, f.2.2⟩ : S56)]) x (style_All.s33 q) o) x.f3 (out ++ [style_All.s33 q]) (fun y hy o ho2 => by
        have := dep_le hy
        exact ih y hy k _ _ o (by omega) (by rw [List.length_append, List.length_singleton]; omega) hp2 ho2) (by rw [List.length_append, List.length_singleton]; omega)
      rw [List.length_append, List.length_singleton] at r3
      refine ⟨r, ?_, ?_, by omega⟩
      · rw [f1, Option.bind_some, q1, Option.bind_some]
        exact r1
      · rw [f2, Option.bind_some, q2, Option.bind_some]
        exact r2

theorem wakes_f : colophonlaw20_wakes.f 60 = some true := by decide +kernel
theorem wakes_k (k : Nat) (hk : 60 ≤ k) : colophonlaw20_wakes.f k = some true := at_rounds (g := fun k => colophonlaw20_wakes.f k) colophonlaw20_wakes.mono hk wakes_f
theorem all_l0 (r : List S33) (hr : r.length ≤ 1000) (x : S52) (K : Nat) (hK : ∀ k, K ≤ k → colophonref18_Same.f k x.f0 x.f1 x.f2 x.f3 x.f4 x.f0 x.f1 x.f2 x.f3 x.f4 = some true) : ∀ (d k i : Nat), i + d = r.length → K + d + 100 ≤ k →
    colophonlaw20_StyleAll.l0 k r r (i : Int) x.f0 x.f1 x.f2 x.f3 x.f4 x.f0 x.f1 x.f2 x.f3 x.f4 = some true := by
  intro d
  induction d with
  | zero =>
    intro k i h1 h2
    obtain ⟨k, rfl⟩ : ∃ q, k = q + 1 := ⟨k - 1, by omega⟩
    rw [colophonlaw20_StyleAll.l0, if_neg (by omega), hK k (by omega), Option.bind_some, if_pos rfl, wakes_k k (by omega), Option.bind_some]
  | succ d ih =>
    intro k i h1 h2
    obtain ⟨k, rfl⟩ : ∃ q, k = q + 1 := ⟨k - 1, by omega⟩
    rw [colophonlaw20_StyleAll.l0, if_pos (by omega), if_pos (by omega), if_pos (by omega), if_pos rfl, if_pos rfl, if_pos rfl, if_pos rfl, if_pos rfl, if_pos rfl, if_pos rfl, if_pos rfl, if_pos rfl, casN i (by omega), ih k (i + 1) (by omega) (by omega)]
theorem pure (l : List S41) (w0 : OKL l) (x : S52) (w1 : OKN x) : ∃ k, colophonlaw20_StyleAll.f k l x.f0 x.f1 x.f2 x.f3 x.f4 = some true := by
  obtain ⟨K1, hK1⟩ := copy_node x w1
  obtain ⟨K2, hK2⟩ := val_node x w1
  obtain ⟨K3, hK3⟩ := same_node x w1
  refine ⟨K1 + K2 + K3 + 200000000000, ?_⟩
  obtain ⟨k, hk⟩ : ∃ k, k + 1 = K1 + K2 + K3 + 200000000000 := ⟨K1 + K2 + K3 + 199999999999, by omega⟩
  rw [← hk]
  have hw := wakes_k k (by omega)
  obtain ⟨t, t1, t2⟩ := (large_both l w0 3001).1 (k + 1) 0 0 (Nat.zero_le _) (by omega) (by omega) (by omega) (by omega)
  have t1' : colophonlaw19_Large.f (k + 1) l = some t := t1
  have J : colophonlaw20_StyleAll.j0 (k + 1) l true x.f0 x.f1 x.f2 x.f3 x.f4 = some true := by
    rw [colophonlaw20_StyleAll.j0, if_pos rfl, hw, Option.bind_some]
  unfold colophonlaw20_StyleAll.f
  rw [t1', Option.bind_some]
  cases t with
  | true => rw [if_pos rfl, J]
  | false =>
    rw [if_neg (by decide)]
    by_cases c : (l.length : Int) > 30
    · rw [if_pos c, J]
    · obtain ⟨v, hv, v1, v2, v3⟩ := hK2 (k + 1) (by omega) 0 0 (by omega) (by omega) (by omega) (by omega)
      rw [if_neg c]
      unfold colophonlaw18_Large.f
      rw [hv, Option.bind_some, Option.bind_some]
      by_cases c2 : v < 0
      · rw [decide_eq_true c2, J]
      · rw [decide_eq_false c2]
        have v4 := v3 (by omega)
        have hd : dep x ≤ 61 := by omega
        have hc : cnt x ≤ 300 := by omega
        obtain ⟨r, r1, r2, r3⟩ := down_both l (by omega) (t2 rfl).2 x w1 k [] ⟨0, 655360, 786432, 0, 0, 0, 0, 0, 1⟩ [] (by omega) (by simpa using hd) (fun e he => by cases he) (by simp; omega)
        have a1 : style_All.f k l x.f0 x.f1 x.f2 x.f3 x.f4 = some r := by
          unfold style_All.f
          rw [eta52]
          exact r1
        have a2 : colophonref20_All.f k l x.f0 x.f1 x.f2 x.f3 x.f4 = some r := by
          unfold colophonref20_All.f
          rw [eta52]
          exact r2
        have q := all_l0 r (by simp at r3; omega) x K3 hK3 r.length k 0 (by omega) (by simp at r3; omega)
        rw [colophonlaw20_StyleAll.j0, if_neg (show ¬ (false = true) by decide), hK1 k (by omega), Option.bind_some]
        dsimp only
        rw [copy_f l (by omega) (t2 rfl).2 k (by omega), Option.bind_some, a1, Option.bind_some, a2, Option.bind_some, if_pos rfl]
        exact q

theorem pureN (l : List S41) (f0 f1 : ByteArray) (f2 : List S82) (f3 : List S52) (f4 : Int)
    (w : (l.length * 48 ≤ 140737488351232 ∧ l.length ≤ 1048576) ∧ ∀ x ∈ l, ((x.f0.length * 24 ≤ 140737488351232 ∧ x.f0.length ≤ 1048576) ∧ ∀ s ∈ x.f0, (s.f0.length * 64 ≤ 140737488351232 ∧ s.f0.length ≤ 1048576) ∧ ∀ p ∈ s.f0, p.f0.size ≤ 1048576 ∧ p.f1.size ≤ 1048576 ∧ ((p.f2.length * 16 ≤ 140737488351232 ∧ p.f2.length ≤ 1048576) ∧ ∀ s ∈ p.f2, s.size ≤ 1048576) ∧ True) ∧ ((x.f1.length * 16 ≤ 140737488351232 ∧ x.f1.length ≤ 1048576) ∧ ∀ d ∈ x.f1, (Lit.int .i64 d.f0).wf = true ∧ (Lit.int .i64 d.f1).wf = true))
    (v : f0.size ≤ 1048576 ∧ f1.size ≤ 1048576 ∧ ((f2.length * 32 ≤ 140737488351232 ∧ f2.length ≤ 1048576) ∧ ∀ a ∈ f2, a.f0.size ≤ 1048576 ∧ a.f1.size ≤ 1048576) ∧ ((f3.length * 88 ≤ 140737488351232 ∧ f3.length ≤ 1048576) ∧ ∀ k ∈ f3, OKN k) ∧ (Lit.int .i64 f4).wf = true) : ∃ k, colophonlaw20_StyleAll.f k l f0 f1 f2 f3 f4 = some true :=
  pure l ⟨w.1.1, fun x hx => ⟨⟨(w.2 x hx).1.1.1, fun s hs => ⟨((w.2 x hx).1.2 s hs).1.1, fun p hp =>
    have q := ((w.2 x hx).1.2 s hs).2 p hp
    ⟨Nat.le_trans q.1 (by decide), Nat.le_trans q.2.1 (by decide), ⟨q.2.2.1.1.1, fun z hz => Nat.le_trans (q.2.2.1.2 z hz) (by decide)⟩, trivial⟩⟩⟩, (w.2 x hx).2.1.1, (w.2 x hx).2.2⟩⟩
    ⟨f0, f1, f2, f3, f4⟩ (.mk _ v.1 v.2.1 ⟨v.2.2.1.1.2, v.2.2.1.2⟩ v.2.2.2.1.1.2 v.2.2.2.1.2 v.2.2.2.2)

end Go.Proofs.Ytpembifnjlekdaa.PureStyleAll
