/- The plain law of PagesAll: of short lists the best way costs as little as any that is found by trying all of them, for all lists and numbers. -/
import Derived.Test.YtogjeababinnlaaAllC
import Derived.Test.YtogjeababinnlaaPurePagesAllD
namespace Go.Proofs.Ytogjeababinnlaa.PurePagesAll
open Go.RowKit Go.Proofs.Ytogjeababinnlaa Go.Proofs.Ytogjeababinnlaa.PPagesAll Go.Proofs.YtogjeababinnlaaW.PrintWords Go.Proofs.YtogjeababinnlaaW.PrintLast Go.Proofs.YtogjeababinnlaaW.PrintMore
def pages_Cost.sum (l0 : List S43) (h : Int) : List Int → Int → Int → Option (Int × Bool)
  | [], s, _ => some (s, true)
  | b :: r, s, a => if b ≤ a then some (0, false) else (pages_column_legal.f l0 (pages_ready.hs l0) (pages_ready.fs l0) (pages_ready.ms l0) b).bind fun t => if t = false then some (0, false) else
      (pages_column_cost.f l0 (pages_ready.hs l0) (pages_ready.fs l0) (pages_ready.ms l0) a b h).bind fun c => if c.2 = false then some (0, false) else pages_Cost.sum l0 h r (wrap64 (s + c.1)) b
def pages_Cost.f (k : Nat) (l0 : List (S43)) (l1 : List Int) (a2 : Int) : Option (Int × Bool) :=
  (pages_Good.f k l0).bind fun t => if t = false then some (0, false) else (pages_room.f a2).bind fun u => if u = false then some (0, false) else
    if l1.length = 0 then some (0, false) else if rd l1 ((l1.length : Int) - 1) = (l0.length : Int) - 1 then (if l0.length ≤ 1024 ∧ l1.length ≤ 100000 then pages_Cost.sum l0 a2 l1 0 (-1) else none) else (if l0.length ≤ 1024 ∧ l1.length ≤ 100000 then some (0, false) else none)

/-! ### ways and their costs -/
theorem sum_way (l : List S43) (hG : goodP l) (h : Int) (hh : 1 ≤ h ∧ h ≤ 1073741824) : ∀ (p : List Int) (i : Nat) (s : Int), i ≤ l.length → -20000 * (i : Int) ≤ s ∧ s ≤ 20000 * (i : Int) → way l h i p →
    pages_Cost.sum l h p s ((i : Int) - 1) = some (s + wcost l h i p, true)
  | [], i, s, hi, hs, _ => by unfold pages_Cost.sum wcost; rw [Int.add_zero]
  | b :: r, i, s, hi, hs, hw => by
    obtain ⟨j, rfl, h2, h3, h4, h5⟩ := hw
    have hn := hG.1.2
    have hj := leg_b l (j : Int) h3
    have hc := costV_b l hG i j h hi (by omega) hh
    have ih := sum_way l hG h hh r (j + 1) (s + (costV l i j h).1) (by omega) (by omega) h5
    rw [show ((j + 1 : Nat) : Int) - 1 = (j : Int) by omega] at ih
    rw [pages_Cost.sum, if_neg (by omega), legal_f, Option.bind_some, if_neg (by rw [h3]; decide), cost_f l hG i j h hi (by omega) hh, Option.bind_some, if_neg (by rw [h4]; decide), w_in (by omega), ih]
    rw [wcost_cons, Int.add_assoc]
theorem way_sum (l : List S43) (hG : goodP l) (h : Int) (hh : 1 ≤ h ∧ h ≤ 1073741824) (t : Int) : ∀ (p : List Int) (i : Nat) (s : Int), i ≤ l.length → -20000 * (i : Int) ≤ s ∧ s ≤ 20000 * (i : Int) → p ≠ [] → rd p ((p.length : Int) - 1) = (l.length : Int) - 1 →
    pages_Cost.sum l h p s ((i : Int) - 1) = some (t, true) → way l h i p ∧ t = s + wcost l h i p
  | [], _, _, _, _, hp, _, _ => absurd rfl hp
  | b :: r, i, s, hi, hs, _, hL, he => by
    have hn := hG.1.2
    rw [pages_Cost.sum] at he
    by_cases c1 : b ≤ (i : Int) - 1
    · rw [if_pos c1] at he; simp at he
    rw [if_neg c1, legal_f, Option.bind_some] at he
    by_cases c2 : legB l b = true
    · have hj := leg_b l b c2
      obtain ⟨j, rfl⟩ : ∃ j : Nat, b = (j : Int) := ⟨b.toNat, by omega⟩
      rw [if_neg (by rw [c2]; decide), cost_f l hG i j h hi (by omega) hh, Option.bind_some] at he
      have hc := costV_b l hG i j h hi (by omega) hh
      by_cases c3 : (costV l i j h).2 = true
      · rw [if_neg (by rw [c3]; decide), w_in (by omega)] at he
        cases r with
        | nil =>
          have hL' : (j : Int) = (l.length : Int) - 1 := by simpa [rd] using hL
          unfold pages_Cost.sum at he
          simp only [Option.some.injEq, Prod.mk.injEq, and_true] at he
          refine ⟨⟨j, rfl, by omega, c2, c3, ?_⟩, ?_⟩
          · show j + 1 = l.length
            omega
          · unfold wcost wcost
            rw [Int.toNat_natCast]
            omega
        | cons b' r' =>
          have hL' : rd (b' :: r') (((b' :: r').length : Int) - 1) = (l.length : Int) - 1 := by
            rw [← hL]
            unfold rd
            have e1 : (((b' :: r').length : Int) - 1).toNat = r'.length := by simp
            have e2 : ((((j : Int) :: b' :: r').length : Int) - 1).toNat = r'.length + 1 := by simp <;> omega
            rw [e1, e2]
            simp
          rw [show (j : Int) = ((j + 1 : Nat) : Int) - 1 by omega] at he
          obtain ⟨w1, w2⟩ := way_sum l hG h hh t (b' :: r') (j + 1) (s + (costV l i j h).1) (by omega) (by omega) (by simp) hL' he
          refine ⟨⟨j, rfl, by omega, c2, c3, w1⟩, ?_⟩
          rw [w2]
          rw [wcost_cons, Int.add_assoc]
      · rw [if_pos (by simpa using c3)] at he; simp at he
    · rw [if_pos (by simpa using c2)] at he; simp at he
theorem way_last (l : List S43) (h : Int) : ∀ (p : List Int) (i : Nat), p ≠ [] → way l h i p → rd p ((p.length : Int) - 1) = (l.length : Int) - 1
  | [], _, hp, _ => absurd rfl hp
  | [b], i, _, hw => by
    obtain ⟨j, rfl, h2, h3, h4, h5⟩ := hw
    have h5 : j + 1 = l.length := h5
    simp [rd]
    omega
  | b :: b' :: r, i, _, hw => by
    obtain ⟨j, rfl, h2, h3, h4, h5⟩ := hw
    have ih := way_last l h (b' :: r) (j + 1) (by simp) h5
    rw [← ih]
    unfold rd
    have e1 : (((b' :: r).length : Int) - 1).toNat = r.length := by simp
    have e2 : ((((j : Int) :: b' :: r).length : Int) - 1).toNat = r.length + 1 := by simp <;> omega
    rw [e1, e2]
    simp
/-- Cost, told by ways. -/
theorem cost_way (K : Nat) (hK : 50000 ≤ K) (l : List S43) (hl : l.length ≤ 5000) (m : List Int) (hm : m.length ≤ 100000) (h : Int) :
    ∃ t ok, pages_Cost.f K l m h = some (t, ok) ∧ (ok = true → (goodP l ∧ 1 ≤ h ∧ h ≤ 1073741824) ∧ way l h 0 m ∧ t = wcost l h 0 m) := by
  unfold pages_Cost.f
  rw [good_f K (by omega) l hl, Option.bind_some]
  by_cases hG : goodP l
  · rw [decide_eq_true hG, if_neg (by decide), room_f, Option.bind_some]
    by_cases hh : 1 ≤ h ∧ h ≤ 1073741824
    · rw [decide_eq_true hh, if_neg (by decide)]
      by_cases h0 : m.length = 0
      · rw [if_pos h0]
        exact ⟨_, _, rfl, fun x => by simp at x⟩
      · rw [if_neg h0]
        have hc : l.length ≤ 1024 ∧ m.length ≤ 100000 := ⟨hG.1.2, hm⟩
        by_cases hL : rd m ((m.length : Int) - 1) = (l.length : Int) - 1
        · rw [if_pos hL, if_pos hc]
          have tot : ∀ (m : List Int) (s a : Int), (a = -1 ∨ legB l a = true) → ∃ t ok, pages_Cost.sum l h m s a = some (t, ok) := by
            intro m
            induction m with
            | nil => intro s a _; exact ⟨_, _, rfl⟩
            | cons b r ih =>
              intro s a ha
              rw [pages_Cost.sum]
              by_cases c1 : b ≤ a
              · rw [if_pos c1]; exact ⟨_, _, rfl⟩
              rw [if_neg c1, legal_f, Option.bind_some]
              by_cases c2 : legB l b = true
              · have hj := leg_b l b c2
                obtain ⟨j, ej⟩ : ∃ j : Nat, b = (j : Int) := ⟨b.toNat, by omega⟩
                obtain ⟨i, ei, hi⟩ : ∃ i : Nat, a = (i : Int) - 1 ∧ i ≤ l.length := by
                  rcases ha with ha | ha
                  · exact ⟨0, by omega, Nat.zero_le _⟩
                  · have := leg_b l a ha
                    exact ⟨(a + 1).toNat, by omega, by omega⟩
                have c := cost_f l hG i j h hi (by omega) hh
                rw [← ei, ← ej] at c
                rw [if_neg (by rw [c2]; decide), c, Option.bind_some]
                by_cases c3 : (costV l i j h).2 = true
                · rw [if_neg (by rw [c3]; decide)]
                  exact ih _ b (.inr c2)
                · rw [if_pos (by simpa using c3)]; exact ⟨_, _, rfl⟩
              · rw [if_pos (by simpa using c2)]; exact ⟨_, _, rfl⟩
          obtain ⟨t, ok, e⟩ := tot m 0 (-1) (.inl rfl)
          refine ⟨t, ok, e, fun x => ⟨⟨hG, hh⟩, ?_⟩⟩
          subst x
          have := way_sum l hG h hh t m 0 0 (Nat.zero_le _) (by omega) (by intro z; rw [z] at h0; exact h0 rfl) hL e
          exact ⟨this.1, by rw [this.2]; omega⟩
        · rw [if_neg hL, if_pos hc]
          exact ⟨_, _, rfl, fun x => by simp at x⟩
    · rw [decide_eq_false hh, if_pos rfl]
      exact ⟨_, _, rfl, fun x => by simp at x⟩
  · rw [decide_eq_false hG, if_pos rfl]
    exact ⟨_, _, rfl, fun x => by simp at x⟩
theorem cost_back (K : Nat) (hK : 50000 ≤ K) (l : List S43) (hl : l.length ≤ 5000) (p : List Int) (hm : p.length ≤ 100000) (h : Int) (hG : goodP l) (hh : 1 ≤ h ∧ h ≤ 1073741824) (hp : p ≠ []) (hw : way l h 0 p) :
    pages_Cost.f K l p h = some (wcost l h 0 p, true) := by
  unfold pages_Cost.f
  have h0 : ¬ p.length = 0 := by intro z; exact hp (List.eq_nil_of_length_eq_zero z)
  have s := sum_way l hG h hh p 0 0 (Nat.zero_le _) (by omega) hw
  rw [show (((0 : Nat) : Int) - 1) = -1 by omega, Int.zero_add] at s
  rw [good_f K (by omega) l hl, Option.bind_some, decide_eq_true hG, if_neg (by decide), room_f, Option.bind_some, decide_eq_true hh, if_neg (by decide), if_neg h0, if_pos (way_last l h p 0 hp hw), if_pos ⟨hG.1.2, hm⟩, s]

/-- What a page lies between: from a break, or ahead of all, to a break. -/
theorem rpage_f (l : List S43) (a b : Int) : colophonref27_page.f l a b = some (decide ((a = -1 ∨ legB l a = true) ∧ legB l b = true ∧ a < b)) := by
  unfold colophonref27_page.f
  by_cases h1 : a = -1
  · rw [if_pos h1, rlegal_f, Option.bind_some]
    by_cases h2 : legB l b = true
    · rw [if_pos h2]; simp [h1, h2]
    · rw [if_neg h2]; simp [h2]
  · rw [if_neg h1, rlegal_f, Option.bind_some]
    by_cases h3 : legB l a = true
    · rw [if_pos h3, rlegal_f, Option.bind_some]
      by_cases h2 : legB l b = true
      · rw [if_pos h2]; simp [h1, h2, h3]
      · rw [if_neg h2]; simp [h2]
    · rw [if_neg h3]; simp [h1, h3]
/-- A break's number, and 1 more. -/
theorem from_nat (l : List S43) (a : Int) (h : a = -1 ∨ legB l a = true) : ∃ i : Nat, a = (i : Int) - 1 ∧ i ≤ l.length := by
  rcases h with h | h
  · exact ⟨0, by omega, Nat.zero_le _⟩
  · have := leg_b l a h
    exact ⟨(a + 1).toNat, by omega, by omega⟩
theorem sum_both (l : List S43) (hG : goodP l) (h : Int) (hh : 1 ≤ h ∧ h ≤ 1073741824) (m : List Int) (hm : m.length ≤ 2000) : ∀ (d k i : Nat) (s a : Int), i + d = m.length → d + 50000 ≤ k → (a = -1 ∨ legB l a = true) →
    ∃ v, pages_Cost.sum l h (m.drop i) s a = some v ∧ colophonref27_Cost.l0 k l m h s a (i : Int) = some v := by
  intro d
  induction d with
  | zero =>
    intro k i s a hd hk ha
    obtain ⟨k, rfl⟩ : ∃ q, k = q + 1 := ⟨k - 1, by omega⟩
    rw [List.drop_eq_nil_of_le (by omega), colophonref27_Cost.l0, if_neg (by omega)]
    exact ⟨(s, true), rfl, rfl⟩
  | succ d ih =>
    intro k i s a hd hk ha
    obtain ⟨k, rfl⟩ : ∃ q, k = q + 1 := ⟨k - 1, by omega⟩
    have hi : i < m.length := by omega
    have ed : m.drop i = rd m (i : Int) :: m.drop (i + 1) := by
      rw [List.drop_eq_getElem_cons hi]
      simp [rd, List.getD_eq_getElem?_getD, hi]
    have hw : wrap64 ((i : Int) + 1) = ((i + 1 : Nat) : Int) := by rw [w_in (by omega)]; omega
    rw [ed, pages_Cost.sum, colophonref27_Cost.l0, if_pos (show (i : Int) < (m.length : Int) by omega), if_pos (show (0 : Int) ≤ (i : Int) by omega), rpage_f, Option.bind_some, hw]
    generalize rd m (i : Int) = b
    by_cases hab : b ≤ a
    · rw [if_pos hab, if_neg (by rw [decide_eq_true_eq]; omega)]
      exact ⟨_, rfl, rfl⟩
    · rw [if_neg hab, legal_f, Option.bind_some]
      by_cases hb : legB l b = true
      · rw [if_neg (by rw [hb]; decide), if_pos (by rw [decide_eq_true_eq]; exact ⟨ha, hb, by omega⟩)]
        have hB := leg_b l b hb
        obtain ⟨i', e, hi'⟩ := from_nat l a ha
        obtain ⟨j, ej⟩ : ∃ j : Nat, b = (j : Int) := ⟨b.toNat, by omega⟩
        have c1 := cost_f l hG i' j h hi' (by omega) hh
        have c2 := rcost_f l hG k (by omega) i' j h hi' (by omega) hh
        rw [← e, ← ej] at c1 c2
        rw [c1, c2, Option.bind_some, Option.bind_some]
        by_cases ho : (costV l i' j h).2 = true
        · rw [if_neg (by rw [ho]; decide), if_pos ho]
          exact ih k (i + 1) _ b (by omega) (by omega) (.inr hb)
        · rw [if_pos (by simpa using ho), if_neg ho]
          exact ⟨_, rfl, rfl⟩
      · rw [if_pos (by simpa using hb), if_neg (by rw [decide_eq_true_eq]; exact fun h => hb h.2.1)]
        exact ⟨_, rfl, rfl⟩
theorem costs (l : List S43) (hl : l.length ≤ 5000) (m : List Int) (hm : m.length ≤ 2000) (K : Nat) (hK : 100000 ≤ K) (h : Int) : ∃ v, pages_Cost.f K l m h = some v ∧ colophonref27_Cost.f K l m h = some v := by
  obtain ⟨K, rfl⟩ : ∃ q, K = q + 1 := ⟨K - 1, by omega⟩
  have hj : colophonref27_Cost.j0 (K + 1) l m h true = some (0, false) := by rw [colophonref27_Cost.j0, if_pos rfl]
  unfold pages_Cost.f colophonref27_Cost.f
  rw [good_f (K + 1) (by omega) l hl, rgood_f (K + 1) (by omega) l hl, Option.bind_some, Option.bind_some]
  by_cases hG : goodP l
  · rw [decide_eq_true hG, if_neg (by decide), if_pos rfl, room_f, Option.bind_some]
    by_cases h1 : h < 1
    · rw [if_pos h1, hj, decide_eq_false (by omega), if_pos rfl]
      exact ⟨_, rfl, rfl⟩
    · rw [if_neg h1]
      by_cases h2 : h > 1073741824
      · rw [if_pos h2, hj, decide_eq_false (by omega), if_pos rfl]
        exact ⟨_, rfl, rfl⟩
      · rw [if_neg h2, decide_eq_true (show 1 ≤ h ∧ h ≤ 1073741824 by omega), if_neg (by decide)]
        by_cases h3 : m.length = 0
        · rw [if_pos h3, if_pos (by omega), hj]
          exact ⟨_, rfl, rfl⟩
        · have hw1 : wrap64 ((m.length : Int) - 1) = (m.length : Int) - 1 := w_in (by omega)
          have hw2 : wrap64 ((l.length : Int) - 1) = (l.length : Int) - 1 := w_in (by omega)
          have hc : l.length ≤ 1024 ∧ m.length ≤ 100000 := ⟨hG.1.2, by omega⟩
          rw [if_neg h3, if_neg (show ¬ (m.length : Int) = 0 by omega), hw1, hw2, if_pos (show (0 : Int) ≤ (m.length : Int) - 1 by omega), if_pos (show (m.length : Int) - 1 < (m.length : Int) by omega), if_pos hc, if_pos hc, colophonref27_Cost.j0]
          by_cases h4 : rd m ((m.length : Int) - 1) = (l.length : Int) - 1
          · rw [if_pos h4, if_neg (by rw [h4]; simp)]
            exact sum_both l hG h (by omega) m hm m.length K 0 0 (-1) (by omega) (by omega) (.inl rfl)
          · rw [if_neg h4, if_pos (bne_iff_ne.mpr h4)]
            exact ⟨_, rfl, rfl⟩
  · rw [decide_eq_false hG, if_pos rfl, if_neg (by decide), hj]
    exact ⟨_, rfl, rfl⟩

/-! ### the search that tries all ways -/
def nxt : Nat → List Int → Nat
  | i, [] => i
  | _, b :: r => nxt (b.toNat + 1) r
theorem nxt_snoc (b : Int) : ∀ (m : List Int) (i : Nat), nxt i (m ++ [b]) = b.toNat + 1
  | [], _ => rfl
  | c :: r, _ => nxt_snoc b r (c.toNat + 1)
theorem last_snoc (m : List Int) (b : Int) : lastOf (m ++ [b]) = b := by
  unfold lastOf rd
  have e : (((m ++ [b]).length : Int) - 1).toNat = m.length := by rw [List.length_append]; simp
  rw [e, if_pos (by simp), List.getD_eq_getElem?_getD, List.getElem?_append_right (Nat.le_refl _)]
  simp
theorem way_app (l : List S43) (h : Int) (q : List Int) : ∀ (m : List Int) (i : Nat), way l h i (m ++ q) → way l h (nxt i m) q
  | [], _, hw => hw
  | b :: r, i, hw => by
    obtain ⟨j, rfl, h2, h3, h4, h5⟩ := hw
    rw [nxt, Int.toNat_natCast]
    exact way_app l h q r (j + 1) h5
/-- Where a way so far has come to. -/
structure At (l : List S43) (m : List Int) (i : Nat) : Prop where
  n : nxt 0 m = i
  la : lastOf m = (i : Int) - 1
  le : i ≤ l.length
  len : m.length ≤ i
  leg : i = 0 ∨ legB l ((i : Int) - 1) = true
theorem At.snoc {l : List S43} {m : List Int} {i : Nat} (h : At l m i) (j : Nat) (hij : i ≤ j) (hl : legB l (j : Int) = true) : At l (m ++ [(j : Int)]) (j + 1) := by
  have hb := leg_b l _ hl
  have := h.len
  refine ⟨by rw [nxt_snoc, Int.toNat_natCast], by rw [last_snoc]; omega, by omega, by rw [List.length_append]; simp; omega, .inr ?_⟩
  rw [show ((j + 1 : Nat) : Int) - 1 = (j : Int) by omega]
  exact hl
def Inv (l : List S43) (h : Int) (X : Int × Int × Bool) : Prop := X.2.2 = true → ∃ p, way l h 0 p ∧ wcost l h 0 p = X.2.1
structure Up (l : List S43) (h : Int) (X Y : Int × Int × Bool) : Prop where
  p : 0 ≤ Y.1
  q : Y.1 ≤ X.1
  s : X.2.2 = true → Y.2.2 = true ∧ Y.2.1 ≤ X.2.1
  i : Inv l h X → Inv l h Y
theorem Up.refl {l : List S43} {h : Int} (X : Int × Int × Bool) (h0 : 0 ≤ X.1) : Up l h X X := ⟨h0, Int.le_refl _, fun x => ⟨x, Int.le_refl _⟩, fun x => x⟩
theorem Up.trans {l : List S43} {h : Int} {X Y Z : Int × Int × Bool} (a : Up l h X Y) (b : Up l h Y Z) : Up l h X Z :=
  ⟨b.p, Int.le_trans b.q a.q, fun x => ⟨(b.s (a.s x).1).1, Int.le_trans (b.s (a.s x).1).2 (a.s x).2⟩, fun x => b.i (a.i x)⟩
/-- What is known of the ways that a list of breaks goes on to. -/
def Got (l : List S43) (h : Int) (Y : Int × Int × Bool) (p : List Int) : Prop := way l h 0 p → Y.2.2 = true ∧ Y.2.1 ≤ wcost l h 0 p
theorem Got.up {l : List S43} {h : Int} {X Y : Int × Int × Bool} {p : List Int} (g : Got l h X p) (u : Up l h X Y) : Got l h Y p := fun hw => ⟨(u.s (g hw).1).1, Int.le_trans (u.s (g hw).1).2 (g hw).2⟩
theorem way_end {l : List S43} {h : Int} {q : List Int} (hw : way l h l.length q) : q = [] := by
  cases q with
  | nil => rfl
  | cons b r =>
    obtain ⟨j, rfl, h2, h3, _⟩ := hw
    have := leg_b l _ h3
    omega
theorem rHeight_f (l : List S43) (hl : l.length ≤ 5000) (hG : goodP l) (K : Nat) (hK : 50000 ≤ K) (i b : Nat) (hi : i = 0 ∨ legB l ((i : Int) - 1) = true) (hin : i ≤ l.length) (hb : legB l (b : Int) = true) (hib : i ≤ b) : colophonref27_Height.f K l ((i : Int) - 1) (b : Int) = some (pg l i b) := by
  have hB := leg_b l _ hb
  have ha : (i : Int) - 1 = -1 ∨ legB l ((i : Int) - 1) = true := by
    rcases hi with hi | hi
    · exact .inl (by omega)
    · exact .inr hi
  unfold colophonref27_Height.f
  rw [rgood_f K (by omega) l hl, Option.bind_some, decide_eq_true hG, if_pos rfl, rpage_f, Option.bind_some, if_pos (by rw [decide_eq_true_eq]; exact ⟨ha, hb, by omega⟩), rheight_f l hG K (by omega) i b hin (by omega), Option.bind_some]
theorem forced_stop {l : List S43} {h : Int} {i b j : Nat} (hib : i ≤ b) (hbj : b < j) (hj : j < l.length) (hF : isF (rd_T43 l (b : Int))) (hc : (costV l i j h).2 = true) : False := by
  obtain ⟨f, e, h1, h2, h3, h4⟩ := M_spec l (l.length - i) i (by omega)
  have c := (cost_must hc).1
  rw [e] at c
  exact h3 b hib (by omega) hF
theorem rCost_f (l : List S43) (hl : l.length ≤ 5000) (hG : goodP l) (h : Int) (hh : 1 ≤ h ∧ h ≤ 1073741824) (m : List Int) (hm : m.length ≤ 2000) (hn : m ≠ []) (K : Nat) (hK : 100000 ≤ K) :
    ∃ t ok, colophonref27_Cost.f K l m h = some (t, ok) ∧ (ok = true → way l h 0 m ∧ t = wcost l h 0 m) ∧ (way l h 0 m → ok = true) := by
  obtain ⟨v, e1, e2⟩ := costs l hl m hm K hK h
  obtain ⟨t, ok, c1, c2⟩ := cost_way K (by omega) l hl m (by omega) h
  rw [c1] at e1
  obtain rfl := Option.some.inj e1
  refine ⟨t, ok, e2, fun x => (c2 x).2, fun hw => ?_⟩
  rw [cost_back K (by omega) l hl m (by omega) h hG hh hn hw] at c1
  have := congrArg Prod.snd (Option.some.inj c1)
  exact this.symm
theorem tl_spec (l : List S43) (hl : l.length ≤ 5000) (hG : goodP l) (h : Int) (hh : 1 ≤ h ∧ h ≤ 1073741824) : ∀ k : Nat,
    (∀ (X : Int × Int × Bool) (m : List Int) (i : Nat), 0 ≤ X.1 → X.1 ≤ 3000 → At l m i → 2 * (l.length - i) + 100003 ≤ k → ∃ Y, tl l h k X m none = some Y ∧ Up l h X Y ∧ (Y.1 ≠ 0 → ∀ q, Got l h Y (m ++ q))) ∧
    (∀ (X : Int × Int × Bool) (m : List Int) (i b : Nat), 0 ≤ X.1 → X.1 ≤ 3000 → At l m i → i ≤ b → b ≤ l.length → 2 * (l.length - b) + 100002 ≤ k → ∃ Y, tl l h k X m (some (b : Int)) = some Y ∧ Up l h X Y ∧ (Y.1 ≠ 0 → ∀ (j : Nat) r, b ≤ j → Got l h Y (m ++ (j : Int) :: r))) := by
  have hn := hG.1
  intro k
  induction k with
  | zero => exact ⟨fun X m i _ _ _ hk => by omega, fun X m i b _ _ _ _ _ hk => by omega⟩
  | succ k ih =>
    obtain ⟨ih1, ih2⟩ := ih
    refine ⟨fun X m i h0 h1 hA hk => ?_, fun X m i b h0 h1 hA hib hbn hk => ?_⟩
    · have hi := hA.le
      have hlen := hA.len
      rw [tl, if_pos ⟨by omega, by omega⟩]
      by_cases cX : X.1 = 0
      · rw [if_pos cX]
        exact ⟨X, rfl, Up.refl X h0, fun x => absurd cX x⟩
      rw [if_neg cX, hA.la, w_in (e := X.1 - 1) (by omega)]
      by_cases cl : (i : Int) - 1 = (l.length : Int) - 1
      · have ei : i = l.length := by omega
        have hm : m ≠ [] := by
          intro x
          have := hA.n
          rw [x] at this
          have : i = 0 := this.symm
          omega
        obtain ⟨t, ok, e1, e2, e3⟩ := rCost_f l hl hG h hh m (by omega) hm k (by omega)
        rw [if_pos cl, e1, Option.bind_some]
        have full : ∀ Y : Int × Int × Bool, (ok = true → Y.2.2 = true ∧ Y.2.1 ≤ t) → ∀ q, Got l h Y (m ++ q) := by
          intro Y hY q hw
          have hq := way_app l h q m 0 hw
          rw [hA.n, ei] at hq
          have hq := way_end hq
          subst hq
          rw [List.append_nil] at hw ⊢
          have ho := e3 hw
          rw [← (e2 ho).2]
          exact hY ho
        dsimp only
        by_cases c : ok = true ∧ (X.2.2 = false ∨ t < X.2.1)
        · rw [if_pos c]
          refine ⟨_, rfl, ⟨by dsimp only; omega, by dsimp only; omega, fun x => ⟨rfl, ?_⟩, fun _ _ => ⟨m, (e2 c.1).1, (e2 c.1).2.symm⟩⟩, fun _ => full _ (fun _ => ⟨rfl, Int.le_refl _⟩)⟩
          rcases c.2 with c2 | c2
          · rw [c2] at x; simp at x
          · exact Int.le_of_lt c2
        · rw [if_neg c]
          refine ⟨_, rfl, ⟨by dsimp only; omega, by dsimp only; omega, fun x => ⟨x, Int.le_refl _⟩, fun x => x⟩, fun _ => full _ (fun ho => ?_)⟩
          have c2 : ¬ (X.2.2 = false ∨ t < X.2.1) := fun x => c ⟨ho, x⟩
          refine ⟨?_, ?_⟩
          · cases hx : X.2.2 with
            | true => rfl
            | false => exact absurd (.inl hx) c2
          · have : ¬ t < X.2.1 := fun x => c2 (.inr x)
            show X.2.1 ≤ t
            omega
      · rw [if_neg cl, w_in (e := (i : Int) - 1 + 1) (by omega), show (i : Int) - 1 + 1 = (i : Int) by omega]
        obtain ⟨Y, y1, y2, y3⟩ := ih2 (X.1 - 1, X.2) m i i (by dsimp only; omega) (by dsimp only; omega) hA (Nat.le_refl _) hi (by omega)
        refine ⟨Y, y1, ⟨y2.p, Int.le_trans y2.q (by dsimp only; omega), y2.s, y2.i⟩, fun hY q hw => ?_⟩
        have hq := way_app l h q m 0 hw
        rw [hA.n] at hq
        cases q with
        | nil =>
          have : i = l.length := hq
          omega
        | cons b r =>
          obtain ⟨j, rfl, h2, _⟩ := hq
          exact y3 hY j r h2 hw
    · rw [tl]
      by_cases cb : (b : Int) < (l.length : Int)
      · have hwb : wrap64 ((b : Int) + 1) = ((b + 1 : Nat) : Int) := by rw [w_in (by omega)]; omega
        rw [if_pos cb, if_pos (by omega), hwb]
        by_cases ck : (rd_T43 l (b : Int)).f0 ≠ 3 ∨ (rd_T43 l (b : Int)).f3 = 10000
        · rw [if_pos ck]
          obtain ⟨Y, y1, y2, y3⟩ := ih2 X m i (b + 1) h0 h1 hA (by omega) (by omega) (by omega)
          refine ⟨Y, y1, y2, fun hY j r hj => ?_⟩
          by_cases e : j = b
          · subst e
            intro hw
            obtain ⟨j', e', _, h3, _⟩ := way_app l h _ m 0 hw
            unfold legB at h3
            rw [decide_eq_true_eq] at h3
            omega
          · exact y3 hY j r (by omega)
        · have hok := (hG.2.1 b (by omega)).2.2.1
          have hleg : legB l (b : Int) = true := by
            unfold legB
            rw [decide_eq_true_eq]
            omega
          rw [if_neg ck, hA.la, rHeight_f l hl hG k (by omega) i b hA.leg hA.le hleg hib, Option.bind_some]
          have mid : ∃ Y1, (if pg l i b ≤ h then tl l h k X (m ++ [(b : Int)]) none else some X) = some Y1 ∧ Up l h X Y1 ∧ (Y1.1 ≠ 0 → ∀ r, Got l h Y1 (m ++ (b : Int) :: r)) := by
            by_cases cp : pg l i b ≤ h
            · rw [if_pos cp]
              obtain ⟨Y1, y1, y2, y3⟩ := ih1 X (m ++ [(b : Int)]) (b + 1) h0 h1 (hA.snoc b hib hleg) (by omega)
              refine ⟨Y1, y1, y2, fun hY r => ?_⟩
              have := y3 hY r
              rw [List.append_assoc] at this
              exact this
            · rw [if_neg cp]
              refine ⟨X, rfl, Up.refl X h0, fun _ r hw => ?_⟩
              obtain ⟨j', e', _, _, h4, _⟩ := way_app l h _ m 0 hw
              rw [hA.n, ← show b = j' by omega] at h4
              exact absurd (cost_must h4).2 cp
          obtain ⟨Y1, y1, y2, y3⟩ := mid
          rw [y1, Option.bind_some]
          by_cases cf : (rd_T43 l (b : Int)).f3 = -10000
          · rw [if_pos cf]
            refine ⟨Y1, rfl, y2, fun hY j r hj => ?_⟩
            by_cases e : j = b
            · subst e
              exact y3 hY r
            · intro hw
              obtain ⟨j', e', _, h3, h4, _⟩ := way_app l h _ m 0 hw
              have hb := leg_b l _ h3
              rw [hA.n, ← show j = j' by omega] at h4
              exact (forced_stop hib (show b < j by omega) (by omega) ⟨by omega, cf⟩ h4).elim
          · rw [if_neg cf]
            obtain ⟨Y, z1, z2, z3⟩ := ih2 Y1 m i (b + 1) y2.p (Int.le_trans y2.q h1) hA (by omega) (by omega) (by omega)
            refine ⟨Y, z1, y2.trans z2, fun hY j r hj => ?_⟩
            by_cases e : j = b
            · subst e
              have := z2.p
              have := z2.q
              exact (y3 (by omega) r).up z2
            · exact z3 hY j r (by omega)
      · rw [if_neg cb]
        refine ⟨X, rfl, Up.refl X h0, fun _ j r hj hw => ?_⟩
        obtain ⟨j', e', _, h3, _⟩ := way_app l h _ m 0 hw
        have := leg_b l _ h3
        omega
theorem all_f (l : List S43) (hl : l.length ≤ 5000) (hG : goodP l) (h : Int) (hh : 1 ≤ h ∧ h ≤ 1073741824) (K : Nat) (hK : 120000 ≤ K) :
    ∃ Y, tl l h K (3000, 0, false) [] none = some Y ∧ (Y.1 ≠ 0 → (Y.2.2 = true → ∃ p, way l h 0 p ∧ wcost l h 0 p = Y.2.1) ∧ ∀ p, way l h 0 p → Y.2.2 = true ∧ Y.2.1 ≤ wcost l h 0 p) := by
  obtain ⟨Y, y1, y2, y3⟩ := (tl_spec l hl hG h hh K).1 (3000, 0, false) [] 0 (by decide) (by decide) ⟨rfl, rfl, Nat.zero_le _, Nat.le_refl _, .inl rfl⟩ (by omega)
  exact ⟨Y, y1, fun hY => ⟨y2.i (fun x => by simp at x), fun p hp => y3 hY p hp⟩⟩

theorem pureK (K : Nat) (hK : 200000 ≤ K) (l : List S43) (h : Int) : colophonlaw27_PagesAll.f K l h = some true := by
  have hw := wakes_k K (by omega)
  unfold colophonlaw27_PagesAll.f
  by_cases c1 : 20 < l.length
  · rw [if_pos c1, hw]
  rw [if_neg c1, rgood_f K (by omega) l (by omega), Option.bind_some]
  by_cases hG : goodP l
  · by_cases hh : 1 ≤ h ∧ h ≤ 1073741824
    · obtain ⟨⟨y1, y2, y3⟩, e1, e2⟩ := all_f l (by omega) hG h hh K (by omega)
      have c2 : ¬ (decide (goodP l) = false ∨ h < 1 ∨ 1073741824 < h) := by
        rw [decide_eq_true hG]
        intro x
        rcases x with x | x
        · simp at x
        · omega
      rw [if_neg c2, e1, Option.bind_some]
      by_cases c3 : y1 = 0
      · rw [if_pos c3, hw]
      · obtain ⟨f1, f2⟩ := e2 c3
        rw [if_neg c3, twin_f l (by omega), Option.bind_some]
        rcases best_f K (by omega) l (by omega) h with ⟨b1, _⟩ | ⟨_, ⟨b1, b2⟩ | ⟨p, b1, b2, b3, b4, b5⟩⟩
        · exact absurd ⟨hG, hh⟩ b1
        · rw [b1, Option.bind_some]
          have hy : y3 = false := by
            cases hy : y3 with
            | false => rfl
            | true =>
              obtain ⟨p, p1, _⟩ := f1 hy
              exact absurd p1 (b2 p)
          rw [if_pos ⟨hy.symm, fun x => by simp at x⟩, hw]
        · rw [b1, Option.bind_some]
          obtain ⟨g1, g2⟩ := f2 p b2
          obtain ⟨p', p1, p2⟩ := f1 g1
          have := b5 p' p1
          have hy : wcost l h 0 p = y2 := by
            have g2 : y2 ≤ wcost l h 0 p := g2
            have p2 : wcost l h 0 p' = y2 := p2
            omega
          rw [if_pos ⟨(show true = y3 from g1.symm), fun _ => hy⟩, hw]
    · rw [if_pos (.inr (by omega)), hw]
  · rw [decide_eq_false hG, if_pos (.inl rfl), hw]
theorem pure (l : List S43) (h : Int) : ∃ k, colophonlaw27_PagesAll.f k l h = some true := ⟨_, pureK 200000 (Nat.le_refl _) l h⟩

end Go.Proofs.Ytogjeababinnlaa.PurePagesAll
