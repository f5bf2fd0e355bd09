/- The plain law of PagesCosts: what any way costs, how high any page is, and which lists are good, for all lists and numbers. -/
import Derived.Test.YtogjeababinnlaaPPagesCostsx7
import Derived.Test.YtogjeababinnlaaPurePagesCostsA
import Derived.Test.YtogjeababinnlaaPurePagesCostsB
namespace Go.Proofs.Ytogjeababinnlaa.PurePagesCosts
open Go.RowKit Go.Proofs.Ytogjeababinnlaa Go.Proofs.Ytogjeababinnlaa.PPagesCosts Go.Proofs.YtogjeababinnlaaW.PrintWords Go.Proofs.YtogjeababinnlaaW.PrintLast Go.Proofs.YtogjeababinnlaaW.PrintMore
theorem large_f (l : List S43) : colophonlaw27_large.f l = some (decide ((200 < l.length ∧ l.length ≤ 1024) ∨ 3000 < l.length)) := by
  unfold colophonlaw27_large.f
  by_cases h1 : (l.length : Int) > 200
  · rw [if_pos h1]
    by_cases h2 : (l.length : Int) ≤ 1024
    · rw [if_pos h2]
      congr 1
      symm
      rw [decide_eq_true_eq]
      omega
    · rw [if_neg h2]
      congr 1
      rw [decide_eq_decide]
      omega
  · rw [if_neg h1]
    congr 1
    rw [decide_eq_decide]
    omega
theorem ints_f (l : List Int) (n : Nat) (hn : n ≤ 100000) : colophonkeep_Ints.f l (n : Int) = some (l.take n) := by
  unfold colophonkeep_Ints.f
  by_cases h : (l.length : Int) > n
  · rw [if_pos h, if_pos (by omega), if_pos (by omega)]
    simp only [Option.bind_some, List.nil_append, List.length_nil, Int.toNat_natCast]
    rw [if_pos (by rw [List.length_take]; omega)]
  · rw [if_neg h]
    simp only [Option.bind_some, List.nil_append, List.length_nil]
    rw [if_pos (by omega), List.take_of_length_le (by omega)]
/-- What a page lies between: from a break, or ahead of all, to a break. -/
theorem rpage_f (l : List S43) (a b : Int) : colophonref27_page.f l a b = some (decide ((a = -1 ∨ legB l a = true) ∧ legB l b = true ∧ a < b)) := by
  unfold colophonref27_page.f
  by_cases h1 : a = -1
  · rw [if_pos h1, rlegal_f, Option.bind_some]
    by_cases h2 : legB l b = true
    · rw [if_pos h2]; simp [h1, h2]
    · rw [if_neg h2]; simp [h2]
  · rw [if_neg h1, rlegal_f, Option.bind_some]
    by_cases h3 : legB l a = true
    · rw [if_pos h3, rlegal_f, Option.bind_some]
      by_cases h2 : legB l b = true
      · rw [if_pos h2]; simp [h1, h2, h3]
      · rw [if_neg h2]; simp [h2]
    · rw [if_neg h3]; simp [h1, h3]
/-- A break's number, and 1 more. -/
theorem from_nat (l : List S43) (a : Int) (h : a = -1 ∨ legB l a = true) : ∃ i : Nat, a = (i : Int) - 1 ∧ i ≤ l.length := by
  rcases h with h | h
  · exact ⟨0, by omega, Nat.zero_le _⟩
  · have := leg_b l a h
    exact ⟨(a + 1).toNat, by omega, by omega⟩
theorem heights (l : List S43) (hl : l.length ≤ 5000) (K : Nat) (hK : 50000 ≤ K) (a b : Int) : ∃ v, pages_Height.f K l a b = some v ∧ colophonref27_Height.f K l a b = some v := by
  unfold pages_Height.f colophonref27_Height.f
  rw [good_f K (by omega) l hl, rgood_f K (by omega) l hl, Option.bind_some, Option.bind_some]
  by_cases hG : goodP l
  · rw [decide_eq_true hG, if_neg (by decide), if_pos hG.1.2, if_pos rfl, rpage_f, Option.bind_some, legal_f, Option.bind_some]
    by_cases hb : legB l b = true
    · rw [if_neg (by rw [hb]; decide)]
      by_cases hab : b ≤ a
      · rw [if_pos hab, if_neg (by rw [decide_eq_true_eq]; omega)]
        exact ⟨0, rfl, rfl⟩
      · rw [if_neg hab]
        have hB := leg_b l b hb
        have val : ∀ h : a = -1 ∨ legB l a = true, pages_column_page.f l (pages_ready.hs l) (pages_ready.fs l) (pages_ready.ms l) a b = some (pg l (a + 1).toNat b.toNat) ∧ colophonref27_height.f K l a b = some (pg l (a + 1).toNat b.toNat) := by
          intro h
          obtain ⟨i, e, hi⟩ := from_nat l a h
          have e1 : (a + 1).toNat = i := by omega
          obtain ⟨j, ej⟩ : ∃ j : Nat, b = (j : Int) := ⟨b.toNat, by omega⟩
          rw [e1, ej, Int.toNat_natCast, e]
          exact ⟨page_f l hG i j hi (by omega), rheight_f l hG K (by omega) i j hi (by omega)⟩
        by_cases ha : a = -1
        · obtain ⟨v1, v2⟩ := val (.inl ha)
          rw [if_pos ha, if_pos (by rw [decide_eq_true_eq]; exact ⟨.inl ha, hb, by omega⟩), v1, v2]
          exact ⟨_, rfl, rfl⟩
        · rw [if_neg ha, legal_f, Option.bind_some]
          by_cases hla : legB l a = true
          · obtain ⟨v1, v2⟩ := val (.inr hla)
            rw [if_neg (by rw [hla]; decide), if_pos (by rw [decide_eq_true_eq]; exact ⟨.inr hla, hb, by omega⟩), v1, v2]
            exact ⟨_, rfl, rfl⟩
          · rw [if_pos (by simpa using hla), if_neg (by rw [decide_eq_true_eq]; exact fun h => h.1.elim ha hla)]
            exact ⟨0, rfl, rfl⟩
    · rw [if_pos (by simpa using hb), if_neg (by rw [decide_eq_true_eq]; exact fun h => hb h.2.1)]
      exact ⟨0, rfl, rfl⟩
  · rw [decide_eq_false hG, if_pos rfl, if_neg (by decide)]
    exact ⟨0, rfl, rfl⟩
theorem sum_both (l : List S43) (hG : goodP l) (h : Int) (hh : 1 ≤ h ∧ h ≤ 1073741824) (m : List Int) (hm : m.length ≤ 2000) : ∀ (d k i : Nat) (s a : Int), i + d = m.length → d + 50000 ≤ k → (a = -1 ∨ legB l a = true) →
    ∃ v, pages_Cost.sum l h (m.drop i) s a = some v ∧ colophonref27_Cost.l0 k l m h s a (i : Int) = some v := by
  intro d
  induction d with
  | zero =>
    intro k i s a hd hk ha
    obtain ⟨k, rfl⟩ : ∃ q, k = q + 1 := ⟨k - 1, by omega⟩
    rw [List.drop_eq_nil_of_le (by omega), colophonref27_Cost.l0, if_neg (by omega)]
    exact ⟨(s, true), rfl, rfl⟩
  | succ d ih =>
    intro k i s a hd hk ha
    obtain ⟨k, rfl⟩ : ∃ q, k = q + 1 := ⟨k - 1, by omega⟩
    have hi : i < m.length := by omega
    have ed : m.drop i = rd m (i : Int) :: m.drop (i + 1) := by
      rw [List.drop_eq_getElem_cons hi]
      simp [rd, List.getD_eq_getElem?_getD, hi]
    have hw : wrap64 ((i : Int) + 1) = ((i + 1 : Nat) : Int) := by rw [w_in (by omega)]; omega
    rw [ed, pages_Cost.sum, colophonref27_Cost.l0, if_pos (show (i : Int) < (m.length : Int) by omega), if_pos (show (0 : Int) ≤ (i : Int) by omega), rpage_f, Option.bind_some, hw]
    generalize rd m (i : Int) = b
    by_cases hab : b ≤ a
    · rw [if_pos hab, if_neg (by rw [decide_eq_true_eq]; omega)]
      exact ⟨_, rfl, rfl⟩
    · rw [if_neg hab, legal_f, Option.bind_some]
      by_cases hb : legB l b = true
      · rw [if_neg (by rw [hb]; decide), if_pos (by rw [decide_eq_true_eq]; exact ⟨ha, hb, by omega⟩)]
        have hB := leg_b l b hb
        obtain ⟨i', e, hi'⟩ := from_nat l a ha
        obtain ⟨j, ej⟩ : ∃ j : Nat, b = (j : Int) := ⟨b.toNat, by omega⟩
        have c1 := cost_f l hG i' j h hi' (by omega) hh
        have c2 := rcost_f l hG k (by omega) i' j h hi' (by omega) hh
        rw [← e, ← ej] at c1 c2
        rw [c1, c2, Option.bind_some, Option.bind_some]
        by_cases ho : (costV l i' j h).2 = true
        · rw [if_neg (by rw [ho]; decide), if_pos ho]
          exact ih k (i + 1) _ b (by omega) (by omega) (.inr hb)
        · rw [if_pos (by simpa using ho), if_neg ho]
          exact ⟨_, rfl, rfl⟩
      · rw [if_pos (by simpa using hb), if_neg (by rw [decide_eq_true_eq]; exact fun h => hb h.2.1)]
        exact ⟨_, rfl, rfl⟩
theorem costs (l : List S43) (hl : l.length ≤ 5000) (m : List Int) (hm : m.length ≤ 2000) (K : Nat) (hK : 100000 ≤ K) (h : Int) : ∃ v, pages_Cost.f K l m h = some v ∧ colophonref27_Cost.f K l m h = some v := by
  obtain ⟨K, rfl⟩ : ∃ q, K = q + 1 := ⟨K - 1, by omega⟩
  have hj : colophonref27_Cost.j0 (K + 1) l m h true = some (0, false) := by rw [colophonref27_Cost.j0, if_pos rfl]
  unfold pages_Cost.f colophonref27_Cost.f
  rw [good_f (K + 1) (by omega) l hl, rgood_f (K + 1) (by omega) l hl, Option.bind_some, Option.bind_some]
  by_cases hG : goodP l
  · rw [decide_eq_true hG, if_neg (by decide), if_pos rfl, room_f, Option.bind_some]
    by_cases h1 : h < 1
    · rw [if_pos h1, hj, decide_eq_false (by omega), if_pos rfl]
      exact ⟨_, rfl, rfl⟩
    · rw [if_neg h1]
      by_cases h2 : h > 1073741824
      · rw [if_pos h2, hj, decide_eq_false (by omega), if_pos rfl]
        exact ⟨_, rfl, rfl⟩
      · rw [if_neg h2, decide_eq_true (show 1 ≤ h ∧ h ≤ 1073741824 by omega), if_neg (by decide)]
        by_cases h3 : m.length = 0
        · rw [if_pos h3, if_pos (by omega), hj]
          exact ⟨_, rfl, rfl⟩
        · have hw1 : wrap64 ((m.length : Int) - 1) = (m.length : Int) - 1 := w_in (by omega)
          have hw2 : wrap64 ((l.length : Int) - 1) = (l.length : Int) - 1 := w_in (by omega)
          have hc : l.length ≤ 1024 ∧ m.length ≤ 100000 := ⟨hG.1.2, by omega⟩
          rw [if_neg h3, if_neg (show ¬ (m.length : Int) = 0 by omega), hw1, hw2, if_pos (show (0 : Int) ≤ (m.length : Int) - 1 by omega), if_pos (show (m.length : Int) - 1 < (m.length : Int) by omega), if_pos hc, if_pos hc, colophonref27_Cost.j0]
          by_cases h4 : rd m ((m.length : Int) - 1) = (l.length : Int) - 1
          · rw [if_pos h4, if_neg (by rw [h4]; simp)]
            exact sum_both l hG h (by omega) m hm m.length K 0 0 (-1) (by omega) (by omega) (.inl rfl)
          · rw [if_neg h4, if_pos (bne_iff_ne.mpr h4)]
            exact ⟨_, rfl, rfl⟩
  · rw [decide_eq_false hG, if_pos rfl, if_neg (by decide), hj]
    exact ⟨_, rfl, rfl⟩
theorem j1_f (K : Nat) (hK : 100001 ≤ K) (l : List S43) (hl : l.length ≤ 5000) (c : Int) (ok : Bool) (a b : Int) : colophonlaw27_PagesCosts.j1 K l c ok c ok a b = some true := by
  obtain ⟨K, rfl⟩ : ∃ q, K = q + 1 := ⟨K - 1, by omega⟩
  obtain ⟨v, e1, e2⟩ := heights l hl K (by omega) a b
  rw [colophonlaw27_PagesCosts.j1, if_pos rfl, beq_self_eq_true, if_pos rfl, twin_f l hl]
  simp only [Option.bind_some, e1, e2, if_true, good_f K (by omega) l hl, rgood_f K (by omega) l hl, beq_self_eq_true, wakes_k K (by omega)]
theorem pureK (K : Nat) (hK : 200000 ≤ K) (l : List S43) (m : List Int) (h : Int) : colophonlaw27_PagesCosts.f K l m h = some true := by
  unfold colophonlaw27_PagesCosts.f
  rw [large_f, Option.bind_some]
  by_cases hL : (200 < l.length ∧ l.length ≤ 1024) ∨ 3000 < l.length
  · rw [decide_eq_true hL, if_pos rfl, wakes_k K (by omega)]
    rfl
  · have hl : l.length ≤ 5000 := by omega
    have hI : colophonkeep_Ints.f m 2000 = some (m.take 2000) := ints_f m 2000 (by omega)
    have hm : (m.take 2000).length ≤ 2000 := by rw [List.length_take]; omega
    rw [decide_eq_false hL, if_neg (by decide), hI, twin_f l hl, Option.bind_some, Option.bind_some]
    generalize m.take 2000 = x at hm
    obtain ⟨v, e1, e2⟩ := costs l hl x hm K (by omega) h
    obtain ⟨K, rfl⟩ : ∃ q, K = q + 1 := ⟨K - 1, by omega⟩
    rw [e1, e2, Option.bind_some, Option.bind_some]
    have last : ∀ a b : Int, colophonlaw27_PagesCosts.j0 (K + 1) l x v.1 v.2 v.1 v.2 a b = some true := by
      intro a b
      rw [colophonlaw27_PagesCosts.j0]
      by_cases c1 : (x.length : Int) > 1
      · rw [if_pos c1, if_pos (by omega), if_pos (by omega)]
        exact j1_f K (by omega) l hl _ _ _ _
      · rw [if_neg c1]
        exact j1_f K (by omega) l hl _ _ _ _
    by_cases c0 : (x.length : Int) > 0
    · rw [if_pos c0, if_pos (by omega)]
      exact last _ _
    · rw [if_neg c0]
      exact last _ _
theorem pure (l : List S43) (m : List Int) (h : Int) : ∃ k, colophonlaw27_PagesCosts.f k l m h = some true := ⟨_, pureK 200000 (Nat.le_refl _) l m h⟩

end Go.Proofs.Ytogjeababinnlaa.PurePagesCosts
