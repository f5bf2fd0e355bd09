/- For PagesLeast: ways, and what they cost. -/
import Derived.Test.YtogjeababinnlaaPPagesLeastx5
import Derived.Test.YtogjeababinnlaaPurePagesLeastB
import Derived.Test.YtogjeababinnlaaPurePagesLeastD
namespace Go.Proofs.Ytogjeababinnlaa.PurePagesLeast
open Go.RowKit Go.Proofs.Ytogjeababinnlaa Go.Proofs.Ytogjeababinnlaa.PPagesLeast Go.Proofs.YtogjeababinnlaaW.PrintWords Go.Proofs.YtogjeababinnlaaW.PrintLast Go.Proofs.YtogjeababinnlaaW.PrintMore
/-! ### ways -/
/-- A way from place i on to the end. -/
def way (l : List S43) (h : Int) : Nat → List Int → Prop
  | i, [] => i = l.length
  | i, b :: r => ∃ j : Nat, b = (j : Int) ∧ i ≤ j ∧ legB l b = true ∧ (costV l i j h).2 = true ∧ way l h (j + 1) r
def wcost (l : List S43) (h : Int) : Nat → List Int → Int
  | _, [] => 0
  | i, b :: r => (costV l i b.toNat h).1 + wcost l h (b.toNat + 1) r
theorem wcost_cons (l : List S43) (h : Int) (i j : Nat) (r : List Int) : wcost l h i ((j : Int) :: r) = (costV l i j h).1 + wcost l h (j + 1) r := by rw [wcost, Int.toNat_natCast]
theorem way_more (l : List S43) (h h' : Int) (hh : h ≤ h') (h1 : 1 ≤ h) : ∀ (p : List Int) (i : Nat), way l h i p → way l h' i p
  | [], i, hw => hw
  | b :: r, i, hw => by
    obtain ⟨j, e, h2, h3, h4, h5⟩ := hw
    refine ⟨j, e, h2, h3, ?_, way_more l h h' hh h1 r (j + 1) h5⟩
    obtain ⟨c1, c2⟩ := cost_must h4
    unfold costV
    rw [if_neg (by intro x; rcases x with x | x <;> omega)]
    split <;> rfl
theorem elig_next (l : List S43) (j : Nat) (h : legB l (j : Int) = true) : elig l (j + 1) := .inr (by rw [show ((j + 1 : Nat) : Int) - 1 = (j : Int) by omega]; exact h)
/-- No way is cheaper than what the row says. -/
theorem way_least (l : List S43) (hG : goodP l) (h : Int) (Y1 Y2 : List Int) (hD : DP Y1 Y2 l h 0) : ∀ (p : List Int) (i : Nat), i < l.length → elig l i → way l h i p → rd Y1 (i : Int) ≠ 0 ∧ rd Y2 (i : Int) ≤ wcost l h i p
  | [], i, hi, _, hw => by
    have : i = l.length := hw
    omega
  | b :: r, i, hi, he, hw => by
    obtain ⟨j, rfl, h2, h3, h4, h5⟩ := hw
    have hj := leg_b l (j : Int) h3
    obtain ⟨_, q2⟩ := hD.done i (Nat.zero_le _) hi he
    unfold wcost
    rw [Int.toNat_natCast]
    by_cases hl : j + 1 = l.length
    · have hr : r = [] := by
        cases r with
        | nil => rfl
        | cons b' r' =>
          obtain ⟨j', e', g2, g3, _, _⟩ := h5
          have := leg_b l b' g3
          omega
      subst hr
      have hc : cand Y1 Y2 l h i j = some (costV l i j h).1 := by unfold cand; rw [if_pos ⟨h3, h4⟩, if_pos hl]
      have := q2 j h2 _ hc
      unfold wcost
      exact ⟨this.1, by omega⟩
    · obtain ⟨g1, g2⟩ := way_least l hG h Y1 Y2 hD r (j + 1) (by omega) (elig_next l j h3) h5
      have hp := hD.pos (j + 1) (by omega)
      rw [show ((j + 1 : Nat) : Int) = (j : Int) + 1 by omega] at g1 g2 hp
      have hc : cand Y1 Y2 l h i j = some ((costV l i j h).1 + rd Y2 ((j : Int) + 1)) := by unfold cand; rw [if_pos ⟨h3, h4⟩, if_neg hl, if_pos (by omega)]
      have := q2 j h2 _ hc
      exact ⟨this.1, by omega⟩
/-- The way that the rows say. -/
theorem way_path (l : List S43) (hG : goodP l) (h : Int) (Y1 Y2 : List Int) (hD : DP Y1 Y2 l h 0) : ∀ (d i : Nat), l.length - i = d → i < l.length → elig l i → rd Y1 (i : Int) ≠ 0 →
    ∃ p, way l h i p ∧ p ≠ [] ∧ wcost l h i p = rd Y2 (i : Int) ∧ p.length ≤ d ∧ ∀ (k : Nat) (out : List Int), d + 1 ≤ k → pages_Best.path Y1 ((l.length : Int) - 1) k ((i : Int) - 1) out = some (out ++ p) := by
  have hn := hG.1.2
  intro d
  induction d using Nat.strongRecOn with
  | ind d ih =>
    intro i hd hi he hz
    obtain ⟨q1, _⟩ := hD.done i (Nat.zero_le _) hi he
    rcases q1 with q1 | ⟨b, a1, a2, a3, a4⟩
    · exact absurd q1 hz
    obtain ⟨c1, c2, c3⟩ := cand_cases a4
    have hw1 : wrap64 ((i : Int) - 1 + 1) = (i : Int) := by rw [w_in (by omega)]; omega
    have hw2 : wrap64 ((b : Int) + 1 - 1) = (b : Int) := by rw [w_in (by omega)]; omega
    have step : ∀ (k : Nat) (out : List Int), pages_Best.path Y1 ((l.length : Int) - 1) (k + 1) ((i : Int) - 1) out = pages_Best.path Y1 ((l.length : Int) - 1) k (b : Int) (out ++ [(b : Int)]) := by
      intro k out
      rw [pages_Best.path, if_pos (by omega), hw1, if_pos (by omega), if_pos (by rw [hD.l1]; omega), a3, hw2]
    rcases c3 with ⟨c3, c4⟩ | ⟨c3, c4, c5⟩
    · refine ⟨[(b : Int)], ⟨b, rfl, a1, c1, c2, c3⟩, by simp, ?_, by simp; omega, ?_⟩
      · unfold wcost wcost
        rw [Int.toNat_natCast, c4]
        omega
      · intro k out hk
        obtain ⟨k, rfl⟩ : ∃ q, k = q + 2 := ⟨k - 2, by omega⟩
        rw [step, pages_Best.path, if_neg (by omega)]
    · rw [show (b : Int) + 1 = ((b + 1 : Nat) : Int) by omega] at c4 c5
      obtain ⟨p, p1, p2, p3, p4, p5⟩ := ih (l.length - (b + 1)) (by omega) (b + 1) rfl c3 (elig_next l b c1) (by omega)
      refine ⟨(b : Int) :: p, ⟨b, rfl, a1, c1, c2, p1⟩, by simp, ?_, by simp; omega, ?_⟩
      · unfold wcost
        rw [Int.toNat_natCast, p3, c5]
      · intro k out hk
        obtain ⟨k, rfl⟩ : ∃ q, k = q + 1 := ⟨k - 1, by omega⟩
        have := p5 k (out ++ [(b : Int)]) (by omega)
        rw [show ((b + 1 : Nat) : Int) - 1 = (b : Int) by omega] at this
        rw [step, this, List.append_assoc]
        rfl
theorem wcost_b (l : List S43) (hG : goodP l) (h : Int) (hh : 1 ≤ h ∧ h ≤ 1073741824) : ∀ (p : List Int) (i : Nat), i ≤ l.length → way l h i p → -10000 * ((l.length : Int) - (i : Int)) ≤ wcost l h i p ∧ wcost l h i p ≤ 20000 * ((l.length : Int) - (i : Int))
  | [], i, hi, _ => by unfold wcost; omega
  | b :: r, i, hi, hw => by
    obtain ⟨j, rfl, h2, h3, h4, h5⟩ := hw
    have hj := leg_b l (j : Int) h3
    have hc := costV_b l hG i j h hi (by omega) hh
    have ih := wcost_b l hG h hh r (j + 1) (by omega) h5
    unfold wcost
    rw [Int.toNat_natCast]
    omega
/-- What Best hands back. -/
theorem best_f (K : Nat) (hK : 50000 ≤ K) (l : List S43) (hl : l.length ≤ 5000) (h : Int) :
    (¬ (goodP l ∧ 1 ≤ h ∧ h ≤ 1073741824) ∧ pages_Best.f K l h = some ([], 0, false)) ∨
    ((goodP l ∧ 1 ≤ h ∧ h ≤ 1073741824) ∧ ((pages_Best.f K l h = some ([], 0, false) ∧ ∀ p, ¬ way l h 0 p) ∨
      ∃ p, pages_Best.f K l h = some (p, wcost l h 0 p, true) ∧ way l h 0 p ∧ p ≠ [] ∧ p.length ≤ l.length ∧ ∀ p', way l h 0 p' → wcost l h 0 p ≤ wcost l h 0 p')) := by
  unfold pages_Best.f
  rw [good_f K (by omega) l hl, Option.bind_some]
  by_cases hG : goodP l
  · rw [decide_eq_true hG, if_neg (by decide), room_f, Option.bind_some]
    by_cases hh : 1 ≤ h ∧ h ≤ 1073741824
    · right
      refine ⟨⟨hG, hh⟩, ?_⟩
      obtain ⟨Y1, Y2, hD, hY⟩ := dp l hG h hh
      have hn := hG.1
      rw [decide_eq_true hh, if_neg (by decide), if_pos hG.1, hY, Option.bind_some]
      dsimp only
      by_cases hz : rd Y1 0 = 0
      · left
        rw [if_pos hz]
        refine ⟨rfl, fun p hp => ?_⟩
        exact (way_least l hG h Y1 Y2 hD p 0 (by omega) (.inl rfl) hp).1 hz
      · right
        obtain ⟨p, p1, p2, p3, p4, p5⟩ := way_path l hG h Y1 Y2 hD l.length 0 (by omega) (by omega) (.inl rfl) hz
        have := p5 (l.length + 1) [] (Nat.le_refl _)
        have e0 : (((0 : Nat) : Int) - 1) = -1 := by omega
        rw [e0, List.nil_append] at this
        rw [if_neg hz, this, Option.bind_some]
        refine ⟨p, by rw [p3]; rfl, p1, p2, by omega, fun p' hp' => ?_⟩
        rw [p3]
        exact (way_least l hG h Y1 Y2 hD p' 0 (by omega) (.inl rfl) hp').2
    · left
      rw [decide_eq_false hh, if_pos rfl]
      exact ⟨fun x => hh x.2, rfl⟩
  · left
    rw [decide_eq_false hG, if_pos rfl]
    exact ⟨fun x => hG x.1, rfl⟩

/-! ### ways and their costs -/
theorem sum_way (l : List S43) (hG : goodP l) (h : Int) (hh : 1 ≤ h ∧ h ≤ 1073741824) : ∀ (p : List Int) (i : Nat) (s : Int), i ≤ l.length → -20000 * (i : Int) ≤ s ∧ s ≤ 20000 * (i : Int) → way l h i p →
    pages_Cost.sum l h p s ((i : Int) - 1) = some (s + wcost l h i p, true)
  | [], i, s, hi, hs, _ => by unfold pages_Cost.sum wcost; rw [Int.add_zero]
  | b :: r, i, s, hi, hs, hw => by
    obtain ⟨j, rfl, h2, h3, h4, h5⟩ := hw
    have hn := hG.1.2
    have hj := leg_b l (j : Int) h3
    have hc := costV_b l hG i j h hi (by omega) hh
    have ih := sum_way l hG h hh r (j + 1) (s + (costV l i j h).1) (by omega) (by omega) h5
    rw [show ((j + 1 : Nat) : Int) - 1 = (j : Int) by omega] at ih
    rw [pages_Cost.sum, if_neg (by omega), legal_f, Option.bind_some, if_neg (by rw [h3]; decide), cost_f l hG i j h hi (by omega) hh, Option.bind_some, if_neg (by rw [h4]; decide), w_in (by omega), ih]
    rw [wcost_cons, Int.add_assoc]
theorem way_sum (l : List S43) (hG : goodP l) (h : Int) (hh : 1 ≤ h ∧ h ≤ 1073741824) (t : Int) : ∀ (p : List Int) (i : Nat) (s : Int), i ≤ l.length → -20000 * (i : Int) ≤ s ∧ s ≤ 20000 * (i : Int) → p ≠ [] → rd p ((p.length : Int) - 1) = (l.length : Int) - 1 →
    pages_Cost.sum l h p s ((i : Int) - 1) = some (t, true) → way l h i p ∧ t = s + wcost l h i p
  | [], _, _, _, _, hp, _, _ => absurd rfl hp
  | b :: r, i, s, hi, hs, _, hL, he => by
    have hn := hG.1.2
    rw [pages_Cost.sum] at he
    by_cases c1 : b ≤ (i : Int) - 1
    · rw [if_pos c1] at he; simp at he
    rw [if_neg c1, legal_f, Option.bind_some] at he
    by_cases c2 : legB l b = true
    · have hj := leg_b l b c2
      obtain ⟨j, rfl⟩ : ∃ j : Nat, b = (j : Int) := ⟨b.toNat, by omega⟩
      rw [if_neg (by rw [c2]; decide), cost_f l hG i j h hi (by omega) hh, Option.bind_some] at he
      have hc := costV_b l hG i j h hi (by omega) hh
      by_cases c3 : (costV l i j h).2 = true
      · rw [if_neg (by rw [c3]; decide), w_in (by omega)] at he
        cases r with
        | nil =>
          have hL' : (j : Int) = (l.length : Int) - 1 := by simpa [rd] using hL
          unfold pages_Cost.sum at he
          simp only [Option.some.injEq, Prod.mk.injEq, and_true] at he
          refine ⟨⟨j, rfl, by omega, c2, c3, ?_⟩, ?_⟩
          · show j + 1 = l.length
            omega
          · unfold wcost wcost
            rw [Int.toNat_natCast]
            omega
        | cons b' r' =>
          have hL' : rd (b' :: r') (((b' :: r').length : Int) - 1) = (l.length : Int) - 1 := by
            rw [← hL]
            unfold rd
            have e1 : (((b' :: r').length : Int) - 1).toNat = r'.length := by simp
            have e2 : ((((j : Int) :: b' :: r').length : Int) - 1).toNat = r'.length + 1 := by simp <;> omega
            rw [e1, e2]
            simp
          rw [show (j : Int) = ((j + 1 : Nat) : Int) - 1 by omega] at he
          obtain ⟨w1, w2⟩ := way_sum l hG h hh t (b' :: r') (j + 1) (s + (costV l i j h).1) (by omega) (by omega) (by simp) hL' he
          refine ⟨⟨j, rfl, by omega, c2, c3, w1⟩, ?_⟩
          rw [w2]
          rw [wcost_cons, Int.add_assoc]
      · rw [if_pos (by simpa using c3)] at he; simp at he
    · rw [if_pos (by simpa using c2)] at he; simp at he
theorem way_last (l : List S43) (h : Int) : ∀ (p : List Int) (i : Nat), p ≠ [] → way l h i p → rd p ((p.length : Int) - 1) = (l.length : Int) - 1
  | [], _, hp, _ => absurd rfl hp
  | [b], i, _, hw => by
    obtain ⟨j, rfl, h2, h3, h4, h5⟩ := hw
    have h5 : j + 1 = l.length := h5
    simp [rd]
    omega
  | b :: b' :: r, i, _, hw => by
    obtain ⟨j, rfl, h2, h3, h4, h5⟩ := hw
    have ih := way_last l h (b' :: r) (j + 1) (by simp) h5
    rw [← ih]
    unfold rd
    have e1 : (((b' :: r).length : Int) - 1).toNat = r.length := by simp
    have e2 : ((((j : Int) :: b' :: r).length : Int) - 1).toNat = r.length + 1 := by simp <;> omega
    rw [e1, e2]
    simp
/-- Cost, told by ways. -/
theorem cost_way (K : Nat) (hK : 50000 ≤ K) (l : List S43) (hl : l.length ≤ 5000) (m : List Int) (hm : m.length ≤ 100000) (h : Int) :
    ∃ t ok, pages_Cost.f K l m h = some (t, ok) ∧ (ok = true → (goodP l ∧ 1 ≤ h ∧ h ≤ 1073741824) ∧ way l h 0 m ∧ t = wcost l h 0 m) := by
  unfold pages_Cost.f
  rw [good_f K (by omega) l hl, Option.bind_some]
  by_cases hG : goodP l
  · rw [decide_eq_true hG, if_neg (by decide), room_f, Option.bind_some]
    by_cases hh : 1 ≤ h ∧ h ≤ 1073741824
    · rw [decide_eq_true hh, if_neg (by decide)]
      by_cases h0 : m.length = 0
      · rw [if_pos h0]
        exact ⟨_, _, rfl, fun x => by simp at x⟩
      · rw [if_neg h0]
        have hc : l.length ≤ 1024 ∧ m.length ≤ 100000 := ⟨hG.1.2, hm⟩
        by_cases hL : rd m ((m.length : Int) - 1) = (l.length : Int) - 1
        · rw [if_pos hL, if_pos hc]
          have tot : ∀ (m : List Int) (s a : Int), (a = -1 ∨ legB l a = true) → ∃ t ok, pages_Cost.sum l h m s a = some (t, ok) := by
            intro m
            induction m with
            | nil => intro s a _; exact ⟨_, _, rfl⟩
            | cons b r ih =>
              intro s a ha
              rw [pages_Cost.sum]
              by_cases c1 : b ≤ a
              · rw [if_pos c1]; exact ⟨_, _, rfl⟩
              rw [if_neg c1, legal_f, Option.bind_some]
              by_cases c2 : legB l b = true
              · have hj := leg_b l b c2
                obtain ⟨j, ej⟩ : ∃ j : Nat, b = (j : Int) := ⟨b.toNat, by omega⟩
                obtain ⟨i, ei, hi⟩ : ∃ i : Nat, a = (i : Int) - 1 ∧ i ≤ l.length := by
                  rcases ha with ha | ha
                  · exact ⟨0, by omega, Nat.zero_le _⟩
                  · have := leg_b l a ha
                    exact ⟨(a + 1).toNat, by omega, by omega⟩
                have c := cost_f l hG i j h hi (by omega) hh
                rw [← ei, ← ej] at c
                rw [if_neg (by rw [c2]; decide), c, Option.bind_some]
                by_cases c3 : (costV l i j h).2 = true
                · rw [if_neg (by rw [c3]; decide)]
                  exact ih _ b (.inr c2)
                · rw [if_pos (by simpa using c3)]; exact ⟨_, _, rfl⟩
              · rw [if_pos (by simpa using c2)]; exact ⟨_, _, rfl⟩
          obtain ⟨t, ok, e⟩ := tot m 0 (-1) (.inl rfl)
          refine ⟨t, ok, e, fun x => ⟨⟨hG, hh⟩, ?_⟩⟩
          subst x
          have := way_sum l hG h hh t m 0 0 (Nat.zero_le _) (by omega) (by intro z; rw [z] at h0; exact h0 rfl) hL e
          exact ⟨this.1, by rw [this.2]; omega⟩
        · rw [if_neg hL, if_pos hc]
          exact ⟨_, _, rfl, fun x => by simp at x⟩
    · rw [decide_eq_false hh, if_pos rfl]
      exact ⟨_, _, rfl, fun x => by simp at x⟩
  · rw [decide_eq_false hG, if_pos rfl]
    exact ⟨_, _, rfl, fun x => by simp at x⟩
theorem cost_back (K : Nat) (hK : 50000 ≤ K) (l : List S43) (hl : l.length ≤ 5000) (p : List Int) (hm : p.length ≤ 100000) (h : Int) (hG : goodP l) (hh : 1 ≤ h ∧ h ≤ 1073741824) (hp : p ≠ []) (hw : way l h 0 p) :
    pages_Cost.f K l p h = some (wcost l h 0 p, true) := by
  unfold pages_Cost.f
  have h0 : ¬ p.length = 0 := by intro z; exact hp (List.eq_nil_of_length_eq_zero z)
  have s := sum_way l hG h hh p 0 0 (Nat.zero_le _) (by omega) hw
  rw [show (((0 : Nat) : Int) - 1) = -1 by omega, Int.zero_add] at s
  rw [good_f K (by omega) l hl, Option.bind_some, decide_eq_true hG, if_neg (by decide), room_f, Option.bind_some, decide_eq_true hh, if_neg (by decide), if_neg h0, if_pos (way_last l h p 0 hp hw), if_pos ⟨hG.1.2, hm⟩, s]

end Go.Proofs.Ytogjeababinnlaa.PurePagesLeast
