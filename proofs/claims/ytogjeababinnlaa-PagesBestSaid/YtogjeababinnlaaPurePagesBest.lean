/- The plain law of PagesBest: the best way through every vertical list, and what it costs, for all lists and numbers. -/
import Derived.Test.YtogjeababinnlaaPPagesBestx8
import Derived.Test.YtogjeababinnlaaPurePagesBestD
import Derived.Test.YtogjeababinnlaaPurePagesBestR
import Derived.Test.YtogjeababinnlaaPurePagesBestS
namespace Go.Proofs.Ytogjeababinnlaa.PurePagesBest
open Go.RowKit Go.Proofs.Ytogjeababinnlaa Go.Proofs.Ytogjeababinnlaa.PPagesBest Go.Proofs.YtogjeababinnlaaW.PrintWords Go.Proofs.YtogjeababinnlaaW.PrintLast Go.Proofs.YtogjeababinnlaaW.PrintMore
theorem large_f (l : List S43) : colophonlaw27_large.f l = some (decide ((200 < l.length ∧ l.length ≤ 1024) ∨ 3000 < l.length)) := by
  unfold colophonlaw27_large.f
  by_cases h1 : (l.length : Int) > 200
  · rw [if_pos h1]
    by_cases h2 : (l.length : Int) ≤ 1024
    · rw [if_pos h2]
      congr 1
      symm
      rw [decide_eq_true_eq]
      omega
    · rw [if_neg h2]
      congr 1
      rw [decide_eq_decide]
      omega
  · rw [if_neg h1]
    congr 1
    rw [decide_eq_decide]
    omega

theorem same_l0 (m : List Int) (hm : m.length ≤ 1000000000) : ∀ (d k : Nat) (i : Int), 0 ≤ i → (m.length : Int) - i = d → d + 1 ≤ k → colophonkeep_Same.l0 k m m i = some true := by
  intro d
  induction d with
  | zero =>
    intro k i h0 hd hk
    obtain ⟨k, rfl⟩ : ∃ q, k = q + 1 := ⟨k - 1, by omega⟩
    rw [colophonkeep_Same.l0, if_neg (by omega)]
  | succ d ih =>
    intro k i h0 hd hk
    obtain ⟨k, rfl⟩ : ∃ q, k = q + 1 := ⟨k - 1, by omega⟩
    have hi : wrap64 (i + 1) = i + 1 := w_in (by omega)
    rw [colophonkeep_Same.l0, if_pos (by omega), if_pos h0, if_pos (by omega), if_pos rfl, hi]
    exact ih k (i + 1) (by omega) (by omega) (by omega)
theorem same_f (m : List Int) (hm : m.length ≤ 1000000000) (K : Nat) (hK : m.length + 1 ≤ K) : colophonkeep_Same.f K m m = some true := by
  unfold colophonkeep_Same.f
  rw [if_pos rfl]
  exact same_l0 m hm m.length K 0 (by omega) (by omega) hK
theorem like_l0 (l : List S43) (hl : l.length ≤ 5000) : ∀ (d k i : Nat), i + d = l.length → d + 1 ≤ k → colophonlaw27_same.l0 k l l (i : Int) = some true := by
  intro d
  induction d with
  | zero =>
    intro k i hd hk
    obtain ⟨k, rfl⟩ : ∃ q, k = q + 1 := ⟨k - 1, by omega⟩
    rw [colophonlaw27_same.l0, if_neg (by omega)]
  | succ d ih =>
    intro k i hd hk
    obtain ⟨k, rfl⟩ : ∃ q, k = q + 1 := ⟨k - 1, by omega⟩
    have hi : wrap64 ((i : Int) + 1) = ((i + 1 : Nat) : Int) := by rw [w_in (by omega)]; omega
    rw [colophonlaw27_same.l0, if_pos (by omega), if_pos (by omega), if_pos (by omega), if_neg (by simp), hi]
    exact ih k (i + 1) (by omega) (by omega)
theorem like_f (l : List S43) (hl : l.length ≤ 5000) (K : Nat) (hK : 5001 ≤ K) : colophonlaw27_same.f K l l = some true := by
  unfold colophonlaw27_same.f
  rw [if_pos rfl]
  exact like_l0 l hl l.length K 0 (by omega) (by omega)
theorem rbreak_f (K : Nat) (hK : 20000000 ≤ K) (l : List S43) (hl : l.length ≤ 5000) (h : Int) : colophonref27_Break.f K l h = pages_Break.f K l h := by
  have hK' : 20000 ≤ K := Nat.le_trans (by decide) hK
  unfold colophonref27_Break.f pages_Break.f
  rw [good_f K hK' l hl, rgood_f K hK' l hl, Option.bind_some, Option.bind_some]
  by_cases hG : goodP l
  · rw [decide_eq_true hG, if_pos rfl, if_pos rfl, room_f, Option.bind_some]
    obtain ⟨K, rfl⟩ : ∃ q, K = q + 1 := ⟨K - 1, by omega⟩
    have up : pages_Best.f (K + 1) l h = pages_Best.f K l h := by
      rw [← rbest_f K (by omega) l hl h, ← rbest_f (K + 1) (by omega) l hl h]
      rcases best_f K (by omega) l hl h with ⟨_, b⟩ | ⟨_, ⟨b, _⟩ | ⟨p, b, _⟩⟩
      all_goals
        rw [← rbest_f K (by omega) l hl h] at b
        rw [b]
        exact colophonref27_Best.mono l h K _ b
    by_cases h1 : h < 1
    · rw [if_pos h1, colophonref27_Break.j0, if_pos rfl, decide_eq_false (by omega), if_neg (by decide)]
    · rw [if_neg h1, colophonref27_Break.j0]
      by_cases h2 : h > 1073741824
      · rw [if_pos (decide_eq_true h2), decide_eq_false (by omega), if_neg (by decide)]
      · rw [if_neg (by rw [decide_eq_false h2]; decide), decide_eq_true (show 1 ≤ h ∧ h ≤ 1073741824 by omega), if_pos rfl, rbest_f K (by omega) l hl h, up]
  · rw [decide_eq_false hG, if_neg (by decide), if_neg (by decide)]
theorem pureK (K : Nat) (hK : 30000000 ≤ K) (l : List S43) (h : Int) : colophonlaw27_PagesBest.f K l h = some true := by
  unfold colophonlaw27_PagesBest.f
  rw [large_f, Option.bind_some]
  by_cases hL : (200 < l.length ∧ l.length ≤ 1024) ∨ 3000 < l.length
  · rw [decide_eq_true hL, if_pos rfl, wakes_k K (by omega)]
    rfl
  · have hl : l.length ≤ 5000 := by omega
    have e1 := rbreak_f K (by omega) l hl h
    have e2 := rbest_f K (by omega) l hl h
    obtain ⟨v, ev, hv⟩ : ∃ v, pages_Best.f K l h = some v ∧ v.1.length ≤ 5000 := by
      rcases best_f K (by omega) l hl h with ⟨_, b⟩ | ⟨_, ⟨b, _⟩ | ⟨p, b, _, _, b4, _⟩⟩
      · exact ⟨_, b, by simp⟩
      · exact ⟨_, b, by simp⟩
      · exact ⟨_, b, by dsimp only; omega⟩
    obtain ⟨u, eu, hu⟩ : ∃ v, pages_Break.f K l h = some v ∧ v.1.length ≤ 5000 := by
      unfold pages_Break.f
      rw [good_f K (by omega) l hl, Option.bind_some, room_f, Option.bind_some, ev, Option.bind_some]
      by_cases hG : goodP l
      · rw [decide_eq_true hG, if_pos rfl]
        by_cases hh : 1 ≤ h ∧ h ≤ 1073741824
        · rw [decide_eq_true hh, if_pos rfl]
          by_cases c : v.2.2 = true
          · rw [if_pos c]; exact ⟨_, rfl, hv⟩
          · rw [if_neg c]; exact ⟨_, rfl, by simp⟩
        · rw [decide_eq_false hh, if_neg (by decide)]; exact ⟨_, rfl, by simp⟩
      · rw [decide_eq_false hG, if_neg (by decide)]; exact ⟨_, rfl, by simp⟩
    rw [eu] at e1
    rw [ev] at e2
    rw [decide_eq_false hL, if_neg (by decide), twin_f l hl]
    simp only [Option.bind_some, eu, e1, ev, e2, same_f u.1 (by omega) K (by omega), same_f v.1 (by omega) K (by omega), if_true, beq_self_eq_true, like_f l hl K (by omega), wakes_k K (by omega)]
theorem pure (l : List S43) (h : Int) : ∃ k, colophonlaw27_PagesBest.f k l h = some true := ⟨_, pureK 30000000 (Nat.le_refl _) l h⟩

end Go.Proofs.Ytogjeababinnlaa.PurePagesBest
