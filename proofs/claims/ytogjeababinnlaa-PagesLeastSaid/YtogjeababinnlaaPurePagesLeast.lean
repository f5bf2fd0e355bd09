/- The plain law of PagesLeast: no way costs less than the best one, for all lists, ways and numbers. -/
import Derived.Test.YtogjeababinnlaaPPagesLeastx5
import Derived.Test.YtogjeababinnlaaPurePagesLeastB
import Derived.Test.YtogjeababinnlaaPurePagesLeastD
import Derived.Test.YtogjeababinnlaaPurePagesLeastW
namespace Go.Proofs.Ytogjeababinnlaa.PurePagesLeast
open Go.RowKit Go.Proofs.Ytogjeababinnlaa Go.Proofs.Ytogjeababinnlaa.PPagesLeast Go.Proofs.YtogjeababinnlaaW.PrintWords Go.Proofs.YtogjeababinnlaaW.PrintLast Go.Proofs.YtogjeababinnlaaW.PrintMore
theorem large_f (l : List S43) : colophonlaw27_large.f l = some (decide ((200 < l.length ∧ l.length ≤ 1024) ∨ 3000 < l.length)) := by
  unfold colophonlaw27_large.f
  by_cases h1 : (l.length : Int) > 200
  · rw [if_pos h1]
    by_cases h2 : (l.length : Int) ≤ 1024
    · rw [if_pos h2]
      congr 1
      symm
      rw [decide_eq_true_eq]
      omega
    · rw [if_neg h2]
      congr 1
      rw [decide_eq_decide]
      omega
  · rw [if_neg h1]
    congr 1
    rw [decide_eq_decide]
    omega

theorem ints_f (l : List Int) (n : Nat) (hn : n ≤ 100000) : colophonkeep_Ints.f l (n : Int) = some (l.take n) := by
  unfold colophonkeep_Ints.f
  by_cases h : (l.length : Int) > n
  · rw [if_pos h, if_pos (by omega), if_pos (by omega)]
    simp only [Option.bind_some, List.nil_append, List.length_nil, Int.toNat_natCast]
    rw [if_pos (by rw [List.length_take]; omega)]
  · rw [if_neg h]
    simp only [Option.bind_some, List.nil_append, List.length_nil]
    rw [if_pos (by omega), List.take_of_length_le (by omega)]

theorem pureK (K : Nat) (hK : 200000 ≤ K) (l : List S43) (m : List Int) (h : Int) : colophonlaw27_PagesLeast.f K l m h = some true := by
  unfold colophonlaw27_PagesLeast.f
  rw [large_f, Option.bind_some]
  by_cases hL : (200 < l.length ∧ l.length ≤ 1024) ∨ 3000 < l.length
  · rw [decide_eq_true hL, if_pos rfl, wakes_k K (by omega)]
    rfl
  · have hl : l.length ≤ 5000 := by omega
    have hI : colophonkeep_Ints.f m 2000 = some (m.take 2000) := ints_f m 2000 (by omega)
    have hm : (m.take 2000).length ≤ 2000 := by rw [List.length_take]; omega
    rw [decide_eq_false hL, if_neg (by decide), hI, twin_f l hl]
    generalize m.take 2000 = x at hm
    obtain ⟨t, ok, e1, hok⟩ := cost_way K (by omega) l hl x (by omega) h
    simp only [Option.bind_some, e1]
    obtain ⟨K, rfl⟩ : ∃ q, K = q + 1 := ⟨K - 1, by omega⟩
    rcases best_f (K + 1) (by omega) l hl h with ⟨b1, b2⟩ | ⟨⟨hG, hh⟩, ⟨b1, b2⟩ | ⟨p, b1, b2, b3, b4, b5⟩⟩
    · have ho : ok = false := by
        cases ok with
        | false => rfl
        | true => exact absurd (hok rfl).1 b1
      rw [b2, ho]
      simp only [Option.bind_some]
      rw [if_neg (by decide), colophonlaw27_PagesLeast.j0, if_neg (by decide), if_neg (by decide), if_pos (show (([] : List Int).length : Int) = 0 from rfl), if_pos rfl, wakes_k K (by omega)]
      rfl
    · have ho : ok = false := by
        cases ok with
        | false => rfl
        | true => exact absurd (hok rfl).2.1 (b2 x)
      rw [b1, ho]
      simp only [Option.bind_some]
      rw [if_neg (by decide), colophonlaw27_PagesLeast.j0, if_neg (by decide), if_neg (by decide), if_pos (show (([] : List Int).length : Int) = 0 from rfl), if_pos rfl, wakes_k K (by omega)]
      rfl
    · have cb := cost_back K (by omega) l hl p (by omega) h hG hh b3 b2
      have fin : colophonlaw27_PagesLeast.j0 (K + 1) l h p (wcost l h 0 p) true false = some true := by
        rw [colophonlaw27_PagesLeast.j0, if_neg (by decide), if_pos rfl, twin_f l hl]
        simp only [Option.bind_some, cb, if_true, wakes_k K (by omega)]
      rw [b1]
      simp only [Option.bind_some]
      cases ok with
      | false => rw [if_neg (by decide), fin]
      | true =>
        obtain ⟨_, h2, h3⟩ := hok rfl
        have := b5 x h2
        rw [if_pos trivial, if_pos rfl, decide_eq_false (by omega), fin]
theorem pure (l : List S43) (m : List Int) (h : Int) : ∃ k, colophonlaw27_PagesLeast.f k l m h = some true := ⟨_, pureK 200000 (Nat.le_refl _) l m h⟩

end Go.Proofs.Ytogjeababinnlaa.PurePagesLeast
