/- The plain law of PagesRoom: all boxes stand on the pages, each once, in order, and no page is higher than the room; with more room there is a way, if there was one; for all lists and numbers. -/
import Derived.Test.YtogjeababinnlaaPPagesRoomx6
import Derived.Test.YtogjeababinnlaaPurePagesRoomD
namespace Go.Proofs.Ytogjeababinnlaa.PurePagesRoom
open Go.RowKit Go.Proofs.Ytogjeababinnlaa Go.Proofs.Ytogjeababinnlaa.PPagesRoom Go.Proofs.YtogjeababinnlaaW.PrintWords Go.Proofs.YtogjeababinnlaaW.PrintLast Go.Proofs.YtogjeababinnlaaW.PrintMore
theorem large_f (l : List S43) : colophonlaw27_large.f l = some (decide ((200 < l.length ∧ l.length ≤ 1024) ∨ 3000 < l.length)) := by
  unfold colophonlaw27_large.f
  by_cases h1 : (l.length : Int) > 200
  · rw [if_pos h1]
    by_cases h2 : (l.length : Int) ≤ 1024
    · rw [if_pos h2]
      congr 1
      symm
      rw [decide_eq_true_eq]
      omega
    · rw [if_neg h2]
      congr 1
      rw [decide_eq_decide]
      omega
  · rw [if_neg h1]
    congr 1
    rw [decide_eq_decide]
    omega

theorem break_f (K : Nat) (hK : 50000 ≤ K) (l : List S43) (hl : l.length ≤ 5000) (h : Int) :
    (∃ e, pages_Break.f K l h = some ([], e) ∧ e ≠ 0 ∧ (e = 270 ∨ ¬ (goodP l ∧ 1 ≤ h ∧ h ≤ 1073741824)) ∧ ∀ p, goodP l → 1 ≤ h → h ≤ 1073741824 → ¬ way l h 0 p) ∨
    ((goodP l ∧ 1 ≤ h ∧ h ≤ 1073741824) ∧ ∃ p, pages_Break.f K l h = some (p, 0) ∧ way l h 0 p ∧ p ≠ [] ∧ p.length ≤ l.length) := by
  unfold pages_Break.f
  rw [good_f K (by omega) l hl, Option.bind_some, room_f, Option.bind_some]
  by_cases hG : goodP l
  · rw [decide_eq_true hG, if_pos rfl]
    by_cases hh : 1 ≤ h ∧ h ≤ 1073741824
    · rw [decide_eq_true hh, if_pos rfl]
      rcases best_f K hK l hl h with ⟨b1, b2⟩ | ⟨_, ⟨b1, b2⟩ | ⟨p, b1, b2, b3, b4, b5⟩⟩
      · exact absurd ⟨hG, hh⟩ b1
      · left
        rw [b1]
        exact ⟨270, rfl, by decide, .inl rfl, fun p _ _ _ => b2 p⟩
      · right
        rw [b1]
        exact ⟨⟨hG, hh⟩, p, rfl, b2, b3, b4⟩
    · left
      rw [decide_eq_false hh, if_neg (by decide)]
      exact ⟨1, rfl, by decide, .inr (fun x => hh x.2), fun p _ h1 h2 => absurd ⟨h1, h2⟩ hh⟩
  · left
    rw [decide_eq_false hG, if_neg (by decide)]
    exact ⟨220, rfl, by decide, .inr (fun x => hG x.1), fun p h1 _ _ => absurd h1 hG⟩
theorem height_val (K : Nat) (hK : 50000 ≤ K) (l : List S43) (hG : goodP l) (i j : Nat) (hi : i ≤ l.length) (he : elig l i) (hij : i ≤ j) (hj : legB l (j : Int) = true) :
    pages_Height.f K l ((i : Int) - 1) (j : Int) = some (pg l i j) := by
  have hn := hG.1.2
  have hb := leg_b l _ hj
  have hp := page_f l hG i j hi (by omega)
  unfold pages_Height.f
  rw [good_f K (by omega) l (by omega), Option.bind_some, decide_eq_true hG, if_neg (by decide), if_pos hG.1.2, legal_f, Option.bind_some, if_neg (by rw [hj]; decide), if_neg (by omega)]
  by_cases h0 : (i : Int) - 1 = -1
  · rw [if_pos h0, hp]
  · have hl : legB l ((i : Int) - 1) = true := by
      rcases he with he | he
      · omega
      · exact he
    rw [if_neg h0, legal_f, Option.bind_some, if_neg (by rw [hl]; decide), hp]
theorem l1_f (l : List S43) (h more : Int) (x : List Int) (c : Nat) (hc : c < x.length) (hn : l.length ≤ 1024) (i j : Nat) (e : rd x (c : Int) = (j : Int)) (hj : j < l.length) (hM : ∀ k : Nat, i ≤ k → k < j → ¬ isF (rd_T43 l (k : Int))) :
    ∀ (d K q : Nat), q + d = j → i ≤ q → colophonlaw27_PagesRoom.l1 (K + d + 1) l h more x (c : Int) (q : Int) = colophonlaw27_PagesRoom.l0 K l h more x (j : Int) (wrap64 ((c : Int) + 1)) := by
  intro d
  induction d with
  | zero =>
    intro K q hq hi
    rw [colophonlaw27_PagesRoom.l1, if_pos (by omega), if_pos (by omega), e, if_neg (by omega)]
  | succ d ih =>
    intro K q hq hi
    have hf := hM q hi (by omega)
    have hw : wrap64 ((q : Int) + 1) = ((q + 1 : Nat) : Int) := by rw [w_in (by omega)]; omega
    have := ih K (q + 1) (by omega) (by omega)
    rw [show K + (d + 1) + 1 = (K + d + 1) + 1 by omega, colophonlaw27_PagesRoom.l1, if_pos (by omega), if_pos (by omega), e, if_pos (by omega), if_pos (by omega), if_pos (by omega), hw]
    by_cases h3 : (rd_T43 l (q : Int)).f0 = 3
    · rw [if_pos h3, if_neg (fun z => hf ⟨h3, z⟩), this]
    · rw [if_neg h3, this]
theorem kk (K a : Nat) (h : a + 1 ≤ K) : K - a - 1 + a + 1 = K := by omega
theorem kn (K a n : Nat) (h : 100000 ≤ K) (ha : a ≤ n) (hn : n ≤ 1024) : a + 1 ≤ K := by omega
theorem ks (d K a n : Nat) (h : 2000 * (d + 1) + 100000 ≤ K + 2) (ha : a ≤ n) (hn : n ≤ 1024) : 2000 * d + 100000 ≤ K - a - 1 := by omega
theorem l0_f (l : List S43) (hl : l.length ≤ 3000) (hG : goodP l) (h more : Int) (hh : 1 ≤ h ∧ h ≤ 1073741824) (hm : -9223372036854775808 ≤ more ∧ more ≤ 9223372036854775807) (x : List Int) (hx : x.length ≤ 1024) (hw0 : way l h 0 x) (_hne : x ≠ []) : ∀ (d K c i : Nat), c + d = x.length → i ≤ l.length → elig l i → way l h i (x.drop c) → 2000 * d + 100000 ≤ K →
    colophonlaw27_PagesRoom.l0 K l h more x ((i : Int) - 1) (c : Int) = some true := by
  have hn := hG.1.2
  intro d
  induction d with
  | zero =>
    intro K c i hc hi he hw hK
    obtain ⟨K, rfl⟩ : ∃ q, K = q + 2 := ⟨K - 2, by omega⟩
    rw [List.drop_eq_nil_of_le (by omega)] at hw
    have hi2 : i = l.length := hw
    have hw1 : wrap64 ((l.length : Int) - 1) = (l.length : Int) - 1 := w_in (by omega)
    have hw2 : wrap64 (1073741824 - h) = 1073741824 - h := w_in (by omega)
    have last : ∀ t : Bool, (t = false → 0 ≤ more ∧ h + more ≤ 1073741824) → colophonlaw27_PagesRoom.j3 (K + 1) l h more ((i : Int) - 1) t = some true := by
      intro t ht
      rw [colophonlaw27_PagesRoom.j3, hw1]
      cases t with
      | true =>
        rw [if_pos rfl, if_pos (by omega), wakes_k K (by omega)]
        rfl
      | false =>
        have hr := ht rfl
        have hw3 : wrap64 (h + more) = h + more := w_in (by omega)
        rw [if_neg (by decide), twin_f l (by omega), Option.bind_some, hw3]
        rcases break_f K (by omega) l (by omega) (h + more) with ⟨e, b1, b2, b3, b4⟩ | ⟨_, p, b1, b2, b3, b4⟩
        · exact absurd (way_more l h (h + more) (by omega) hh.1 x 0 hw0) (b4 x hG (by omega) (by omega))
        · rw [b1, Option.bind_some, if_pos (by omega), if_pos rfl, wakes_k K (by omega)]
          rfl
    rw [colophonlaw27_PagesRoom.l0, if_neg (by omega), hw2]
    by_cases c1 : more < 0
    · rw [if_pos c1]
      exact last true (fun z => by simp at z)
    · rw [if_neg c1]
      exact last _ (fun z => by rw [decide_eq_false_iff_not] at z; omega)
  | succ d ih =>
    intro K c i hc hi he hw hK
    obtain ⟨K, rfl⟩ : ∃ q, K = q + 2 := ⟨K - 2, by omega⟩
    have HKA := Aside0.mk (show 50000 ≤ K + 1 by omega)
    have HKC := Aside0.mk (show 100000 ≤ K by omega)
    have HKB := Aside0.mk hK
    clear hK
    have hcl : c < x.length := by omega
    have ed : x.drop c = rd x (c : Int) :: x.drop (c + 1) := by
      rw [List.drop_eq_getElem_cons hcl]
      simp [rd, List.getD_eq_getElem?_getD, hcl]
    rw [ed] at hw
    obtain ⟨j, e, h2, h3, h4, h5⟩ := hw
    rw [e] at h3
    have hj := leg_b l _ h3
    obtain ⟨m1, m2⟩ := cost_must h4
    have HWI := Aside0.mk (show wrap64 ((i : Int) - 1 + 1) = (i : Int) by rw [w_in (by omega)]; omega)
    have HWC := Aside0.mk (show wrap64 ((c : Int) + 1) = ((c + 1 : Nat) : Int) by rw [w_in (by omega)]; omega)
    obtain ⟨f, ef, f1, f2, f3, f4⟩ := M_spec l (l.length - i) i (by omega)
    rw [colophonlaw27_PagesRoom.l0, if_pos (by omega), if_pos (by omega), e, if_neg (by omega), if_neg (by omega), twin_f l (by omega), Option.bind_some, height_val (K + 1) HKA.out l hG i j hi he h2 h3, Option.bind_some, decide_eq_false (by omega), colophonlaw27_PagesRoom.j1, if_neg (by decide), HWI.out]
    have l1 := l1_f l h more x c hcl hn i j e (by omega) (fun k k1 k2 => f3 k k1 (by rw [ef] at m1; omega)) (j - i) (K - (j - i) - 1) i (by omega) (Nat.le_refl _)
    rw [kk K (j - i) (kn K (j - i) l.length HKC.out (by omega) hn)] at l1
    rw [l1, HWC.out, show (j : Int) = ((j + 1 : Nat) : Int) - 1 by omega]
    exact ih _ (c + 1) (j + 1) (by omega) (by omega) (elig_next l j h3) h5 (ks d K (j - i) l.length HKB.out (by omega) hn)
theorem pureK (K : Nat) (hK : 10000000 ≤ K) (l : List S43) (h more : Int) (hm : -9223372036854775808 ≤ more ∧ more ≤ 9223372036854775807) : colophonlaw27_PagesRoom.f K l h more = some true := by
  unfold colophonlaw27_PagesRoom.f
  rw [large_f, Option.bind_some]
  by_cases hL : (200 < l.length ∧ l.length ≤ 1024) ∨ 3000 < l.length
  · rw [decide_eq_true hL, if_pos rfl, wakes_k K (by omega)]
    rfl
  · have hl : l.length ≤ 5000 := by omega
    rw [decide_eq_false hL, if_neg (by decide), twin_f l hl, Option.bind_some]
    rcases break_f K (by omega) l hl h with ⟨e, b1, b2, b3, b4⟩ | ⟨⟨hG, hh⟩, p, b1, b2, b3, b4⟩
    · rw [b1, Option.bind_some, if_neg b2, if_pos (show (([] : List Int).length : Int) = 0 from rfl), wakes_k K (by omega)]
      rfl
    · rw [b1, Option.bind_some, if_pos rfl]
      have hn := hG.1.2
      have := l0_f l (by omega) hG h more hh hm p (by omega) b2 b3 p.length K 0 0 (by omega) (Nat.zero_le _) (.inl rfl) b2 (by omega)
      exact this
theorem w64 {n : Int} (h : (Lit.int .i64 n).wf = true) : -9223372036854775808 ≤ n ∧ n ≤ 9223372036854775807 := by
  simp [Lit.wf] at h
  have h1 : IntKind.i64.min = -9223372036854775808 := by decide
  have h2 : IntKind.i64.max = 9223372036854775807 := by decide
  omega
theorem pure (l : List S43) (h more : Int) (hm : (Lit.int .i64 more).wf = true) : ∃ k, colophonlaw27_PagesRoom.f k l h more = some true := ⟨_, pureK 10000000 (Nat.le_refl _) l h more (w64 hm)⟩

end Go.Proofs.Ytogjeababinnlaa.PurePagesRoom
