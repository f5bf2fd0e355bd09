/- law21, the plain law: classes of code points and words (the program's and the reference's). -/
import Derived.Test.YtenhfmlkdcfbbaaDoorPHyphenPointsx3
import Derived.Test.YtenhfmlkdcfbbaaDoorPHyphenPointsx7
namespace Go.Proofs.YtenhfmlkdcfbbaaDoor.LawW
open Go.RowKit Go.Proofs.YtenhfmlkdcfbbaaDoor.PHyphenPoints Go.Proofs.YtenhfmlkdcfbbaaDoorW.PrintWords Go.Proofs.YtenhfmlkdcfbbaaDoorW.PrintLast Go.Proofs.YtenhfmlkdcfbbaaDoorW.PrintMore
set_option linter.unusedVariables false
theorem w_in {e : Int} (h : -9223372036854775808 ≤ e ∧ e ≤ 9223372036854775807) : wrap64 e = e := by unfold wrap64; omega
def cls (c : Int) : Int := ((utf_Class.f 5 c).getD 0)
theorem point_f (c : Int) : ∃ b, utf_point.f c = some b := by
  unfold utf_point.f
  repeat' (first | exact ⟨_, rfl⟩ | split)
theorem j2_some (k : Nat) (c : Int) (b : Bool) : ∃ v, utf_Class.j2 (k + 1) c b = some v := by
  rw [utf_Class.j2]
  repeat' (first | exact ⟨_, rfl⟩ | split)
theorem j1_some (k : Nat) (c : Int) (b : Bool) : ∃ v, utf_Class.j1 (k + 2) c b = some v := by
  rw [utf_Class.j1]
  repeat' (first | exact ⟨_, rfl⟩ | exact j2_some _ _ _ | split)
theorem j0_some (k : Nat) (c : Int) (b : Bool) : ∃ v, utf_Class.j0 (k + 3) c b = some v := by
  rw [utf_Class.j0]
  repeat' (first | exact ⟨_, rfl⟩ | exact j1_some _ _ _ | split)
theorem class_some (c : Int) : ∃ v, utf_Class.f 5 c = some v := by
  unfold utf_Class.f
  obtain ⟨b, hb⟩ := point_f c
  rw [hb, Option.bind_some]
  repeat' (first | exact ⟨_, rfl⟩ | exact j0_some 2 _ _ | split)
theorem class_f (k : Nat) (hk : 5 ≤ k) (c : Int) : utf_Class.f k c = some (cls c) := by
  obtain ⟨v, hv⟩ := class_some c
  have e : cls c = v := by unfold cls; rw [hv]; rfl
  rw [e]
  exact at_rounds (g := fun k => utf_Class.f k c) (utf_Class.mono c) hk hv
def B (l : List Int) (j : Int) : Prop := cls (rd l j) = 1
def atOf (x : List S90) (i : Nat) : Int := if i = 0 then 0 else (x.getD (i - 1) z90).f1
structure Segs (l : List Int) (x : List S90) (n : Int) : Prop where
  seg : ∀ i, i < x.length → atOf x i ≤ (x.getD i z90).f0 ∧ (x.getD i z90).f0 < (x.getD i z90).f1 ∧ (x.getD i z90).f1 ≤ n ∧ (0 < i → (x.getD i z90).f0 ≠ atOf x i) ∧
    (∀ j, atOf x i ≤ j → j < (x.getD i z90).f0 → B l j) ∧ (∀ j, (x.getD i z90).f0 ≤ j → j < (x.getD i z90).f1 → ¬ B l j)
theorem getD_app (x : List S90) (s : S90) (i : Nat) (h : i < x.length) : (x ++ [s]).getD i z90 = x.getD i z90 := by
  rw [List.getD_eq_getElem?_getD, List.getD_eq_getElem?_getD, List.getElem?_append_left h]
theorem atOf_append (x : List S90) (s : S90) (i : Nat) (h : i ≤ x.length) : atOf (x ++ [s]) i = atOf x i := by
  unfold atOf
  split
  · rfl
  · rw [getD_app _ _ _ (by omega)]
theorem getD_append_left (x : List S90) (s : S90) (i : Nat) (h : i < x.length) : (x ++ [s]).getD i z90 = x.getD i z90 := getD_app _ _ _ h
theorem getD_last (x : List S90) (s : S90) : (x ++ [s]).getD x.length z90 = s := by
  rw [List.getD_eq_getElem?_getD, List.getElem?_append_right (Nat.le_refl _)]
  simp
theorem Segs.snoc {l : List Int} {x : List S90} {n m : Int} {a b : Int} (h : Segs l x n) (hnm : n ≤ m) (h1 : atOf x x.length ≤ a) (h2 : a < b) (h3 : b ≤ m) (h4 : x ≠ [] → a ≠ atOf x x.length)
    (h5 : ∀ j, atOf x x.length ≤ j → j < a → B l j) (h6 : ∀ j, a ≤ j → j < b → ¬ B l j) : Segs l (x ++ [⟨a, b⟩]) m := by
  refine ⟨fun i hi => ?_⟩
  rw [List.length_append] at hi
  by_cases hx : i < x.length
  · rw [getD_append_left x _ i hx, atOf_append x _ i (by omega)]
    obtain ⟨q1, q2, q3, q4⟩ := h.seg i hx
    exact ⟨q1, q2, by omega, q4⟩
  · obtain rfl : i = x.length := by simp at hi; omega
    rw [getD_last, atOf_append x _ _ (Nat.le_refl _)]
    exact ⟨h1, h2, h3, fun hp => h4 (by intro e; subst e; simp at hp), h5, h6⟩
theorem Segs.up {l : List Int} {x : List S90} {n m : Int} (h : Segs l x n) (hnm : n ≤ m) : Segs l x m :=
  ⟨fun i hi => by obtain ⟨q1, q2, q3, q4⟩ := h.seg i hi; exact ⟨q1, q2, by omega, q4⟩⟩
def Inv (l : List Int) (x : List S90) (fr n : Int) : Prop :=
  Segs l x n ∧ (x.length : Int) ≤ n ∧ ((fr = -1 ∧ 0 ≤ atOf x x.length ∧ atOf x x.length ≤ n ∧ (x ≠ [] → atOf x x.length < n) ∧ ∀ j, atOf x x.length ≤ j → j < n → B l j) ∨
    (0 ≤ fr ∧ fr < n ∧ 0 ≤ atOf x x.length ∧ atOf x x.length ≤ fr ∧ (x ≠ [] → fr ≠ atOf x x.length) ∧ (x.length : Int) ≤ fr ∧ (∀ j, atOf x x.length ≤ j → j < fr → B l j) ∧ ∀ j, fr ≤ j → j < n → ¬ B l j))
theorem atOf_snoc (x : List S90) (s : S90) : atOf (x ++ [s]) (x ++ [s]).length = s.f1 := by
  unfold atOf
  rw [List.length_append, if_neg (by simp)]
  show ((x ++ [s]).getD (x.length + 1 - 1) z90).f1 = s.f1
  rw [Nat.add_sub_cancel, getD_last]
theorem words_l0 (l : List Int) (hl : l.length ≤ 70000) : ∀ (d k : Nat) (x : List S90) (fr n : Int), 0 ≤ n → (l.length : Int) - n = d → 2 * d + 10 ≤ k → Inv l x fr n →
    ∃ r, utf_Words.l0 k l x fr l (l.length : Int) n = some r ∧ Segs l r (l.length : Int) ∧ (r.length : Int) ≤ l.length ∧ ∀ j, atOf r r.length ≤ j → j < (l.length : Int) → B l j := by
  intro d
  induction d with
  | zero =>
    intro k x fr n h0 hd hk hI
    obtain ⟨k, rfl⟩ : ∃ m, k = m + 1 := ⟨k - 1, by omega⟩
    have hn : n = (l.length : Int) := by omega
    subst hn
    rw [utf_Words.l0, if_neg (by omega)]
    obtain ⟨hS, hxl, ⟨rfl, h1, h2, h3, h4⟩ | ⟨h1, h2, h3, h4, h5, h6, h7, h8⟩⟩ := hI
    · rw [if_neg (by omega)]
      exact ⟨x, rfl, hS, hxl, h4⟩
    · rw [if_pos (by omega), if_pos (by omega)]
      refine ⟨_, rfl, hS.snoc (Int.le_refl _) h4 h2 (Int.le_refl _) h5 h7 h8, by simp; omega, ?_⟩
      rw [atOf_snoc]
      intro j hj hj2
      exact absurd hj2 (by show ¬ j < (l.length : Int); have : (l.length : Int) ≤ j := hj; omega)
  | succ d ih =>
    intro k x fr n h0 hd hk hI
    obtain ⟨k, rfl⟩ : ∃ m, k = m + 2 := ⟨k - 2, by omega⟩
    have hn1 : wrap64 (n + 1) = n + 1 := w_in (by omega)
    rw [utf_Words.l0, if_pos (by omega), if_pos h0, if_pos (by omega), class_f (k + 1) (by omega), Option.bind_some]
    obtain ⟨hS, hxl, hI⟩ := hI
    by_cases hb : cls (rd l n) = 1
    · rw [if_pos hb]
      have hbn : B l n := hb
      have e1 : (cls (rd l n) == 1) = true := beq_iff_eq.2 hb
      rw [e1]
      rcases hI with ⟨rfl, h1, h2, h3, h4⟩ | ⟨h1, h2, h3, h4, h5, h6, h7, h8⟩
      · rw [decide_eq_false (by omega), utf_Words.j1, if_neg (by decide), if_pos rfl, hn1]
        refine ih k x (-1) (n + 1) (by omega) (by omega) (by omega) ⟨hS.up (by omega), by omega, .inl ⟨rfl, h1, by omega, fun hx => by have := h3 hx; omega, fun j q1 q2 => ?_⟩⟩
        by_cases hj : j = n
        · rw [hj]; exact hbn
        · exact h4 j q1 (by omega)
      · rw [decide_eq_true (show fr ≥ 0 by omega), utf_Words.j1, if_pos rfl, if_pos (by omega), hn1]
        refine ih k _ (-1) (n + 1) (by omega) (by omega) (by omega) ⟨hS.snoc (by omega) h4 h2 (by omega) h5 h7 h8, by simp; omega, .inl ⟨rfl, ?_⟩⟩
        rw [atOf_snoc]
        refine ⟨h0, by show n ≤ n + 1; omega, fun _ => by show n < n + 1; omega, fun j q1 q2 => ?_⟩
        have q1' : n ≤ j := q1
        obtain rfl : j = n := by omega
        exact hbn
    · rw [if_neg hb]
      have hbn : ¬ B l n := hb
      have e1 : (cls (rd l n) == 1) = false := beq_eq_false_iff_ne.2 hb
      rw [e1, utf_Words.j1, if_neg (by decide), if_neg (by decide)]
      rcases hI with ⟨rfl, h1, h2, h3, h4⟩ | ⟨h1, h2, h3, h4, h5, h6, h7, h8⟩
      · rw [if_pos (by omega), hn1]
        refine ih k x n (n + 1) (by omega) (by omega) (by omega) ⟨hS.up (by omega), by omega, .inr ⟨h0, by omega, h1, h2, fun hx => by have := h3 hx; omega, hxl, h4, fun j q1 q2 => ?_⟩⟩
        obtain rfl : j = n := by omega
        exact hbn
      · rw [if_neg (by omega), hn1]
        refine ih k x fr (n + 1) (by omega) (by omega) (by omega) ⟨hS.up (by omega), by omega, .inr ⟨h1, by omega, h3, h4, h5, h6, h7, fun j q1 q2 => ?_⟩⟩
        by_cases hj : j = n
        · rw [hj]; exact hbn
        · exact h8 j q1 (by omega)
theorem words_f (l : List Int) (hl : l.length ≤ 70000) (k : Nat) (hk : 200000 ≤ k) : ∃ r, utf_Words.f k l = some r ∧ Segs l r (l.length : Int) ∧ (r.length : Int) ≤ l.length ∧ ∀ j, atOf r r.length ≤ j → j < (l.length : Int) → B l j := by
  unfold utf_Words.f
  exact words_l0 l hl l.length k [] (-1) 0 (by omega) (by omega) (by omega) ⟨⟨fun i hi => by simp at hi⟩, by simp, .inl ⟨rfl, by simp [atOf], by simp [atOf], fun h => absurd rfl h, fun j q1 q2 => by simp [atOf] at q1; omega⟩⟩
theorem is_f (c : Int) : colophonref04_Is.f c = utf_point.f c := by
  unfold colophonref04_Is.f utf_point.f
  simp only [ge_iff_le]
  by_cases h1 : 0 ≤ c
  · by_cases h2 : c ≤ 1114111
    · by_cases h3 : c < 55296
      · simp [h1, h2, h3]
      · by_cases h4 : 57343 < c <;> simp [h1, h2, h3, h4]
    · have h3 : ¬ c < 55296 := by omega
      have h4 : 57343 < c := by omega
      simp [h1, h2, h3, h4]
  · have h3 : ¬ 57343 < c := by omega
    simp [h1, h3]
theorem class_same (c : Int) : colophonref04_Class.f 5 c = utf_Class.f 5 c := by
  simp only [utf_Class.f, colophonref04_Class.f, utf_Class.j0, utf_Class.j1, utf_Class.j2, colophonref04_Class.j0, colophonref04_Class.j1, colophonref04_Class.j2, is_f, ge_iff_le]
theorem rclass_f (k : Nat) (hk : 5 ≤ k) (c : Int) : colophonref04_Class.f k c = some (cls c) := by
  have h : colophonref04_Class.f 5 c = some (cls c) := by rw [class_same]; exact class_f 5 (Nat.le_refl _) c
  exact at_rounds (g := fun k => colophonref04_Class.f k c) (colophonref04_Class.mono c) hk h
def both (s : S90) : S69 := ⟨s.f0, s.f1⟩
theorem rwords_l0 (l : List Int) (hl : l.length ≤ 70000) : ∀ (d k k' : Nat) (x : List S90) (fr n : Int), 0 ≤ n → (l.length : Int) - n = d → 2 * d + 10 ≤ k → 4 * d + 20 ≤ k' → -1 ≤ fr → (x.length : Int) ≤ n →
    (fr ≥ 0 → (x.length : Int) + 1 ≤ n) → ∃ r, utf_Words.l0 k l x fr l (l.length : Int) n = some r ∧ colophonref04_Words.l0 k' l (x.map both) fr n = some (r.map both) := by
  intro d
  induction d with
  | zero =>
    intro k k' x fr n h0 hd hk hk' hfr hx hx2
    obtain ⟨k, rfl⟩ : ∃ m, k = m + 1 := ⟨k - 1, by omega⟩
    obtain ⟨k', rfl⟩ : ∃ m, k' = m + 4 := ⟨k' - 4, by omega⟩
    have hn : n = (l.length : Int) := by omega
    subst hn
    have hn1 : wrap64 ((l.length : Int) + 1) = (l.length : Int) + 1 := w_in (by omega)
    have hu : utf_Words.l0 (k + 1) l x fr l (l.length : Int) (l.length : Int) = if fr ≥ 0 then (if x.length < 8796093022208 then (some (x ++ [(⟨fr, (l.length : Int)⟩ : S90)])) else (none)) else (some x) := by
      rw [utf_Words.l0, if_neg (by omega)]
    have hr : colophonref04_Words.l0 (k' + 4) l (x.map both) fr (l.length : Int) = colophonref04_Words.j2 (k' + 2) l (x.map both) fr (l.length : Int) true (decide (fr ≥ 0)) := by
      rw [colophonref04_Words.l0, if_pos (Int.le_refl _), if_pos rfl, colophonref04_Words.j1, if_pos rfl]
    have he : ∀ y : List S69, ∀ q : Int, colophonref04_Words.l0 (k' + 1) l y q ((l.length : Int) + 1) = some y := by
      intro y q
      rw [colophonref04_Words.l0, if_neg (by omega)]
    rw [hu, hr]
    by_cases hf : fr ≥ 0
    · rw [if_pos hf, if_pos (by omega), decide_eq_true hf, colophonref04_Words.j2, if_pos rfl, if_pos (by rw [List.length_map]; omega), Option.bind_some, if_pos rfl, hn1, he]
      exact ⟨_, rfl, by simp [both]⟩
    · rw [if_neg hf, decide_eq_false hf, colophonref04_Words.j2, if_neg (by decide), if_pos rfl, hn1, he]
      exact ⟨_, rfl, rfl⟩
  | succ d ih =>
    intro k k' x fr n h0 hd hk hk' hfr hx hx2
    obtain ⟨k, rfl⟩ : ∃ m, k = m + 2 := ⟨k - 2, by omega⟩
    obtain ⟨k', rfl⟩ : ∃ m, k' = m + 3 := ⟨k' - 3, by omega⟩
    have hn1 : wrap64 (n + 1) = n + 1 := w_in (by omega)
    by_cases hb : cls (rd l n) = 1
    · have e1 : (cls (rd l n) == 1) = true := beq_iff_eq.2 hb
      have hu : utf_Words.l0 (k + 2) l x fr l (l.length : Int) n = utf_Words.j1 (k + 1) l x fr n true l (l.length : Int) n (decide (fr ≥ 0)) := by
        rw [utf_Words.l0, if_pos (by omega), if_pos h0, if_pos (by omega), class_f (k + 1) (by omega), Option.bind_some, if_pos hb, e1]
      have hr : colophonref04_Words.l0 (k' + 3) l (x.map both) fr n = colophonref04_Words.j2 (k' + 1) l (x.map both) fr n true (decide (fr ≥ 0)) := by
        rw [colophonref04_Words.l0, if_pos (by omega), if_neg (by omega), if_pos h0, if_pos (by omega), rclass_f (k' + 2) (by omega), Option.bind_some, e1, colophonref04_Words.j1, if_pos rfl]
      rw [hu, hr]
      by_cases hf : fr ≥ 0
      · rw [decide_eq_true hf, utf_Words.j1, if_pos rfl, if_pos (by omega), colophonref04_Words.j2, if_pos rfl, if_pos (by rw [List.length_map]; omega), Option.bind_some, if_pos rfl, hn1]
        obtain ⟨r, h1, h2⟩ := ih k k' (x ++ [⟨fr, n⟩]) (-1) (n + 1) (by omega) (by omega) (by omega) (by omega) (by omega) (by have := hx2 hf; simp; omega) (by omega)
        refine ⟨r, h1, ?_⟩
        rw [List.map_append] at h2
        exact h2
      · rw [decide_eq_false hf, utf_Words.j1, if_neg (by decide), if_pos rfl, colophonref04_Words.j2, if_neg (by decide), if_pos rfl, hn1]
        exact ih k k' x fr (n + 1) (by omega) (by omega) (by omega) (by omega) hfr (by omega) (fun q => absurd q hf)
    · have e1 : (cls (rd l n) == 1) = false := beq_eq_false_iff_ne.2 hb
      have hu : utf_Words.l0 (k + 2) l x fr l (l.length : Int) n = utf_Words.j1 (k + 1) l x fr n false l (l.length : Int) n false := by
        rw [utf_Words.l0, if_pos (by omega), if_pos h0, if_pos (by omega), class_f (k + 1) (by omega), Option.bind_some, if_neg hb, e1]
      have hr : colophonref04_Words.l0 (k' + 3) l (x.map both) fr n = colophonref04_Words.j2 (k' + 1) l (x.map both) fr n false false := by
        rw [colophonref04_Words.l0, if_pos (by omega), if_neg (by omega), if_pos h0, if_pos (by omega), rclass_f (k' + 2) (by omega), Option.bind_some, e1, colophonref04_Words.j1, if_neg (by decide)]
      have ff : ¬ (false = true) := by decide
      have hu2 : utf_Words.j1 (k + 1) l x fr n false l (l.length : Int) n false = if fr < 0 then (utf_Words.l0 k l x n l (l.length : Int) (wrap64 (n + 1))) else (utf_Words.l0 k l x fr l (l.length : Int) (wrap64 (n + 1))) := by
        rw [utf_Words.j1, if_neg ff, if_neg ff]
      have hr2 : colophonref04_Words.j2 (k' + 1) l (x.map both) fr n false false = if fr < 0 then (colophonref04_Words.l0 k' l (x.map both) n (wrap64 (n + 1))) else (colophonref04_Words.l0 k' l (x.map both) fr (wrap64 (n + 1))) := by
        rw [colophonref04_Words.j2, if_neg ff, if_neg ff]
      rw [hu, hr, hu2, hr2]
      by_cases hf : fr < 0
      · rw [if_pos hf, if_pos hf, hn1]
        exact ih k k' x n (n + 1) (by omega) (by omega) (by omega) (by omega) (by omega) (by omega) (fun _ => by omega)
      · rw [if_neg hf, if_neg hf, hn1]
        exact ih k k' x fr (n + 1) (by omega) (by omega) (by omega) (by omega) hfr (by omega) (fun _ => by omega)
def lowB (c : Int) : Bool := (decide (65 ≤ c) && decide (c ≤ 90)) || (decide (192 ≤ c) && (decide (c ≤ 222) && c != 215))
def lowV (c : Int) : Int := if lowB c = true then c + 32 else c
theorem lowB_iff (c : Int) : lowB c = true ↔ (65 ≤ c ∧ c ≤ 90) ∨ (192 ≤ c ∧ c ≤ 222 ∧ c ≠ 215) := by
  unfold lowB
  simp
theorem lower_f (c : Int) : utf_Lower.f c = some (lowV c) := by
  unfold utf_Lower.f lowV
  by_cases h : lowB c = true
  · rw [if_pos h]
    have h' := (lowB_iff c).1 h
    have e : wrap64 (c + 32) = c + 32 := w_in (by omega)
    rw [e]
    repeat' split
    all_goals first | rfl | (exfalso; omega)
  · rw [if_neg h]
    have h' : ¬ ((65 ≤ c ∧ c ≤ 90) ∨ (192 ≤ c ∧ c ≤ 222 ∧ c ≠ 215)) := fun q => h ((lowB_iff c).2 q)
    repeat' split
    all_goals first | rfl | (exfalso; omega)
theorem rlower_f (c : Int) : colophonref04_Lower.f c = some (lowV c) := by
  rw [← lower_f]
  simp only [colophonref04_Lower.f, utf_Lower.f, ge_iff_le]
theorem low_low (c : Int) : lowV (lowV c) = lowV c := by
  unfold lowV
  by_cases h : lowB c = true
  · rw [if_pos h]
    have h' := (lowB_iff c).1 h
    rw [if_neg]
    intro q
    have q' := (lowB_iff _).1 q
    omega
  · rw [if_neg h, if_neg h]
end Go.Proofs.YtenhfmlkdcfbbaaDoor.LawW
