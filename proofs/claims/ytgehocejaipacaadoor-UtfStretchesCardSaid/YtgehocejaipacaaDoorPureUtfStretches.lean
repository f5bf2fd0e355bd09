/- The plain law of UtfStretches: words have no blanks, everything else is blank, and two never touch, for all lists. -/
import Derived.Test.YtgehocejaipacaaDoorPUtfStretchesx4
namespace Go.Proofs.YtgehocejaipacaaDoor.PureUtfStretches
open Go.RowKit Go.Proofs.YtgehocejaipacaaDoor.PUtfStretches Go.Proofs.YtgehocejaipacaaDoorW.PrintWords Go.Proofs.YtgehocejaipacaaDoorW.PrintLast Go.Proofs.YtgehocejaipacaaDoorW.PrintMore
theorem w_in {e : Int} (h : -9223372036854775808 ≤ e ∧ e ≤ 9223372036854775807) : wrap64 e = e := by unfold wrap64; omega
theorem wakes_f : colophonlaw04_wakes.f 5 = some true := by decide +kernel

def cls (c : Int) : Int := ((utf_Class.f 5 c).getD 0)
theorem point_f (c : Int) : ∃ b, utf_point.f c = some b := by
  unfold utf_point.f
  repeat' (first | exact ⟨_, rfl⟩ | split)
theorem j2_some (k : Nat) (c : Int) (b : Bool) : ∃ v, utf_Class.j2 (k + 1) c b = some v := by
  rw [utf_Class.j2]
  repeat' (first | exact ⟨_, rfl⟩ | split)
theorem j1_some (k : Nat) (c : Int) (b : Bool) : ∃ v, utf_Class.j1 (k + 2) c b = some v := by
  rw [utf_Class.j1]
  repeat' (first | exact ⟨_, rfl⟩ | exact j2_some _ _ _ | split)
theorem j0_some (k : Nat) (c : Int) (b : Bool) : ∃ v, utf_Class.j0 (k + 3) c b = some v := by
  rw [utf_Class.j0]
  repeat' (first | exact ⟨_, rfl⟩ | exact j1_some _ _ _ | split)
theorem class_some (c : Int) : ∃ v, utf_Class.f 5 c = some v := by
  unfold utf_Class.f
  obtain ⟨b, hb⟩ := point_f c
  rw [hb, Option.bind_some]
  repeat' (first | exact ⟨_, rfl⟩ | exact j0_some 2 _ _ | split)
theorem class_f (k : Nat) (hk : 5 ≤ k) (c : Int) : utf_Class.f k c = some (cls c) := by
  obtain ⟨v, hv⟩ := class_some c
  have e : cls c = v := by unfold cls; rw [hv]; rfl
  rw [e]
  exact at_rounds (g := fun k => utf_Class.f k c) (utf_Class.mono c) hk hv
theorem wakes_k (k : Nat) (hk : 5 ≤ k) : colophonlaw04_wakes.f k = some true := at_rounds (g := fun k => colophonlaw04_wakes.f k) colophonlaw04_wakes.mono hk wakes_f
theorem ints_f (l : List Int) : colophonkeep_Ints.f l 4096 = some (l.take 4096) := by
  unfold colophonkeep_Ints.f
  by_cases h : (l.length : Int) > 4096
  · rw [if_pos h, if_pos (by omega), if_pos (by omega)]
    simp only [Option.bind_some, List.nil_append, List.length_nil]
    rw [if_pos (by rw [List.length_take]; omega)]
    rfl
  · rw [if_neg h]
    simp only [Option.bind_some, List.nil_append, List.length_nil]
    rw [if_pos (by omega), List.take_of_length_le (by omega)]
def B (l : List Int) (j : Int) : Prop := cls (rd l j) = 1
/-- What the first n characters come to: the words so far, and where the word at hand begins (or -1). -/
def atOf (x : List S39) (i : Nat) : Int := if i = 0 then 0 else (x.getD (i - 1) z39).f1
structure Segs (l : List Int) (x : List S39) (n : Int) : Prop where
  seg : ∀ i, i < x.length → atOf x i ≤ (x.getD i z39).f0 ∧ (x.getD i z39).f0 < (x.getD i z39).f1 ∧ (x.getD i z39).f1 ≤ n ∧ (0 < i → (x.getD i z39).f0 ≠ atOf x i) ∧
    (∀ j, atOf x i ≤ j → j < (x.getD i z39).f0 → B l j) ∧ (∀ j, (x.getD i z39).f0 ≤ j → j < (x.getD i z39).f1 → ¬ B l j)
theorem getD_app (x : List S39) (s : S39) (i : Nat) (h : i < x.length) : (x ++ [s]).getD i z39 = x.getD i z39 := by
  rw [List.getD_eq_getElem?_getD, List.getD_eq_getElem?_getD, List.getElem?_append_left h]
theorem atOf_append (x : List S39) (s : S39) (i : Nat) (h : i ≤ x.length) : atOf (x ++ [s]) i = atOf x i := by
  unfold atOf
  split
  · rfl
  · rw [getD_app _ _ _ (by omega)]
theorem getD_append_left (x : List S39) (s : S39) (i : Nat) (h : i < x.length) : (x ++ [s]).getD i z39 = x.getD i z39 := getD_app _ _ _ h
theorem getD_last (x : List S39) (s : S39) : (x ++ [s]).getD x.length z39 = s := by
  rw [List.getD_eq_getElem?_getD, List.getElem?_append_right (Nat.le_refl _)]
  simp
theorem Segs.snoc {l : List Int} {x : List S39} {n m : Int} {a b : Int} (h : Segs l x n) (hnm : n ≤ m) (h1 : atOf x x.length ≤ a) (h2 : a < b) (h3 : b ≤ m) (h4 : x ≠ [] → a ≠ atOf x x.length)
    (h5 : ∀ j, atOf x x.length ≤ j → j < a → B l j) (h6 : ∀ j, a ≤ j → j < b → ¬ B l j) : Segs l (x ++ [⟨a, b⟩]) m := by
  refine ⟨fun i hi => ?_⟩
  rw [List.length_append] at hi
  by_cases hx : i < x.length
  · rw [getD_append_left x _ i hx, atOf_append x _ i (by omega)]
    obtain ⟨q1, q2, q3, q4⟩ := h.seg i hx
    exact ⟨q1, q2, by omega, q4⟩
  · obtain rfl : i = x.length := by simp at hi; omega
    rw [getD_last, atOf_append x _ _ (Nat.le_refl _)]
    exact ⟨h1, h2, h3, fun hp => h4 (by intro e; subst e; simp at hp), h5, h6⟩
theorem Segs.up {l : List Int} {x : List S39} {n m : Int} (h : Segs l x n) (hnm : n ≤ m) : Segs l x m :=
  ⟨fun i hi => by obtain ⟨q1, q2, q3, q4⟩ := h.seg i hi; exact ⟨q1, q2, by omega, q4⟩⟩
/-- The state of Words' loop at n. -/
def Inv (l : List Int) (x : List S39) (fr n : Int) : Prop :=
  Segs l x n ∧ (x.length : Int) ≤ n ∧ ((fr = -1 ∧ 0 ≤ atOf x x.length ∧ atOf x x.length ≤ n ∧ (x ≠ [] → atOf x x.length < n) ∧ ∀ j, atOf x x.length ≤ j → j < n → B l j) ∨
    (0 ≤ fr ∧ fr < n ∧ 0 ≤ atOf x x.length ∧ atOf x x.length ≤ fr ∧ (x ≠ [] → fr ≠ atOf x x.length) ∧ (x.length : Int) ≤ fr ∧ (∀ j, atOf x x.length ≤ j → j < fr → B l j) ∧ ∀ j, fr ≤ j → j < n → ¬ B l j))
theorem atOf_snoc (x : List S39) (s : S39) : atOf (x ++ [s]) (x ++ [s]).length = s.f1 := by
  unfold atOf
  rw [List.length_append, if_neg (by simp)]
  show ((x ++ [s]).getD (x.length + 1 - 1) z39).f1 = s.f1
  rw [Nat.add_sub_cancel, getD_last]
/-- What Words tells of a list of at most 4096. -/
theorem words_l0 (l : List Int) (hl : l.length ≤ 4096) : ∀ (d k : Nat) (x : List S39) (fr n : Int), 0 ≤ n → (l.length : Int) - n = d → 2 * d + 10 ≤ k → Inv l x fr n →
    ∃ r, utf_Words.l0 k l x fr l (l.length : Int) n = some r ∧ Segs l r (l.length : Int) ∧ (r.length : Int) ≤ l.length ∧ ∀ j, atOf r r.length ≤ j → j < (l.length : Int) → B l j := by
  intro d
  induction d with
  | zero =>
    intro k x fr n h0 hd hk hI
    obtain ⟨k, rfl⟩ : ∃ m, k = m + 1 := ⟨k - 1, by omega⟩
    have hn : n = (l.length : Int) := by omega
    subst hn
    rw [utf_Words.l0, if_neg (by omega)]
    obtain ⟨hS, hxl, ⟨rfl, h1, h2, h3, h4⟩ | ⟨h1, h2, h3, h4, h5, h6, h7, h8⟩⟩ := hI
    · rw [if_neg (by omega)]
      exact ⟨x, rfl, hS, hxl, h4⟩
    · rw [if_pos (by omega), if_pos (by omega)]
      refine ⟨_, rfl, hS.snoc (Int.le_refl _) h4 h2 (Int.le_refl _) h5 h7 h8, by simp; omega, ?_⟩
      rw [atOf_snoc]
      intro j hj hj2
      exact absurd hj2 (by show ¬ j < (l.length : Int); have : (l.length : Int) ≤ j := hj; omega)
  | succ d ih =>
    intro k x fr n h0 hd hk hI
    obtain ⟨k, rfl⟩ : ∃ m, k = m + 2 := ⟨k - 2, by omega⟩
    have hn1 : wrap64 (n + 1) = n + 1 := w_in (by omega)
    rw [utf_Words.l0, if_pos (by omega), if_pos h0, if_pos (by omega), class_f (k + 1) (by omega), Option.bind_some]
    obtain ⟨hS, hxl, hI⟩ := hI
    by_cases hb : cls (rd l n) = 1
    · rw [if_pos hb]
      have hbn : B l n := hb
      have e1 : (cls (rd l n) == 1) = true := beq_iff_eq.2 hb
      rw [e1]
      rcases hI with ⟨rfl, h1, h2, h3, h4⟩ | ⟨h1, h2, h3, h4, h5, h6, h7, h8⟩
      · rw [decide_eq_false (by omega), utf_Words.j1, if_neg (by decide), if_pos rfl, hn1]
        refine ih k x (-1) (n + 1) (by omega) (by omega) (by omega) ⟨hS.up (by omega), by omega, .inl ⟨rfl, h1, by omega, fun hx => by have := h3 hx; omega, fun j q1 q2 => ?_⟩⟩
        by_cases hj : j = n
        · rw [hj]; exact hbn
        · exact h4 j q1 (by omega)
      · rw [decide_eq_true (show fr ≥ 0 by omega), utf_Words.j1, if_pos rfl, if_pos (by omega), hn1]
        refine ih k _ (-1) (n + 1) (by omega) (by omega) (by omega) ⟨hS.snoc (by omega) h4 h2 (by omega) h5 h7 h8, by simp; omega, .inl ⟨rfl, ?_⟩⟩
        rw [atOf_snoc]
        refine ⟨h0, by show n ≤ n + 1; omega, fun _ => by show n < n + 1; omega, fun j q1 q2 => ?_⟩
        have q1' : n ≤ j := q1
        obtain rfl : j = n := by omega
        exact hbn
    · rw [if_neg hb]
      have hbn : ¬ B l n := hb
      have e1 : (cls (rd l n) == 1) = false := beq_eq_false_iff_ne.2 hb
      rw [e1, utf_Words.j1, if_neg (by decide), if_neg (by decide)]
      rcases hI with ⟨rfl, h1, h2, h3, h4⟩ | ⟨h1, h2, h3, h4, h5, h6, h7, h8⟩
      · rw [if_pos (by omega), hn1]
        refine ih k x n (n + 1) (by omega) (by omega) (by omega) ⟨hS.up (by omega), by omega, .inr ⟨h0, by omega, h1, h2, fun hx => by have := h3 hx; omega, hxl, h4, fun j q1 q2 => ?_⟩⟩
        obtain rfl : j = n := by omega
        exact hbn
      · rw [if_neg (by omega), hn1]
        refine ih k x fr (n + 1) (by omega) (by omega) (by omega) ⟨hS.up (by omega), by omega, .inr ⟨h1, by omega, h3, h4, h5, h6, h7, fun j q1 q2 => ?_⟩⟩
        by_cases hj : j = n
        · rw [hj]; exact hbn
        · exact h8 j q1 (by omega)
theorem words_f (l : List Int) (hl : l.length ≤ 4096) (k : Nat) (hk : 9000 ≤ k) : ∃ r, utf_Words.f k l = some r ∧ Segs l r (l.length : Int) ∧ (r.length : Int) ≤ l.length ∧ ∀ j, atOf r r.length ≤ j → j < (l.length : Int) → B l j := by
  unfold utf_Words.f
  exact words_l0 l hl l.length k [] (-1) 0 (by omega) (by omega) (by omega) ⟨⟨fun i hi => by simp at hi⟩, by simp, .inl ⟨rfl, by simp [atOf], by simp [atOf], fun h => absurd rfl h, fun j q1 q2 => by simp [atOf] at q1; omega⟩⟩

theorem at_nonneg {l : List Int} {x : List S39} {n : Int} (h : Segs l x n) : ∀ i, i ≤ x.length → 0 ≤ atOf x i := by
  intro i
  induction i with
  | zero => intro _; simp [atOf]
  | succ i ih =>
    intro hi
    have h1 := ih (by omega)
    obtain ⟨q1, q2, _⟩ := h.seg i (by omega)
    unfold atOf
    rw [if_neg (by omega), Nat.add_sub_cancel]
    omega
/-- The nonblank stretch: all is passed, then the next word. -/
theorem l2_f (l : List Int) (x : List S39) (b i : Int) : ∀ (d k : Nat) (j : Int), 0 ≤ j → b ≤ l.length → b - j = d → d + 10 ≤ k → l.length ≤ 4096 → (∀ q, j ≤ q → q < b → ¬ B l q) →
    (colophonlaw04_UtfStretches.l2 k l x b i j = colophonlaw04_UtfStretches.l0 (k - d - 1) l x b (wrap64 (i + 1))) := by
  intro d
  induction d with
  | zero =>
    intro k j h0 hb hd hk hl hB
    obtain ⟨k, rfl⟩ : ∃ m, k = m + 1 := ⟨k - 1, by omega⟩
    rw [colophonlaw04_UtfStretches.l2, if_neg (by omega)]
    rfl
  | succ d ih =>
    intro k j h0 hb hd hk hl hB
    obtain ⟨k, rfl⟩ : ∃ m, k = m + 1 := ⟨k - 1, by omega⟩
    have hj : ¬ cls (rd l j) = 1 := hB j (Int.le_refl _) (by omega)
    rw [colophonlaw04_UtfStretches.l2, if_pos (by omega), if_pos h0, if_pos (by omega), class_f k (by omega), Option.bind_some, if_neg hj, w_in (by omega),
      ih k (j + 1) (by omega) hb (by omega) (by omega) hl (fun q q1 q2 => hB q (by omega) q2)]
    congr 1
    omega
/-- The blanks ahead of a word: all is passed. -/
theorem l1_f (l : List Int) (x : List S39) (i e : Int) : ∀ (d k : Nat) (j : Int), 0 ≤ j → e ≤ l.length → e - j = d → d + 10 ≤ k → l.length ≤ 4096 → (∀ q, j ≤ q → q < e → B l q) →
    (colophonlaw04_UtfStretches.l1 k l x i e j = colophonlaw04_UtfStretches.l1 (k - d) l x i e e) := by
  intro d
  induction d with
  | zero =>
    intro k j h0 hb hd hk hl hB
    obtain rfl : j = e := by omega
    rfl
  | succ d ih =>
    intro k j h0 hb hd hk hl hB
    obtain ⟨k, rfl⟩ : ∃ m, k = m + 1 := ⟨k - 1, by omega⟩
    have hj : cls (rd l j) = 1 := hB j (Int.le_refl _) (by omega)
    rw [colophonlaw04_UtfStretches.l1, if_pos (by omega), if_pos h0, if_pos (by omega), class_f k (by omega), Option.bind_some, if_pos hj, w_in (by omega),
      ih k (j + 1) (by omega) hb (by omega) (by omega) hl (fun q q1 q2 => hB q (by omega) q2)]
    congr 1
    omega
theorem l0_f (l : List Int) (x : List S39) (hl : l.length ≤ 4096) (hS : Segs l x (l.length : Int)) (hx : (x.length : Int) ≤ l.length) (hE : ∀ j, atOf x x.length ≤ j → j < (l.length : Int) → B l j) :
    ∀ (d i k : Nat), i + d = x.length → 10 * (d + 1) + ((l.length : Int) - atOf x i).toNat + 20 ≤ k → colophonlaw04_UtfStretches.l0 k l x (atOf x i) (i : Int) = some true := by
  intro d
  induction d with
  | zero =>
    intro i k hi hk
    have hi' : i = x.length := by omega
    subst hi'
    obtain ⟨k, rfl⟩ : ∃ m, k = m + 2 := ⟨k - 2, by omega⟩
    have ha := at_nonneg hS x.length (Nat.le_refl _)
    have hle : atOf x x.length ≤ (l.length : Int) := by
      by_cases h0 : x.length = 0
      · unfold atOf
        rw [if_pos h0]
        omega
      · obtain ⟨q1, q2, q3, _⟩ := hS.seg (x.length - 1) (by omega)
        unfold atOf
        rw [if_neg h0]
        exact q3
    rw [colophonlaw04_UtfStretches.l0, if_pos (Int.le_refl _), if_neg (by omega), colophonlaw04_UtfStretches.j1]
    obtain ⟨m, hm⟩ : ∃ m : Nat, (l.length : Int) - atOf x x.length = m := ⟨((l.length : Int) - atOf x x.length).toNat, by omega⟩
    rw [l1_f l x (x.length : Int) (l.length : Int) m k (atOf x x.length) ha (Int.le_refl _) hm (by omega) hl hE]
    obtain ⟨k', hk'⟩ : ∃ m', k - m = m' + 1 := ⟨k - m - 1, by omega⟩
    rw [hk', colophonlaw04_UtfStretches.l1, if_neg (by omega), if_pos rfl, wakes_k k' (by omega), Option.bind_some]
  | succ d ih =>
    intro i k hi hk
    obtain ⟨k, rfl⟩ : ∃ m, k = m + 2 := ⟨k - 2, by omega⟩
    have ha := at_nonneg hS i (by omega)
    obtain ⟨q1, q2, q3, q4, q5, q6⟩ := hS.seg i (by omega)
    have hrd : rd_T39 x (i : Int) = x.getD i z39 := by unfold rd_T39; rw [Int.toNat_natCast]
    have hat : atOf x (i + 1) = (x.getD i z39).f1 := by unfold atOf; rw [if_neg (by omega), Nat.add_sub_cancel]
    have step : colophonlaw04_UtfStretches.j1 (k + 1) l x (atOf x i) (i : Int) (x.getD i z39).f0 = some true := by
      rw [colophonlaw04_UtfStretches.j1]
      obtain ⟨m, hm⟩ : ∃ m : Nat, (x.getD i z39).f0 - atOf x i = m := ⟨((x.getD i z39).f0 - atOf x i).toNat, by omega⟩
      rw [l1_f l x (i : Int) (x.getD i z39).f0 m k (atOf x i) ha (by omega) hm (by omega) hl q5]
      obtain ⟨k', hk'⟩ : ∃ m', k - m = m' + 1 := ⟨k - m - 1, by omega⟩
      rw [hk', colophonlaw04_UtfStretches.l1, if_neg (by omega), if_neg (by omega), if_pos (by omega), if_pos (by omega), hrd]
      obtain ⟨m2, hm2⟩ : ∃ m2 : Nat, (x.getD i z39).f1 - (x.getD i z39).f0 = m2 := ⟨((x.getD i z39).f1 - (x.getD i z39).f0).toNat, by omega⟩
      rw [l2_f l x (x.getD i z39).f1 (i : Int) m2 k' (x.getD i z39).f0 (by omega) q3 hm2 (by omega) hl q6, w_in (by omega)]
      have := ih (i + 1) (k' - m2 - 1) (by omega) (by rw [hat]; omega)
      rw [hat] at this
      exact this
    rw [colophonlaw04_UtfStretches.l0, if_pos (by omega), if_pos (by omega), if_pos (by omega), hrd, if_neg (by omega), if_neg (by omega), if_neg (by omega)]
    by_cases h0 : (i : Int) > 0
    · rw [if_pos h0, if_neg (q4 (by omega))]
      exact step
    · rw [if_neg h0]
      exact step
theorem pure (l : List Int) : ∃ k, colophonlaw04_UtfStretches.f k l = some true := by
  refine ⟨60000, ?_⟩
  unfold colophonlaw04_UtfStretches.f
  have hl : (l.take 4096).length ≤ 4096 := by rw [List.length_take]; omega
  obtain ⟨r, h1, h2, h3, h4⟩ := words_f (l.take 4096) hl 60000 (by omega)
  rw [ints_f, Option.bind_some, h1, Option.bind_some]
  exact l0_f (l.take 4096) r hl h2 h3 h4 r.length 0 60000 (by omega) (by simp only [atOf, if_true]; omega)

end Go.Proofs.YtgehocejaipacaaDoor.PureUtfStretches
