/- For PagesCosts: what a page costs. -/
import Derived.Test.YtogjeababinnlaaPPagesCostsx7
import Derived.Test.YtogjeababinnlaaPurePagesCostsA
namespace Go.Proofs.Ytogjeababinnlaa.PurePagesCosts
open Go.RowKit Go.Proofs.Ytogjeababinnlaa Go.Proofs.Ytogjeababinnlaa.PPagesCosts Go.Proofs.YtogjeababinnlaaW.PrintWords Go.Proofs.YtogjeababinnlaaW.PrintLast Go.Proofs.YtogjeababinnlaaW.PrintMore
/-! ### heights, first boxes, forced breaks -/
theorem rd_range (f : Nat → Int) (n j : Nat) (h : j ≤ n) : rd ((List.range (n + 1)).map f) (j : Int) = f j := by
  unfold rd
  rw [Int.toNat_natCast, List.getD_eq_getElem?_getD, List.getElem?_map, List.getElem?_range (by omega)]
  rfl
theorem hs_rd (l : List S43) (j : Nat) (h : j ≤ l.length) : rd (pages_ready.hs l) (j : Int) = pages_ready.H l j := rd_range _ _ _ h
theorem fs_rd (l : List S43) (j : Nat) (h : j ≤ l.length) : rd (pages_ready.fs l) (j : Int) = pages_ready.F (l.drop j) j := rd_range (fun j => pages_ready.F (l.drop j) j) _ _ h
theorem ms_rd (l : List S43) (j : Nat) (h : j ≤ l.length) : rd (pages_ready.ms l) (j : Int) = pages_ready.M (l.drop j) j := rd_range (fun j => pages_ready.M (l.drop j) j) _ _ h
theorem hs_len (l : List S43) : (pages_ready.hs l).length = l.length + 1 := by simp [pages_ready.hs]
theorem fs_len (l : List S43) : (pages_ready.fs l).length = l.length + 1 := by simp [pages_ready.fs]
theorem ms_len (l : List S43) : (pages_ready.ms l).length = l.length + 1 := by simp [pages_ready.ms]
theorem H_b (l : List S43) (hG : goodP l) : ∀ j : Nat, j ≤ l.length → 0 ≤ pages_ready.H l j ∧ pages_ready.H l j ≤ (j : Int) * 1073741824
  | 0, _ => by simp [pages_ready.H]
  | j + 1, h => by
    have ih := H_b l hG j (by omega)
    have ho := hG.2.1 j (by omega)
    have hn := hG.1.2
    unfold okI at ho
    rw [pages_ready.H_succ l j (by omega), w_in (by omega)]
    omega
theorem H_step (l : List S43) (hG : goodP l) (j : Nat) (h : j < l.length) : pages_ready.H l (j + 1) = pages_ready.H l j + (rd_T43 l (j : Int)).f1 := by
  have ih := H_b l hG j (by omega)
  have ho := hG.2.1 j (by omega)
  have hn := hG.1.2
  unfold okI at ho
  rw [pages_ready.H_succ l j h, w_in (by omega)]
theorem H_mono (l : List S43) (hG : goodP l) : ∀ (d j : Nat), j + d ≤ l.length → pages_ready.H l j ≤ pages_ready.H l (j + d)
  | 0, j, _ => Int.le_refl _
  | d + 1, j, h => by
    have ih := H_mono l hG d j (by omega)
    have ho := (hG.2.1 (j + d) (by omega)).1
    rw [show j + (d + 1) = (j + d) + 1 by omega, H_step l hG (j + d) (by omega)]
    omega
theorem F_spec (l : List S43) : ∀ (d j : Nat), j + d = l.length → ∃ f : Nat, pages_ready.F (l.drop j) j = (f : Int) ∧ j ≤ f ∧ f ≤ l.length ∧ (∀ k : Nat, j ≤ k → k < f → (rd_T43 l (k : Int)).f0 ≠ 1) ∧ (f < l.length → (rd_T43 l (f : Int)).f0 = 1)
  | 0, j, h => ⟨j, by rw [List.drop_eq_nil_of_le (by omega)]; rfl, Nat.le_refl _, by omega, fun k h1 h2 => by omega, fun h1 => by omega⟩
  | d + 1, j, h => by
    rw [pages_ready.F_step l j (by omega)]
    by_cases c : (rd_T43 l (j : Int)).f0 = 1
    · rw [if_pos c]
      exact ⟨j, rfl, Nat.le_refl _, by omega, fun k h1 h2 => by omega, fun _ => c⟩
    · rw [if_neg c]
      obtain ⟨f, e, h1, h2, h3, h4⟩ := F_spec l d (j + 1) (by omega)
      refine ⟨f, e, by omega, h2, fun k g1 g2 => ?_, h4⟩
      by_cases hk : k = j
      · rw [hk]; exact c
      · exact h3 k (by omega) g2
theorem M_spec (l : List S43) : ∀ (d j : Nat), j + d = l.length → ∃ f : Nat, pages_ready.M (l.drop j) j = (f : Int) ∧ j ≤ f ∧ f ≤ l.length ∧ (∀ k : Nat, j ≤ k → k < f → ¬ isF (rd_T43 l (k : Int))) ∧ (f < l.length → isF (rd_T43 l (f : Int)))
  | 0, j, h => ⟨j, by rw [List.drop_eq_nil_of_le (by omega)]; rfl, Nat.le_refl _, by omega, fun k h1 h2 => by omega, fun h1 => by omega⟩
  | d + 1, j, h => by
    rw [pages_ready.M_step l j (by omega)]
    by_cases c : (rd_T43 l (j : Int)).f0 = 3 ∧ (rd_T43 l (j : Int)).f3 = -10000
    · rw [if_pos c]
      exact ⟨j, rfl, Nat.le_refl _, by omega, fun k h1 h2 => by omega, fun _ => c⟩
    · rw [if_neg c]
      obtain ⟨f, e, h1, h2, h3, h4⟩ := M_spec l d (j + 1) (by omega)
      refine ⟨f, e, by omega, h2, fun k g1 g2 => ?_, h4⟩
      by_cases hk : k = j
      · rw [hk]; exact c
      · exact h3 k (by omega) g2
/-- The forced break from place i on, in a good list. -/
theorem M_good (l : List S43) (hG : goodP l) (j : Nat) (hj : j < l.length) : ∃ f : Nat, pages_ready.M (l.drop j) j = (f : Int) ∧ j ≤ f ∧ f < l.length ∧ (∀ k : Nat, j ≤ k → k < f → ¬ isF (rd_T43 l (k : Int))) ∧ isF (rd_T43 l (f : Int)) := by
  obtain ⟨f, e, h1, h2, h3, h4⟩ := M_spec l (l.length - j) j (by omega)
  have hlt : f < l.length := by
    by_cases c : f < l.length
    · exact c
    · exact absurd hG.2.2 (h3 (l.length - 1) (by omega) (by omega))
  exact ⟨f, e, h1, hlt, h3, h4 hlt⟩
/-! ### a page's height -/
def pg (l : List S43) (i b : Nat) : Int :=
  if (b : Int) ≤ pages_ready.F (l.drop i) i then 0 else pages_ready.H l b - pages_ready.H l (pages_ready.F (l.drop i) i).toNat + (rd_T43 l (pages_ready.F (l.drop i) i)).f2
theorem pg_b (l : List S43) (hG : goodP l) (i b : Nat) (hi : i ≤ l.length) (hb : b ≤ l.length) : 0 ≤ pg l i b ∧ pg l i b ≤ 1200000000000 := by
  obtain ⟨f, e, h1, h2, h3, h4⟩ := F_spec l (l.length - i) i (by omega)
  unfold pg
  rw [e]
  have hn := hG.1.2
  by_cases c : (b : Int) ≤ (f : Int)
  · rw [if_pos c]; omega
  · rw [if_neg c, Int.toNat_natCast]
    have m := H_mono l hG (b - f) f (by omega)
    rw [show f + (b - f) = b by omega] at m
    have hb1 := H_b l hG b hb
    have hf1 := H_b l hG f h2
    have ho := (hG.2.1 f (by omega)).2.1
    omega
theorem page_f (l : List S43) (hG : goodP l) (i b : Nat) (hi : i ≤ l.length) (hb : b ≤ l.length) :
    pages_column_page.f l (pages_ready.hs l) (pages_ready.fs l) (pages_ready.ms l) ((i : Int) - 1) (b : Int) = some (pg l i b) := by
  obtain ⟨f, e, h1, h2, h3, h4⟩ := F_spec l (l.length - i) i (by omega)
  have hn := hG.1.2
  have hw : wrap64 ((i : Int) - 1 + 1) = (i : Int) := by rw [w_in (by omega)]; omega
  have hf := fs_rd l i hi
  rw [e] at hf
  have hB := pg_b l hG i b hi hb
  unfold pages_column_page.f
  unfold pg at hB ⊢
  rw [e] at hB ⊢
  rw [hw, fs_len, hs_len, hf, if_pos (by omega), if_pos (by omega)]
  by_cases c : (b : Int) ≤ (f : Int)
  · rw [if_pos c, if_pos c]
  · have hb1 := H_b l hG b hb
    have hf1 := H_b l hG f h2
    rw [if_neg c, Int.toNat_natCast] at hB
    rw [if_neg c, if_neg c, Int.toNat_natCast]
    rw [if_pos (by omega), if_pos (by omega), if_pos (by omega), if_pos (by omega), if_pos (by omega), hs_rd l b hb, hs_rd l f h2, w_in (e := pages_ready.H l b - _) (by omega), w_in (by omega)]
/-! ### what a page costs -/
def costV (l : List S43) (i b : Nat) (h : Int) : Int × Bool :=
  if h - pg l i b < 0 ∨ pages_ready.M (l.drop i) i < (b : Int) then (0, false)
  else if isF (rd_T43 l (b : Int)) then (0, true)
  else ((Int.tdiv (100 * (h - pg l i b)) h) * (Int.tdiv (100 * (h - pg l i b)) h) + (rd_T43 l (b : Int)).f3, true)
theorem tdiv_b (s h : Int) (h1 : 1 ≤ h) (h0 : 0 ≤ s) (h2 : s ≤ h) : 0 ≤ Int.tdiv (100 * s) h ∧ Int.tdiv (100 * s) h ≤ 100 := by
  rw [Int.tdiv_eq_ediv_of_nonneg (by omega)]
  constructor
  · exact Int.ediv_nonneg (by omega) (by omega)
  · have : 100 * s / h < 101 := Int.ediv_lt_of_lt_mul (by omega) (by omega)
    omega
theorem sq_b (r : Int) (h : 0 ≤ r ∧ r ≤ 100) : 0 ≤ r * r ∧ r * r ≤ 10000 := by
  constructor
  · exact Int.mul_nonneg h.1 h.1
  · exact Int.mul_le_mul h.2 h.2 h.1 (by omega)
theorem costV_b (l : List S43) (hG : goodP l) (i b : Nat) (h : Int) (hi : i ≤ l.length) (hb : b < l.length) (hh : 1 ≤ h ∧ h ≤ 1073741824) : -10000 ≤ (costV l i b h).1 ∧ (costV l i b h).1 ≤ 20000 := by
  have ho := (hG.2.1 b hb).2.2.1
  have hB := pg_b l hG i b hi (by omega)
  unfold costV
  by_cases c : h - pg l i b < 0 ∨ pages_ready.M (l.drop i) i < (b : Int)
  · rw [if_pos c]; simp
  · rw [if_neg c]
    by_cases c2 : isF (rd_T43 l (b : Int))
    · rw [if_pos c2]; simp
    · rw [if_neg c2]
      have := sq_b _ (tdiv_b (h - pg l i b) h hh.1 (by omega) (by omega))
      dsimp only
      omega
theorem isF_dec (x : S43) : decide (x.f0 = 3 ∧ x.f3 = -10000) = decide (isF x) := by unfold isF; rfl
theorem cost_f (l : List S43) (hG : goodP l) (i b : Nat) (h : Int) (hi : i ≤ l.length) (hb : b < l.length) (hh : 1 ≤ h ∧ h ≤ 1073741824) :
    pages_column_cost.f l (pages_ready.hs l) (pages_ready.fs l) (pages_ready.ms l) ((i : Int) - 1) (b : Int) h = some (costV l i b h) := by
  have hn := hG.1.2
  have hB := pg_b l hG i b hi (by omega)
  have hw : wrap64 ((i : Int) - 1 + 1) = (i : Int) := by rw [w_in (by omega)]; omega
  have ho := (hG.2.1 b hb).2.2.1
  unfold pages_column_cost.f
  rw [page_f l hG i b hi (by omega), Option.bind_some, hw, ms_len, ms_rd l i hi, w_in (e := h - pg l i b) (by omega)]
  by_cases c1 : h - pg l i b < 0
  · have hV : costV l i b h = (0, false) := by unfold costV; rw [if_pos (.inl c1)]
    rw [if_pos c1, hV]
  · rw [if_neg c1, if_pos (by omega), if_pos (by omega)]
    by_cases c2 : pages_ready.M (l.drop i) i < (b : Int)
    · have hV : costV l i b h = (0, false) := by unfold costV; rw [if_pos (.inr c2)]
      rw [if_pos c2, hV]
    · rw [if_neg c2, if_pos (by omega), if_pos (by omega), pages_forced.val, Option.bind_some, isF_dec]
      have c12 : ¬ (h - pg l i b < 0 ∨ pages_ready.M (l.drop i) i < (b : Int)) := fun x => x.elim c1 c2
      by_cases c3 : isF (rd_T43 l (b : Int))
      · have hV : costV l i b h = (0, true) := by unfold costV; rw [if_neg c12, if_pos c3]
        rw [if_pos (decide_eq_true c3), hV]
      · have ht := tdiv_b (h - pg l i b) h hh.1 (by omega) (by omega)
        have hq := sq_b _ ht
        have hV : costV l i b h = ((Int.tdiv (100 * (h - pg l i b)) h) * (Int.tdiv (100 * (h - pg l i b)) h) + (rd_T43 l (b : Int)).f3, true) := by unfold costV; rw [if_neg c12, if_neg c3]
        rw [if_neg (by rw [decide_eq_true_eq]; exact c3), if_neg (by omega), hV, w_in (e := 100 * _) (by omega), w_in (e := Int.tdiv _ _) (by omega), w_in (e := _ * _) (by omega), w_in (by omega)]
/-! ### where a page may end -/
def legB (l : List S43) (i : Int) : Bool := decide (0 ≤ i ∧ i < (l.length : Int) ∧ (rd_T43 l i).f0 = 3 ∧ (rd_T43 l i).f3 < 10000)
theorem legal_f (l : List S43) (hs fs ms : List Int) (i : Int) : pages_column_legal.f l hs fs ms i = some (legB l i) := by
  unfold pages_column_legal.f legB
  by_cases c1 : 0 ≤ i
  · rw [if_pos c1]
    by_cases c2 : i < (l.length : Int)
    · rw [if_pos c2]
      by_cases c3 : (rd_T43 l i).f0 = 3
      · rw [if_pos c3]; simp [c1, c2, c3]
      · rw [if_neg c3]; simp [c3]
    · rw [if_neg c2]; simp [c2]
  · rw [if_neg c1]; simp [c1]
/-! ### legal: bounds -/
theorem leg_b (l : List S43) (i : Int) (h : legB l i = true) : 0 ≤ i ∧ i < (l.length : Int) := by
  unfold legB at h
  rw [decide_eq_true_eq] at h
  exact ⟨h.1, h.2.1⟩

/-! ### r: the reference's heights -/
theorem height_T (l : List S43) (hG : goodP l) (b : Nat) (hb : b ≤ l.length) : ∀ (d k j : Nat) (s : Int), j + d = b → d + 1 ≤ k → 0 ≤ s → s ≤ 2000000000 + (j : Int) * 1073741824 →
    colophonref27_height.l0 k l (b : Int) s true (j : Int) = some (s + (pages_ready.H l b - pages_ready.H l j)) := by
  have hn := hG.1.2
  intro d
  induction d with
  | zero =>
    intro k j s hd hk h0 h1
    obtain ⟨k, rfl⟩ : ∃ q, k = q + 1 := ⟨k - 1, by omega⟩
    obtain rfl : j = b := by omega
    rw [colophonref27_height.l0, if_neg (by omega)]
    congr 1
    omega
  | succ d ih =>
    intro k j s hd hk h0 h1
    obtain ⟨k, rfl⟩ : ∃ q, k = q + 1 := ⟨k - 1, by omega⟩
    have ho := (hG.2.1 j (by omega)).1
    have hw : wrap64 ((j : Int) + 1) = ((j + 1 : Nat) : Int) := by rw [w_in (by omega)]; omega
    have hs : wrap64 (s + (rd_T43 l (j : Int)).f1) = s + (rd_T43 l (j : Int)).f1 := w_in (by omega)
    have hS := H_step l hG j (by omega)
    have := ih k (j + 1) (s + (rd_T43 l (j : Int)).f1) (by omega) (by omega) (by omega) (by omega)
    rw [colophonref27_height.l0, if_pos (by omega), if_pos (by omega), if_pos (by omega), if_pos rfl, if_pos rfl, hw, hs, this, ite_self, hS]
    congr 1
    omega
theorem height_F (l : List S43) (hG : goodP l) (b : Nat) (hb : b ≤ l.length) : ∀ (d k j : Nat), b - j = d → j ≤ l.length → d + 1 ≤ k → colophonref27_height.l0 k l (b : Int) 0 false (j : Int) = some (pg l j b) := by
  have hn := hG.1.2
  intro d
  induction d with
  | zero =>
    intro k j hd hj hk
    obtain ⟨k, rfl⟩ : ∃ q, k = q + 1 := ⟨k - 1, by omega⟩
    obtain ⟨f, e, h1, h2, h3, h4⟩ := F_spec l (l.length - j) j (by omega)
    rw [colophonref27_height.l0, if_neg (by omega)]
    unfold pg
    rw [e, if_pos (by omega)]
  | succ d ih =>
    intro k j hd hj hk
    obtain ⟨k, rfl⟩ : ∃ q, k = q + 1 := ⟨k - 1, by omega⟩
    have ho := hG.2.1 j (by omega)
    have ho1 := ho.1
    have ho2 := ho.2.1
    have hw : wrap64 ((j : Int) + 1) = ((j + 1 : Nat) : Int) := by rw [w_in (by omega)]; omega
    have hS := H_step l hG j (by omega)
    rw [colophonref27_height.l0, if_pos (by omega), if_pos (by omega), if_pos (by omega), hw]
    by_cases c : (rd_T43 l (j : Int)).f0 = 1
    · have hs : wrap64 (0 + (rd_T43 l (j : Int)).f2) = (rd_T43 l (j : Int)).f2 := by rw [w_in (by omega)]; omega
      have hs2 : wrap64 ((rd_T43 l (j : Int)).f2 + (rd_T43 l (j : Int)).f1) = (rd_T43 l (j : Int)).f2 + (rd_T43 l (j : Int)).f1 := w_in (by omega)
      rw [if_pos c, if_neg (by decide), hs, hs2, height_T l hG b hb d k (j + 1) _ (by omega) (by omega) (by omega) (by omega)]
      unfold pg
      rw [pages_ready.F_step l j (by omega), if_pos c, if_neg (by omega), Int.toNat_natCast, hS]
      congr 1
      omega
    · rw [if_neg c, if_neg (by decide), ih k (j + 1) (by omega) (by omega) (by omega)]
      unfold pg
      rw [pages_ready.F_step l j (by omega), if_neg c]
theorem rheight_f (l : List S43) (hG : goodP l) (K : Nat) (hK : 20000 ≤ K) (i b : Nat) (hi : i ≤ l.length) (hb : b ≤ l.length) : colophonref27_height.f K l ((i : Int) - 1) (b : Int) = some (pg l i b) := by
  have hn := hG.1.2
  have hw : wrap64 ((i : Int) - 1 + 1) = (i : Int) := by rw [w_in (by omega)]; omega
  unfold colophonref27_height.f
  rw [hw]
  exact height_F l hG b hb (b - i) K i rfl hi (by omega)
/-! ### r: the reference's costs -/
theorem rcost_l0 (l : List S43) (hG : goodP l) (i b : Nat) (h : Int) (hi : i ≤ l.length) (hb : b < l.length) (hh : 1 ≤ h ∧ h ≤ 1073741824) : ∀ (d k j : Nat), b - j = d → i ≤ j → j ≤ l.length → d + 30000 ≤ k →
    colophonref27_cost.l0 k l ((i : Int) - 1) (b : Int) h (j : Int) = some (if pages_ready.M (l.drop j) j < (b : Int) then (0, false) else if h - pg l i b < 0 then (0, false)
      else if isF (rd_T43 l (b : Int)) then (0, true) else ((Int.tdiv (100 * (h - pg l i b)) h) * (Int.tdiv (100 * (h - pg l i b)) h) + (rd_T43 l (b : Int)).f3, true)) := by
  have hn := hG.1.2
  intro d
  induction d with
  | zero =>
    intro k j hd hij hj hk
    obtain ⟨k, rfl⟩ : ∃ q, k = q + 1 := ⟨k - 1, by omega⟩
    obtain ⟨f, e, h1, h2, h3, h4⟩ := M_spec l (l.length - j) j (by omega)
    have hB := pg_b l hG i b hi (by omega)
    have ho := (hG.2.1 b hb).2.2.1
    rw [e, if_neg (show ¬ (f : Int) < (b : Int) by omega), colophonref27_cost.l0, if_neg (by omega), rheight_f l hG k (by omega) i b hi (by omega), Option.bind_some]
    by_cases c1 : h - pg l i b < 0
    · rw [if_pos c1, if_pos (by omega)]
    · rw [if_neg c1, if_neg (by omega), if_pos (by omega), if_pos (by omega), rforced_val, Option.bind_some, isF_dec]
      by_cases c3 : isF (rd_T43 l (b : Int))
      · rw [if_pos (decide_eq_true c3), if_pos c3]
      · have ht := tdiv_b (h - pg l i b) h hh.1 (by omega) (by omega)
        have hq := sq_b _ ht
        rw [if_neg (by rw [decide_eq_true_eq]; exact c3), if_neg c3, if_neg (by omega), w_in (e := h - _) (by omega), w_in (e := 100 * _) (by omega), w_in (e := Int.tdiv _ _) (by omega), w_in (e := _ * _) (by omega), w_in (by omega)]
  | succ d ih =>
    intro k j hd hij hj hk
    obtain ⟨k, rfl⟩ : ∃ q, k = q + 1 := ⟨k - 1, by omega⟩
    have hw : wrap64 ((j : Int) + 1) = ((j + 1 : Nat) : Int) := by rw [w_in (by omega)]; omega
    rw [colophonref27_cost.l0, if_pos (by omega), if_pos (by omega), if_pos (by omega), rforced_val, Option.bind_some, hw, pages_ready.M_step l j (by omega)]
    by_cases c : (rd_T43 l (j : Int)).f0 = 3 ∧ (rd_T43 l (j : Int)).f3 = -10000
    · rw [if_pos (decide_eq_true c), if_pos c, if_pos (by omega)]
    · rw [if_neg (by rw [decide_eq_true_eq]; exact c), if_neg c, ih k (j + 1) (by omega) (by omega) (by omega) (by omega)]
theorem rcost_f (l : List S43) (hG : goodP l) (K : Nat) (hK : 40000 ≤ K) (i b : Nat) (h : Int) (hi : i ≤ l.length) (hb : b < l.length) (hh : 1 ≤ h ∧ h ≤ 1073741824) :
    colophonref27_cost.f K l ((i : Int) - 1) (b : Int) h = some (costV l i b h) := by
  have hn := hG.1.2
  have hw : wrap64 ((i : Int) - 1 + 1) = (i : Int) := by rw [w_in (by omega)]; omega
  unfold colophonref27_cost.f
  rw [hw, rcost_l0 l hG i b h hi hb hh (b - i) K i rfl (Nat.le_refl _) hi (by omega)]
  unfold costV
  congr 1
  by_cases c1 : h - pg l i b < 0
  · rw [if_pos c1, ite_self, if_pos (.inl c1)]
  · by_cases c2 : pages_ready.M (l.drop i) i < (b : Int)
    · rw [if_pos c2, if_pos (.inr c2)]
    · have c12 : ¬ (h - pg l i b < 0 ∨ pages_ready.M (l.drop i) i < (b : Int)) := fun x => x.elim c1 c2
      rw [if_neg c12, if_neg c2, if_neg c1]
/-! ### r: the reference's legal -/
theorem rlegal_f (l : List S43) (i : Int) : colophonref27_legal.f l i = some (legB l i) := by
  unfold colophonref27_legal.f legB
  by_cases c1 : 0 ≤ i
  · rw [if_pos c1]
    by_cases c2 : i < (l.length : Int)
    · rw [if_pos c2, if_pos c1]
      by_cases c3 : (rd_T43 l i).f0 = 3
      · rw [if_pos c3]; simp [c1, c2, c3]
      · rw [if_neg c3]; simp [c3]
    · rw [if_neg c2]; simp [c2]
  · rw [if_neg c1]; simp [c1]

end Go.Proofs.Ytogjeababinnlaa.PurePagesCosts
