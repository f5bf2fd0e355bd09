/- For PagesLeast: which lists are good, and what a page costs. -/
import Derived.Test.YtogjeababinnlaaPPagesLeastx5
namespace Go.Proofs.Ytogjeababinnlaa.PurePagesLeast
open Go.RowKit Go.Proofs.Ytogjeababinnlaa Go.Proofs.Ytogjeababinnlaa.PPagesLeast Go.Proofs.YtogjeababinnlaaW.PrintWords Go.Proofs.YtogjeababinnlaaW.PrintLast Go.Proofs.YtogjeababinnlaaW.PrintMore
theorem w_in {e : Int} (h : -9223372036854775808 ≤ e ∧ e ≤ 9223372036854775807) : wrap64 e = e := by unfold wrap64; omega
theorem wakes_f : colophonlaw27_wakes.f 60 = some true := by decide +kernel
theorem wakes_k (k : Nat) (hk : 60 ≤ k) : colophonlaw27_wakes.f k = some true := at_rounds (g := fun k => colophonlaw27_wakes.f k) colophonlaw27_wakes.mono hk wakes_f
/-! ### which lists are good -/
def okI (x : S43) : Prop := (0 ≤ x.f1 ∧ x.f1 ≤ 1073741824) ∧ (0 ≤ x.f2 ∧ x.f2 ≤ 1073741824) ∧ (-10000 ≤ x.f3 ∧ x.f3 ≤ 10000) ∧ (1 ≤ x.f0 ∧ x.f0 ≤ 3) ∧ (x.f0 ≠ 1 → x.f2 = 0) ∧ (x.f0 = 3 → x.f1 = 0) ∧ (x.f0 ≠ 3 → x.f3 = 0)
instance (x : S43) : Decidable (okI x) := by unfold okI; infer_instance
def isF (x : S43) : Prop := x.f0 = 3 ∧ x.f3 = -10000
instance (x : S43) : Decidable (isF x) := by unfold isF; infer_instance
def goodP (l : List S43) : Prop := (1 ≤ l.length ∧ l.length ≤ 1024) ∧ (∀ j : Nat, j < l.length → okI (rd_T43 l (j : Int))) ∧ isF (rd_T43 l ((l.length - 1 : Nat) : Int))
noncomputable instance (l : List S43) : Decidable (goodP l) := Classical.propDecidable _
theorem sized_f (x : Int) : pages_sized.f x = some (decide (0 ≤ x ∧ x ≤ 1073741824)) := by
  unfold pages_sized.f
  by_cases h : 0 ≤ x
  · rw [if_pos h]; simp [h]
  · rw [if_neg h]; simp [h]
theorem p_step (k : Nat) (l : List S43) (i : Nat) (hi : i < l.length) (hl : l.length ≤ 5000) :
    pages_Good.l0 (k + 2) l l (l.length : Int) (i : Int) = if okI (rd_T43 l (i : Int)) then pages_Good.l0 k l l (l.length : Int) ((i + 1 : Nat) : Int) else some false := by
  have hw : wrap64 ((i : Int) + 1) = ((i + 1 : Nat) : Int) := by rw [w_in (by omega)]; omega
  rw [pages_Good.l0, if_pos (by omega), if_pos (by omega), if_pos (by omega)]
  generalize rd_T43 l (i : Int) = x
  obtain ⟨a, b, c, d⟩ := x
  dsimp only
  have core : ∀ o1 o2 o3 : Int, pages_Good.j2 (k + 1) l l (l.length : Int) (i : Int) a b c d a o1 o2 o3 =
      if (b = o1 ∧ c = o2 ∧ d = o3) ∧ (0 ≤ b ∧ b ≤ 1073741824) ∧ (0 ≤ c ∧ c ≤ 1073741824) ∧ (-10000 ≤ d ∧ d ≤ 10000) then pages_Good.l0 k l l (l.length : Int) ((i + 1 : Nat) : Int) else some false := by
    intro o1 o2 o3
    rw [pages_Good.j2, hw, sized_f, sized_f, beq_self_eq_true]
    by_cases e : b = o1 ∧ c = o2 ∧ d = o3
    · obtain ⟨rfl, rfl, rfl⟩ := e
      simp only [beq_self_eq_true, Bool.not_true, Bool.or_self, Option.bind_some, decide_eq_true_eq, and_self, true_and]
      rw [if_neg (by decide)]
      by_cases h1 : 0 ≤ b ∧ b ≤ 1073741824
      · rw [if_pos h1]
        by_cases h2 : 0 ≤ c ∧ c ≤ 1073741824
        · rw [if_pos h2]
          by_cases h3 : d < -10000
          · rw [if_pos h3, if_neg (by omega)]
          · rw [if_neg h3]
            by_cases h4 : d > 10000
            · rw [if_pos h4, if_neg (by omega)]
            · rw [if_neg h4, if_pos ⟨h1, h2, by omega, by omega⟩]
        · rw [if_neg h2, if_neg (fun h => h2 h.2.1)]
      · rw [if_neg h1, if_neg (fun h => h1 h.1)]
    · rw [if_pos, if_neg (fun h => e h.1)]
      by_cases e1 : b = o1
      · by_cases e2 : c = o2
        · have e3 : ¬ d = o3 := fun h => e ⟨e1, e2, h⟩
          simp [e1, e2, e3]
        · simp [e1, e2]
      · simp [e1]
  have hO : okI ⟨a, b, c, d⟩ ↔ ((0 ≤ b ∧ b ≤ 1073741824) ∧ (0 ≤ c ∧ c ≤ 1073741824) ∧ (-10000 ≤ d ∧ d ≤ 10000) ∧ (1 ≤ a ∧ a ≤ 3) ∧ (a ≠ 1 → c = 0) ∧ (a = 3 → b = 0) ∧ (a ≠ 3 → d = 0)) := Iff.rfl
  by_cases h1 : a = 1
  · rw [if_pos h1, core]
    by_cases hx : (0 ≤ b ∧ b ≤ 1073741824) ∧ (0 ≤ c ∧ c ≤ 1073741824) ∧ (-10000 ≤ d ∧ d ≤ 10000) ∧ d = 0
    · rw [if_pos ⟨⟨rfl, rfl, hx.2.2.2⟩, hx.1, hx.2.1, hx.2.2.1⟩, if_pos (hO.2 ⟨hx.1, hx.2.1, hx.2.2.1, by omega, by omega, by omega, by omega⟩)]
    · rw [if_neg (fun h => hx ⟨h.2.1, h.2.2.1, h.2.2.2, h.1.2.2⟩), if_neg (fun h_ => by have h := hO.1 h_; exact hx ⟨h.1, h.2.1, h.2.2.1, h.2.2.2.2.2.2 (by omega)⟩)]
  · rw [if_neg h1]
    by_cases h2 : a = 2
    · rw [if_pos h2, core]
      by_cases hx : (0 ≤ b ∧ b ≤ 1073741824) ∧ (0 ≤ c ∧ c ≤ 1073741824) ∧ (-10000 ≤ d ∧ d ≤ 10000) ∧ c = 0 ∧ d = 0
      · rw [if_pos ⟨⟨rfl, hx.2.2.2.1, hx.2.2.2.2⟩, hx.1, hx.2.1, hx.2.2.1⟩, if_pos (hO.2 ⟨hx.1, hx.2.1, hx.2.2.1, by omega, by omega, by omega, by omega⟩)]
      · rw [if_neg (fun h => hx ⟨h.2.1, h.2.2.1, h.2.2.2, h.1.2.1, h.1.2.2⟩), if_neg (fun h_ => by have h := hO.1 h_; exact hx ⟨h.1, h.2.1, h.2.2.1, h.2.2.2.2.1 h1, h.2.2.2.2.2.2 (by omega)⟩)]
    · rw [if_neg h2]
      by_cases h3 : a = 3
      · rw [if_pos h3, core]
        by_cases hx : (0 ≤ b ∧ b ≤ 1073741824) ∧ (0 ≤ c ∧ c ≤ 1073741824) ∧ (-10000 ≤ d ∧ d ≤ 10000) ∧ b = 0 ∧ c = 0
        · rw [if_pos ⟨⟨hx.2.2.2.1, hx.2.2.2.2, rfl⟩, hx.1, hx.2.1, hx.2.2.1⟩, if_pos (hO.2 ⟨hx.1, hx.2.1, hx.2.2.1, by omega, by omega, by omega, by omega⟩)]
        · rw [if_neg (fun h => hx ⟨h.2.1, h.2.2.1, h.2.2.2, h.1.1, h.1.2.1⟩), if_neg (fun h_ => by have h := hO.1 h_; exact hx ⟨h.1, h.2.1, h.2.2.1, h.2.2.2.2.2.1 h3, h.2.2.2.2.1 h1⟩)]
      · rw [if_neg h3, if_neg (fun h_ => by have h := hO.1 h_; omega)]
theorem last_idx (l : List S43) (h1 : 1 ≤ l.length) (hl : l.length ≤ 5000) : wrap64 ((l.length : Int) - 1) = ((l.length - 1 : Nat) : Int) := by rw [w_in (by omega)]; omega
theorem p_l0 (l : List S43) (h1 : 1 ≤ l.length) (hl : l.length ≤ 5000) : ∀ (d k i : Nat), i + d = l.length → 2 * d + 1 ≤ k →
    ∃ t, pages_Good.l0 k l l (l.length : Int) (i : Int) = some t ∧ (t = true ↔ ((∀ j : Nat, i ≤ j → j < l.length → okI (rd_T43 l (j : Int))) ∧ isF (rd_T43 l ((l.length - 1 : Nat) : Int)))) := by
  intro d
  induction d with
  | zero =>
    intro k i hd hk
    obtain ⟨k, rfl⟩ : ∃ q, k = q + 1 := ⟨k - 1, by omega⟩
    rw [pages_Good.l0, if_neg (by omega), last_idx l h1 hl, if_pos (by omega), if_pos (by omega), pages_forced.val, Option.bind_some]
    refine ⟨_, rfl, ?_⟩
    rw [decide_eq_true_eq]
    exact ⟨fun h => ⟨fun j h1 h2 => by omega, h⟩, fun h => h.2⟩
  | succ d ih =>
    intro k i hd hk
    obtain ⟨k, rfl⟩ : ∃ q, k = q + 2 := ⟨k - 2, by omega⟩
    rw [p_step k l i (by omega) hl]
    by_cases ho : okI (rd_T43 l (i : Int))
    · rw [if_pos ho]
      obtain ⟨t, e, ht⟩ := ih k (i + 1) (by omega) (by omega)
      refine ⟨t, e, ht.trans ⟨fun h => ⟨fun j h1 h2 => ?_, h.2⟩, fun h => ⟨fun j h1 h2 => h.1 j (by omega) h2, h.2⟩⟩⟩
      by_cases e : j = i
      · rw [e]; exact ho
      · exact h.1 j (by omega) h2
    · rw [if_neg ho]
      exact ⟨false, rfl, ⟨fun h => by simp at h, fun h => absurd (h.1 i (Nat.le_refl _) (by omega)) ho⟩⟩
theorem good_f (K : Nat) (hK : 20000 ≤ K) (l : List S43) (hl : l.length ≤ 5000) : pages_Good.f K l = some (decide (goodP l)) := by
  have key : ∃ t, pages_Good.f K l = some t ∧ (t = true ↔ goodP l) := by
    unfold pages_Good.f
    obtain ⟨K, rfl⟩ : ∃ q, K = q + 1 := ⟨K - 1, by omega⟩
    by_cases h0 : l.length = 0
    · rw [if_pos (by omega), pages_Good.j0, if_pos rfl]
      exact ⟨false, rfl, ⟨fun h => by simp at h, fun h => by have := h.1.1; omega⟩⟩
    · rw [if_neg (by omega), pages_Good.j0]
      by_cases h1 : (l.length : Int) > 1024
      · rw [if_pos (decide_eq_true h1)]
        exact ⟨false, rfl, ⟨fun h => by simp at h, fun h => by have := h.1.2; omega⟩⟩
      · rw [if_neg (by rw [decide_eq_false h1]; decide), show (0 : Int) = ((0 : Nat) : Int) from rfl]
        obtain ⟨t, e, ht⟩ := p_l0 l (by omega) hl l.length K 0 (by omega) (by omega)
        exact ⟨t, e, ht.trans ⟨fun h => ⟨by omega, fun j hj => h.1 j (Nat.zero_le _) hj, h.2⟩, fun h => ⟨fun j _ hj => h.2.1 j hj, h.2.2⟩⟩⟩
  obtain ⟨t, e, ht⟩ := key
  rw [e]
  congr 1
  rw [Bool.eq_iff_iff, ht, decide_eq_true_iff]
/-! ### a room, a twin -/
theorem room_f (h : Int) : pages_room.f h = some (decide (1 ≤ h ∧ h ≤ 1073741824)) := by
  unfold pages_room.f
  by_cases c : 1 ≤ h
  · rw [if_pos c]; simp [c]
  · rw [if_neg c]; simp [c]
theorem twin_f (l : List S43) (hl : l.length ≤ 5000) : colophonlaw27_twin.f l = some l := by
  unfold colophonlaw27_twin.f
  rw [Option.bind_some, if_pos (by simp; omega), List.nil_append]

/-! ### heights, first boxes, forced breaks -/
theorem rd_range (f : Nat → Int) (n j : Nat) (h : j ≤ n) : rd ((List.range (n + 1)).map f) (j : Int) = f j := by
  unfold rd
  rw [Int.toNat_natCast, List.getD_eq_getElem?_getD, List.getElem?_map, List.getElem?_range (by omega)]
  rfl
theorem hs_rd (l : List S43) (j : Nat) (h : j ≤ l.length) : rd (pages_ready.hs l) (j : Int) = pages_ready.H l j := rd_range _ _ _ h
theorem fs_rd (l : List S43) (j : Nat) (h : j ≤ l.length) : rd (pages_ready.fs l) (j : Int) = pages_ready.F (l.drop j) j := rd_range (fun j => pages_ready.F (l.drop j) j) _ _ h
theorem ms_rd (l : List S43) (j : Nat) (h : j ≤ l.length) : rd (pages_ready.ms l) (j : Int) = pages_ready.M (l.drop j) j := rd_range (fun j => pages_ready.M (l.drop j) j) _ _ h
theorem hs_len (l : List S43) : (pages_ready.hs l).length = l.length + 1 := by simp [pages_ready.hs]
theorem fs_len (l : List S43) : (pages_ready.fs l).length = l.length + 1 := by simp [pages_ready.fs]
theorem ms_len (l : List S43) : (pages_ready.ms l).length = l.length + 1 := by simp [pages_ready.ms]
theorem H_b (l : List S43) (hG : goodP l) : ∀ j : Nat, j ≤ l.length → 0 ≤ pages_ready.H l j ∧ pages_ready.H l j ≤ (j : Int) * 1073741824
  | 0, _ => by simp [pages_ready.H]
  | j + 1, h => by
    have ih := H_b l hG j (by omega)
    have ho := hG.2.1 j (by omega)
    have hn := hG.1.2
    unfold okI at ho
    rw [pages_ready.H_succ l j (by omega), w_in (by omega)]
    omega
theorem H_step (l : List S43) (hG : goodP l) (j : Nat) (h : j < l.length) : pages_ready.H l (j + 1) = pages_ready.H l j + (rd_T43 l (j : Int)).f1 := by
  have ih := H_b l hG j (by omega)
  have ho := hG.2.1 j (by omega)
  have hn := hG.1.2
  unfold okI at ho
  rw [pages_ready.H_succ l j h, w_in (by omega)]
theorem H_mono (l : List S43) (hG : goodP l) : ∀ (d j : Nat), j + d ≤ l.length → pages_ready.H l j ≤ pages_ready.H l (j + d)
  | 0, j, _ => Int.le_refl _
  | d + 1, j, h => by
    have ih := H_mono l hG d j (by omega)
    have ho := (hG.2.1 (j + d) (by omega)).1
    rw [show j + (d + 1) = (j + d) + 1 by omega, H_step l hG (j + d) (by omega)]
    omega
theorem F_spec (l : List S43) : ∀ (d j : Nat), j + d = l.length → ∃ f : Nat, pages_ready.F (l.drop j) j = (f : Int) ∧ j ≤ f ∧ f ≤ l.length ∧ (∀ k : Nat, j ≤ k → k < f → (rd_T43 l (k : Int)).f0 ≠ 1) ∧ (f < l.length → (rd_T43 l (f : Int)).f0 = 1)
  | 0, j, h => ⟨j, by rw [List.drop_eq_nil_of_le (by omega)]; rfl, Nat.le_refl _, by omega, fun k h1 h2 => by omega, fun h1 => by omega⟩
  | d + 1, j, h => by
    rw [pages_ready.F_step l j (by omega)]
    by_cases c : (rd_T43 l (j : Int)).f0 = 1
    · rw [if_pos c]
      exact ⟨j, rfl, Nat.le_refl _, by omega, fun k h1 h2 => by omega, fun _ => c⟩
    · rw [if_neg c]
      obtain ⟨f, e, h1, h2, h3, h4⟩ := F_spec l d (j + 1) (by omega)
      refine ⟨f, e, by omega, h2, fun k g1 g2 => ?_, h4⟩
      by_cases hk : k = j
      · rw [hk]; exact c
      · exact h3 k (by omega) g2
theorem M_spec (l : List S43) : ∀ (d j : Nat), j + d = l.length → ∃ f : Nat, pages_ready.M (l.drop j) j = (f : Int) ∧ j ≤ f ∧ f ≤ l.length ∧ (∀ k : Nat, j ≤ k → k < f → ¬ isF (rd_T43 l (k : Int))) ∧ (f < l.length → isF (rd_T43 l (f : Int)))
  | 0, j, h => ⟨j, by rw [List.drop_eq_nil_of_le (by omega)]; rfl, Nat.le_refl _, by omega, fun k h1 h2 => by omega, fun h1 => by omega⟩
  | d + 1, j, h => by
    rw [pages_ready.M_step l j (by omega)]
    by_cases c : (rd_T43 l (j : Int)).f0 = 3 ∧ (rd_T43 l (j : Int)).f3 = -10000
    · rw [if_pos c]
      exact ⟨j, rfl, Nat.le_refl _, by omega, fun k h1 h2 => by omega, fun _ => c⟩
    · rw [if_neg c]
      obtain ⟨f, e, h1, h2, h3, h4⟩ := M_spec l d (j + 1) (by omega)
      refine ⟨f, e, by omega, h2, fun k g1 g2 => ?_, h4⟩
      by_cases hk : k = j
      · rw [hk]; exact c
      · exact h3 k (by omega) g2
/-- The forced break from place i on, in a good list. -/
theorem M_good (l : List S43) (hG : goodP l) (j : Nat) (hj : j < l.length) : ∃ f : Nat, pages_ready.M (l.drop j) j = (f : Int) ∧ j ≤ f ∧ f < l.length ∧ (∀ k : Nat, j ≤ k → k < f → ¬ isF (rd_T43 l (k : Int))) ∧ isF (rd_T43 l (f : Int)) := by
  obtain ⟨f, e, h1, h2, h3, h4⟩ := M_spec l (l.length - j) j (by omega)
  have hlt : f < l.length := by
    by_cases c : f < l.length
    · exact c
    · exact absurd hG.2.2 (h3 (l.length - 1) (by omega) (by omega))
  exact ⟨f, e, h1, hlt, h3, h4 hlt⟩
/-! ### a page's height -/
def pg (l : List S43) (i b : Nat) : Int :=
  if (b : Int) ≤ pages_ready.F (l.drop i) i then 0 else pages_ready.H l b - pages_ready.H l (pages_ready.F (l.drop i) i).toNat + (rd_T43 l (pages_ready.F (l.drop i) i)).f2
theorem pg_b (l : List S43) (hG : goodP l) (i b : Nat) (hi : i ≤ l.length) (hb : b ≤ l.length) : 0 ≤ pg l i b ∧ pg l i b ≤ 1200000000000 := by
  obtain ⟨f, e, h1, h2, h3, h4⟩ := F_spec l (l.length - i) i (by omega)
  unfold pg
  rw [e]
  have hn := hG.1.2
  by_cases c : (b : Int) ≤ (f : Int)
  · rw [if_pos c]; omega
  · rw [if_neg c, Int.toNat_natCast]
    have m := H_mono l hG (b - f) f (by omega)
    rw [show f + (b - f) = b by omega] at m
    have hb1 := H_b l hG b hb
    have hf1 := H_b l hG f h2
    have ho := (hG.2.1 f (by omega)).2.1
    omega
theorem page_f (l : List S43) (hG : goodP l) (i b : Nat) (hi : i ≤ l.length) (hb : b ≤ l.length) :
    pages_column_page.f l (pages_ready.hs l) (pages_ready.fs l) (pages_ready.ms l) ((i : Int) - 1) (b : Int) = some (pg l i b) := by
  obtain ⟨f, e, h1, h2, h3, h4⟩ := F_spec l (l.length - i) i (by omega)
  have hn := hG.1.2
  have hw : wrap64 ((i : Int) - 1 + 1) = (i : Int) := by rw [w_in (by omega)]; omega
  have hf := fs_rd l i hi
  rw [e] at hf
  have hB := pg_b l hG i b hi hb
  unfold pages_column_page.f
  unfold pg at hB ⊢
  rw [e] at hB ⊢
  rw [hw, fs_len, hs_len, hf, if_pos (by omega), if_pos (by omega)]
  by_cases c : (b : Int) ≤ (f : Int)
  · rw [if_pos c, if_pos c]
  · have hb1 := H_b l hG b hb
    have hf1 := H_b l hG f h2
    rw [if_neg c, Int.toNat_natCast] at hB
    rw [if_neg c, if_neg c, Int.toNat_natCast]
    rw [if_pos (by omega), if_pos (by omega), if_pos (by omega), if_pos (by omega), if_pos (by omega), hs_rd l b hb, hs_rd l f h2, w_in (e := pages_ready.H l b - _) (by omega), w_in (by omega)]
/-! ### what a page costs -/
def costV (l : List S43) (i b : Nat) (h : Int) : Int × Bool :=
  if h - pg l i b < 0 ∨ pages_ready.M (l.drop i) i < (b : Int) then (0, false)
  else if isF (rd_T43 l (b : Int)) then (0, true)
  else ((Int.tdiv (100 * (h - pg l i b)) h) * (Int.tdiv (100 * (h - pg l i b)) h) + (rd_T43 l (b : Int)).f3, true)
theorem tdiv_b (s h : Int) (h1 : 1 ≤ h) (h0 : 0 ≤ s) (h2 : s ≤ h) : 0 ≤ Int.tdiv (100 * s) h ∧ Int.tdiv (100 * s) h ≤ 100 := by
  rw [Int.tdiv_eq_ediv_of_nonneg (by omega)]
  constructor
  · exact Int.ediv_nonneg (by omega) (by omega)
  · have : 100 * s / h < 101 := Int.ediv_lt_of_lt_mul (by omega) (by omega)
    omega
theorem sq_b (r : Int) (h : 0 ≤ r ∧ r ≤ 100) : 0 ≤ r * r ∧ r * r ≤ 10000 := by
  constructor
  · exact Int.mul_nonneg h.1 h.1
  · exact Int.mul_le_mul h.2 h.2 h.1 (by omega)
theorem costV_b (l : List S43) (hG : goodP l) (i b : Nat) (h : Int) (hi : i ≤ l.length) (hb : b < l.length) (hh : 1 ≤ h ∧ h ≤ 1073741824) : -10000 ≤ (costV l i b h).1 ∧ (costV l i b h).1 ≤ 20000 := by
  have ho := (hG.2.1 b hb).2.2.1
  have hB := pg_b l hG i b hi (by omega)
  unfold costV
  by_cases c : h - pg l i b < 0 ∨ pages_ready.M (l.drop i) i < (b : Int)
  · rw [if_pos c]; simp
  · rw [if_neg c]
    by_cases c2 : isF (rd_T43 l (b : Int))
    · rw [if_pos c2]; simp
    · rw [if_neg c2]
      have := sq_b _ (tdiv_b (h - pg l i b) h hh.1 (by omega) (by omega))
      dsimp only
      omega
theorem isF_dec (x : S43) : decide (x.f0 = 3 ∧ x.f3 = -10000) = decide (isF x) := by unfold isF; rfl
theorem cost_f (l : List S43) (hG : goodP l) (i b : Nat) (h : Int) (hi : i ≤ l.length) (hb : b < l.length) (hh : 1 ≤ h ∧ h ≤ 1073741824) :
    pages_column_cost.f l (pages_ready.hs l) (pages_ready.fs l) (pages_ready.ms l) ((i : Int) - 1) (b : Int) h = some (costV l i b h) := by
  have hn := hG.1.2
  have hB := pg_b l hG i b hi (by omega)
  have hw : wrap64 ((i : Int) - 1 + 1) = (i : Int) := by rw [w_in (by omega)]; omega
  have ho := (hG.2.1 b hb).2.2.1
  unfold pages_column_cost.f
  rw [page_f l hG i b hi (by omega), Option.bind_some, hw, ms_len, ms_rd l i hi, w_in (e := h - pg l i b) (by omega)]
  by_cases c1 : h - pg l i b < 0
  · have hV : costV l i b h = (0, false) := by unfold costV; rw [if_pos (.inl c1)]
    rw [if_pos c1, hV]
  · rw [if_neg c1, if_pos (by omega), if_pos (by omega)]
    by_cases c2 : pages_ready.M (l.drop i) i < (b : Int)
    · have hV : costV l i b h = (0, false) := by unfold costV; rw [if_pos (.inr c2)]
      rw [if_pos c2, hV]
    · rw [if_neg c2, if_pos (by omega), if_pos (by omega), pages_forced.val, Option.bind_some, isF_dec]
      have c12 : ¬ (h - pg l i b < 0 ∨ pages_ready.M (l.drop i) i < (b : Int)) := fun x => x.elim c1 c2
      by_cases c3 : isF (rd_T43 l (b : Int))
      · have hV : costV l i b h = (0, true) := by unfold costV; rw [if_neg c12, if_pos c3]
        rw [if_pos (decide_eq_true c3), hV]
      · have ht := tdiv_b (h - pg l i b) h hh.1 (by omega) (by omega)
        have hq := sq_b _ ht
        have hV : costV l i b h = ((Int.tdiv (100 * (h - pg l i b)) h) * (Int.tdiv (100 * (h - pg l i b)) h) + (rd_T43 l (b : Int)).f3, true) := by unfold costV; rw [if_neg c12, if_neg c3]
        rw [if_neg (by rw [decide_eq_true_eq]; exact c3), if_neg (by omega), hV, w_in (e := 100 * _) (by omega), w_in (e := Int.tdiv _ _) (by omega), w_in (e := _ * _) (by omega), w_in (by omega)]
/-! ### where a page may end -/
def legB (l : List S43) (i : Int) : Bool := decide (0 ≤ i ∧ i < (l.length : Int) ∧ (rd_T43 l i).f0 = 3 ∧ (rd_T43 l i).f3 < 10000)
theorem legal_f (l : List S43) (hs fs ms : List Int) (i : Int) : pages_column_legal.f l hs fs ms i = some (legB l i) := by
  unfold pages_column_legal.f legB
  by_cases c1 : 0 ≤ i
  · rw [if_pos c1]
    by_cases c2 : i < (l.length : Int)
    · rw [if_pos c2]
      by_cases c3 : (rd_T43 l i).f0 = 3
      · rw [if_pos c3]; simp [c1, c2, c3]
      · rw [if_neg c3]; simp [c3]
    · rw [if_neg c2]; simp [c2]
  · rw [if_neg c1]; simp [c1]
/-! ### legal: bounds -/
theorem leg_b (l : List S43) (i : Int) (h : legB l i = true) : 0 ≤ i ∧ i < (l.length : Int) := by
  unfold legB at h
  rw [decide_eq_true_eq] at h
  exact ⟨h.1, h.2.1⟩

end Go.Proofs.Ytogjeababinnlaa.PurePagesLeast
