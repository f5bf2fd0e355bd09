/- For PagesAll: which lists are good, what a page costs, and the ways that cost least. -/
import Derived.Test.YtogjeababinnlaaAllC
namespace Go.Proofs.Ytogjeababinnlaa.PurePagesAll
open Go.RowKit Go.Proofs.Ytogjeababinnlaa Go.Proofs.Ytogjeababinnlaa.PPagesAll Go.Proofs.YtogjeababinnlaaW.PrintWords Go.Proofs.YtogjeababinnlaaW.PrintLast Go.Proofs.YtogjeababinnlaaW.PrintMore
theorem w_in {e : Int} (h : -9223372036854775808 ≤ e ∧ e ≤ 9223372036854775807) : wrap64 e = e := by unfold wrap64; omega
theorem wakes_f : colophonlaw27_wakes.f 60 = some true := by decide +kernel
theorem wakes_k (k : Nat) (hk : 60 ≤ k) : colophonlaw27_wakes.f k = some true := at_rounds (g := fun k => colophonlaw27_wakes.f k) colophonlaw27_wakes.mono hk wakes_f
/-! ### which lists are good -/
def okI (x : S43) : Prop := (0 ≤ x.f1 ∧ x.f1 ≤ 1073741824) ∧ (0 ≤ x.f2 ∧ x.f2 ≤ 1073741824) ∧ (-10000 ≤ x.f3 ∧ x.f3 ≤ 10000) ∧ (1 ≤ x.f0 ∧ x.f0 ≤ 3) ∧ (x.f0 ≠ 1 → x.f2 = 0) ∧ (x.f0 = 3 → x.f1 = 0) ∧ (x.f0 ≠ 3 → x.f3 = 0)
instance (x : S43) : Decidable (okI x) := by unfold okI; infer_instance
def isF (x : S43) : Prop := x.f0 = 3 ∧ x.f3 = -10000
instance (x : S43) : Decidable (isF x) := by unfold isF; infer_instance
def goodP (l : List S43) : Prop := (1 ≤ l.length ∧ l.length ≤ 1024) ∧ (∀ j : Nat, j < l.length → okI (rd_T43 l (j : Int))) ∧ isF (rd_T43 l ((l.length - 1 : Nat) : Int))
noncomputable instance (l : List S43) : Decidable (goodP l) := Classical.propDecidable _
theorem sized_f (x : Int) : pages_sized.f x = some (decide (0 ≤ x ∧ x ≤ 1073741824)) := by
  unfold pages_sized.f
  by_cases h : 0 ≤ x
  · rw [if_pos h]; simp [h]
  · rw [if_neg h]; simp [h]
theorem p_step (k : Nat) (l : List S43) (i : Nat) (hi : i < l.length) (hl : l.length ≤ 5000) :
    pages_Good.l0 (k + 2) l l (l.length : Int) (i : Int) = if okI (rd_T43 l (i : Int)) then pages_Good.l0 k l l (l.length : Int) ((i + 1 : Nat) : Int) else some false := by
  have hw : wrap64 ((i : Int) + 1) = ((i + 1 : Nat) : Int) := by rw [w_in (by omega)]; omega
  rw [pages_Good.l0, if_pos (by omega), if_pos (by omega), if_pos (by omega)]
  generalize rd_T43 l (i : Int) = x
  obtain ⟨a, b, c, d⟩ := x
  dsimp only
  have core : ∀ o1 o2 o3 : Int, pages_Good.j2 (k + 1) l l (l.length : Int) (i : Int) a b c d a o1 o2 o3 =
      if (b = o1 ∧ c = o2 ∧ d = o3) ∧ (0 ≤ b ∧ b ≤ 1073741824) ∧ (0 ≤ c ∧ c ≤ 1073741824) ∧ (-10000 ≤ d ∧ d ≤ 10000) then pages_Good.l0 k l l (l.length : Int) ((i + 1 : Nat) : Int) else some false := by
    intro o1 o2 o3
    rw [pages_Good.j2, hw, sized_f, sized_f, beq_self_eq_true]
    by_cases e : b = o1 ∧ c = o2 ∧ d = o3
    · obtain ⟨rfl, rfl, rfl⟩ := e
      simp only [beq_self_eq_true, Bool.not_true, Bool.or_self, Option.bind_some, decide_eq_true_eq, and_self, true_and]
      rw [if_neg (by decide)]
      by_cases h1 : 0 ≤ b ∧ b ≤ 1073741824
      · rw [if_pos h1]
        by_cases h2 : 0 ≤ c ∧ c ≤ 1073741824
        · rw [if_pos h2]
          by_cases h3 : d < -10000
          · rw [if_pos h3, if_neg (by omega)]
          · rw [if_neg h3]
            by_cases h4 : d > 10000
            · rw [if_pos h4, if_neg (by omega)]
            · rw [if_neg h4, if_pos ⟨h1, h2, by omega, by omega⟩]
        · rw [if_neg h2, if_neg (fun h => h2 h.2.1)]
      · rw [if_neg h1, if_neg (fun h => h1 h.1)]
    · rw [if_pos, if_neg (fun h => e h.1)]
      by_cases e1 : b = o1
      · by_cases e2 : c = o2
        · have e3 : ¬ d = o3 := fun h => e ⟨e1, e2, h⟩
          simp [e1, e2, e3]
        · simp [e1, e2]
      · simp [e1]
  have hO : okI ⟨a, b, c, d⟩ ↔ ((0 ≤ b ∧ b ≤ 1073741824) ∧ (0 ≤ c ∧ c ≤ 1073741824) ∧ (-10000 ≤ d ∧ d ≤ 10000) ∧ (1 ≤ a ∧ a ≤ 3) ∧ (a ≠ 1 → c = 0) ∧ (a = 3 → b = 0) ∧ (a ≠ 3 → d = 0)) := Iff.rfl
  by_cases h1 : a = 1
  · rw [if_pos h1, core]
    by_cases hx : (0 ≤ b ∧ b ≤ 1073741824) ∧ (0 ≤ c ∧ c ≤ 1073741824) ∧ (-10000 ≤ d ∧ d ≤ 10000) ∧ d = 0
    · rw [if_pos ⟨⟨rfl, rfl, hx.2.2.2⟩, hx.1, hx.2.1, hx.2.2.1⟩, if_pos (hO.2 ⟨hx.1, hx.2.1, hx.2.2.1, by omega, by omega, by omega, by omega⟩)]
    · rw [if_neg (fun h => hx ⟨h.2.1, h.2.2.1, h.2.2.2, h.1.2.2⟩), if_neg (fun h_ => by have h := hO.1 h_; exact hx ⟨h.1, h.2.1, h.2.2.1, h.2.2.2.2.2.2 (by omega)⟩)]
  · rw [if_neg h1]
    by_cases h2 : a = 2
    · rw [if_pos h2, core]
      by_cases hx : (0 ≤ b ∧ b ≤ 1073741824) ∧ (0 ≤ c ∧ c ≤ 1073741824) ∧ (-10000 ≤ d ∧ d ≤ 10000) ∧ c = 0 ∧ d = 0
      · rw [if_pos ⟨⟨rfl, hx.2.2.2.1, hx.2.2.2.2⟩, hx.1, hx.2.1, hx.2.2.1⟩, if_pos (hO.2 ⟨hx.1, hx.2.1, hx.2.2.1, by omega, by omega, by omega, by omega⟩)]
      · rw [if_neg (fun h => hx ⟨h.2.1, h.2.2.1, h.2.2.2, h.1.2.1, h.1.2.2⟩), if_neg (fun h_ => by have h := hO.1 h_; exact hx ⟨h.1, h.2.1, h.2.2.1, h.2.2.2.2.1 h1, h.2.2.2.2.2.2 (by omega)⟩)]
    · rw [if_neg h2]
      by_cases h3 : a = 3
      · rw [if_pos h3, core]
        by_cases hx : (0 ≤ b ∧ b ≤ 1073741824) ∧ (0 ≤ c ∧ c ≤ 1073741824) ∧ (-10000 ≤ d ∧ d ≤ 10000) ∧ b = 0 ∧ c = 0
        · rw [if_pos ⟨⟨hx.2.2.2.1, hx.2.2.2.2, rfl⟩, hx.1, hx.2.1, hx.2.2.1⟩, if_pos (hO.2 ⟨hx.1, hx.2.1, hx.2.2.1, by omega, by omega, by omega, by omega⟩)]
        · rw [if_neg (fun h => hx ⟨h.2.1, h.2.2.1, h.2.2.2, h.1.1, h.1.2.1⟩), if_neg (fun h_ => by have h := hO.1 h_; exact hx ⟨h.1, h.2.1, h.2.2.1, h.2.2.2.2.2.1 h3, h.2.2.2.2.1 h1⟩)]
      · rw [if_neg h3, if_neg (fun h_ => by have h := hO.1 h_; omega)]
theorem last_idx (l : List S43) (h1 : 1 ≤ l.length) (hl : l.length ≤ 5000) : wrap64 ((l.length : Int) - 1) = ((l.length - 1 : Nat) : Int) := by rw [w_in (by omega)]; omega
theorem p_l0 (l : List S43) (h1 : 1 ≤ l.length) (hl : l.length ≤ 5000) : ∀ (d k i : Nat), i + d = l.length → 2 * d + 1 ≤ k →
    ∃ t, pages_Good.l0 k l l (l.length : Int) (i : Int) = some t ∧ (t = true ↔ ((∀ j : Nat, i ≤ j → j < l.length → okI (rd_T43 l (j : Int))) ∧ isF (rd_T43 l ((l.length - 1 : Nat) : Int)))) := by
  intro d
  induction d with
  | zero =>
    intro k i hd hk
    obtain ⟨k, rfl⟩ : ∃ q, k = q + 1 := ⟨k - 1, by omega⟩
    rw [pages_Good.l0, if_neg (by omega), last_idx l h1 hl, if_pos (by omega), if_pos (by omega), pages_forced.val, Option.bind_some]
    refine ⟨_, rfl, ?_⟩
    rw [decide_eq_true_eq]
    exact ⟨fun h => ⟨fun j h1 h2 => by omega, h⟩, fun h => h.2⟩
  | succ d ih =>
    intro k i hd hk
    obtain ⟨k, rfl⟩ : ∃ q, k = q + 2 := ⟨k - 2, by omega⟩
    rw [p_step k l i (by omega) hl]
    by_cases ho : okI (rd_T43 l (i : Int))
    · rw [if_pos ho]
      obtain ⟨t, e, ht⟩ := ih k (i + 1) (by omega) (by omega)
      refine ⟨t, e, ht.trans ⟨fun h => ⟨fun j h1 h2 => ?_, h.2⟩, fun h => ⟨fun j h1 h2 => h.1 j (by omega) h2, h.2⟩⟩⟩
      by_cases e : j = i
      · rw [e]; exact ho
      · exact h.1 j (by omega) h2
    · rw [if_neg ho]
      exact ⟨false, rfl, ⟨fun h => by simp at h, fun h => absurd (h.1 i (Nat.le_refl _) (by omega)) ho⟩⟩
theorem good_f (K : Nat) (hK : 20000 ≤ K) (l : List S43) (hl : l.length ≤ 5000) : pages_Good.f K l = some (decide (goodP l)) := by
  have key : ∃ t, pages_Good.f K l = some t ∧ (t = true ↔ goodP l) := by
    unfold pages_Good.f
    obtain ⟨K, rfl⟩ : ∃ q, K = q + 1 := ⟨K - 1, by omega⟩
    by_cases h0 : l.length = 0
    · rw [if_pos (by omega), pages_Good.j0, if_pos rfl]
      exact ⟨false, rfl, ⟨fun h => by simp at h, fun h => by have := h.1.1; omega⟩⟩
    · rw [if_neg (by omega), pages_Good.j0]
      by_cases h1 : (l.length : Int) > 1024
      · rw [if_pos (decide_eq_true h1)]
        exact ⟨false, rfl, ⟨fun h => by simp at h, fun h => by have := h.1.2; omega⟩⟩
      · rw [if_neg (by rw [decide_eq_false h1]; decide), show (0 : Int) = ((0 : Nat) : Int) from rfl]
        obtain ⟨t, e, ht⟩ := p_l0 l (by omega) hl l.length K 0 (by omega) (by omega)
        exact ⟨t, e, ht.trans ⟨fun h => ⟨by omega, fun j hj => h.1 j (Nat.zero_le _) hj, h.2⟩, fun h => ⟨fun j _ hj => h.2.1 j hj, h.2.2⟩⟩⟩
  obtain ⟨t, e, ht⟩ := key
  rw [e]
  congr 1
  rw [Bool.eq_iff_iff, ht, decide_eq_true_iff]
/-! ### a room, a twin -/
theorem room_f (h : Int) : pages_room.f h = some (decide (1 ≤ h ∧ h ≤ 1073741824)) := by
  unfold pages_room.f
  by_cases c : 1 ≤ h
  · rw [if_pos c]; simp [c]
  · rw [if_neg c]; simp [c]
theorem twin_f (l : List S43) (hl : l.length ≤ 5000) : colophonlaw27_twin.f l = some l := by
  unfold colophonlaw27_twin.f
  rw [Option.bind_some, if_pos (by simp; omega), List.nil_append]

/-! ### r: the reference's Good -/
theorem rforced_val (a b c d : Int) : colophonref27_forced.f a b c d = some (decide (a = 3 ∧ d = -10000)) := by
  unfold colophonref27_forced.f
  by_cases h : a = 3
  · rw [if_pos h]; simp [h]; rfl
  · rw [if_neg h]; simp [h]
theorem r_step (k : Nat) (l : List S43) (i : Nat) (hi : i < l.length) (hl : l.length ≤ 5000) :
    colophonref27_Good.l0 (k + 2) l (i : Int) = if okI (rd_T43 l (i : Int)) then colophonref27_Good.l0 k l ((i + 1 : Nat) : Int) else some false := by
  have hw : wrap64 ((i : Int) + 1) = ((i + 1 : Nat) : Int) := by rw [w_in (by omega)]; omega
  rw [colophonref27_Good.l0, if_pos (by omega), if_pos (by omega)]
  generalize rd_T43 l (i : Int) = x
  obtain ⟨a, b, c, d⟩ := x
  dsimp only
  have bad : colophonref27_Good.j2 (k + 1) l (i : Int) true a b c d = some false := by rw [colophonref27_Good.j2, if_pos rfl]
  have hO : okI ⟨a, b, c, d⟩ ↔ ((0 ≤ b ∧ b ≤ 1073741824) ∧ (0 ≤ c ∧ c ≤ 1073741824) ∧ (-10000 ≤ d ∧ d ≤ 10000) ∧ (1 ≤ a ∧ a ≤ 3) ∧ (a ≠ 1 → c = 0) ∧ (a = 3 → b = 0) ∧ (a ≠ 3 → d = 0)) := Iff.rfl
  by_cases h1 : b < 0
  · rw [if_pos h1, bad, if_neg (fun h_ => by have h := hO.1 h_; omega)]
  rw [if_neg h1]
  by_cases h2 : b > 1073741824
  · rw [if_pos h2, bad, if_neg (fun h_ => by have h := hO.1 h_; omega)]
  rw [if_neg h2]
  by_cases h3 : c < 0
  · rw [if_pos h3, bad, if_neg (fun h_ => by have h := hO.1 h_; omega)]
  rw [if_neg h3]
  by_cases h4 : c > 1073741824
  · rw [if_pos h4, bad, if_neg (fun h_ => by have h := hO.1 h_; omega)]
  rw [if_neg h4]
  by_cases h5 : d < -10000
  · rw [if_pos h5, bad, if_neg (fun h_ => by have h := hO.1 h_; omega)]
  rw [if_neg h5]
  by_cases h6 : d > 10000
  · rw [decide_eq_true h6, bad, if_neg (fun h_ => by have h := hO.1 h_; omega)]
  rw [decide_eq_false h6, colophonref27_Good.j2, if_neg (by decide), hw]
  by_cases h7 : a < 1
  · rw [if_pos h7, if_neg (fun h_ => by have h := hO.1 h_; omega)]
  rw [if_neg h7]
  by_cases h8 : a > 3
  · rw [if_pos h8, if_neg (fun h_ => by have h := hO.1 h_; omega)]
  rw [if_neg h8]
  by_cases h9 : a = 1
  · rw [if_pos h9, if_neg (show ¬ a = 3 by omega)]
    by_cases h10 : d = 0
    · rw [if_pos h10, if_pos (hO.2 ⟨by omega, by omega, by omega, by omega, by omega, by omega, by omega⟩)]
    · rw [if_neg h10, if_neg (fun h_ => by have h := hO.1 h_; omega)]
  rw [if_neg h9]
  by_cases h11 : c = 0
  · rw [if_pos h11]
    by_cases h12 : a = 3
    · rw [if_pos h12]
      by_cases h13 : b = 0
      · rw [if_pos h13, if_pos (hO.2 ⟨by omega, by omega, by omega, by omega, by omega, by omega, by omega⟩)]
      · rw [if_neg h13, if_neg (fun h_ => by have h := hO.1 h_; omega)]
    · rw [if_neg h12]
      by_cases h13 : d = 0
      · rw [if_pos h13, if_pos (hO.2 ⟨by omega, by omega, by omega, by omega, by omega, by omega, by omega⟩)]
      · rw [if_neg h13, if_neg (fun h_ => by have h := hO.1 h_; omega)]
  · rw [if_neg h11, if_neg (fun h_ => by have h := hO.1 h_; omega)]
theorem r_l0 (l : List S43) (h1 : 1 ≤ l.length) (hl : l.length ≤ 5000) : ∀ (d k i : Nat), i + d = l.length → 2 * d + 1 ≤ k →
    ∃ t, colophonref27_Good.l0 k l (i : Int) = some t ∧ (t = true ↔ ((∀ j : Nat, i ≤ j → j < l.length → okI (rd_T43 l (j : Int))) ∧ isF (rd_T43 l ((l.length - 1 : Nat) : Int)))) := by
  intro d
  induction d with
  | zero =>
    intro k i hd hk
    obtain ⟨k, rfl⟩ : ∃ q, k = q + 1 := ⟨k - 1, by omega⟩
    rw [colophonref27_Good.l0, if_neg (by omega), last_idx l h1 hl, if_pos (by omega), if_pos (by omega), rforced_val, Option.bind_some]
    refine ⟨_, rfl, ?_⟩
    rw [decide_eq_true_eq]
    exact ⟨fun h => ⟨fun j h1 h2 => by omega, h⟩, fun h => h.2⟩
  | succ d ih =>
    intro k i hd hk
    obtain ⟨k, rfl⟩ : ∃ q, k = q + 2 := ⟨k - 2, by omega⟩
    rw [r_step k l i (by omega) hl]
    by_cases ho : okI (rd_T43 l (i : Int))
    · rw [if_pos ho]
      obtain ⟨t, e, ht⟩ := ih k (i + 1) (by omega) (by omega)
      refine ⟨t, e, ht.trans ⟨fun h => ⟨fun j h1 h2 => ?_, h.2⟩, fun h => ⟨fun j h1 h2 => h.1 j (by omega) h2, h.2⟩⟩⟩
      by_cases e : j = i
      · rw [e]; exact ho
      · exact h.1 j (by omega) h2
    · rw [if_neg ho]
      exact ⟨false, rfl, ⟨fun h => by simp at h, fun h => absurd (h.1 i (Nat.le_refl _) (by omega)) ho⟩⟩
theorem rgood_f (K : Nat) (hK : 20000 ≤ K) (l : List S43) (hl : l.length ≤ 5000) : colophonref27_Good.f K l = some (decide (goodP l)) := by
  have key : ∃ t, colophonref27_Good.f K l = some t ∧ (t = true ↔ goodP l) := by
    unfold colophonref27_Good.f
    obtain ⟨K, rfl⟩ : ∃ q, K = q + 1 := ⟨K - 1, by omega⟩
    by_cases h0 : l.length = 0
    · rw [if_pos (by omega), colophonref27_Good.j0, if_pos rfl]
      exact ⟨false, rfl, ⟨fun h => by simp at h, fun h => by have := h.1.1; omega⟩⟩
    · rw [if_neg (by omega), colophonref27_Good.j0]
      by_cases h1 : (l.length : Int) > 1024
      · rw [if_pos (decide_eq_true h1)]
        exact ⟨false, rfl, ⟨fun h => by simp at h, fun h => by have := h.1.2; omega⟩⟩
      · rw [if_neg (by rw [decide_eq_false h1]; decide), show (0 : Int) = ((0 : Nat) : Int) from rfl]
        obtain ⟨t, e, ht⟩ := r_l0 l (by omega) hl l.length K 0 (by omega) (by omega)
        exact ⟨t, e, ht.trans ⟨fun h => ⟨by omega, fun j hj => h.1 j (Nat.zero_le _) hj, h.2⟩, fun h => ⟨fun j _ hj => h.2.1 j hj, h.2.2⟩⟩⟩
  obtain ⟨t, e, ht⟩ := key
  rw [e]
  congr 1
  rw [Bool.eq_iff_iff, ht, decide_eq_true_iff]

/-! ### heights, first boxes, forced breaks -/
theorem rd_range (f : Nat → Int) (n j : Nat) (h : j ≤ n) : rd ((List.range (n + 1)).map f) (j : Int) = f j := by
  unfold rd
  rw [Int.toNat_natCast, List.getD_eq_getElem?_getD, List.getElem?_map, List.getElem?_range (by omega)]
  rfl
theorem hs_rd (l : List S43) (j : Nat) (h : j ≤ l.length) : rd (pages_ready.hs l) (j : Int) = pages_ready.H l j := rd_range _ _ _ h
theorem fs_rd (l : List S43) (j : Nat) (h : j ≤ l.length) : rd (pages_ready.fs l) (j : Int) = pages_ready.F (l.drop j) j := rd_range (fun j => pages_ready.F (l.drop j) j) _ _ h
theorem ms_rd (l : List S43) (j : Nat) (h : j ≤ l.length) : rd (pages_ready.ms l) (j : Int) = pages_ready.M (l.drop j) j := rd_range (fun j => pages_ready.M (l.drop j) j) _ _ h
theorem hs_len (l : List S43) : (pages_ready.hs l).length = l.length + 1 := by simp [pages_ready.hs]
theorem fs_len (l : List S43) : (pages_ready.fs l).length = l.length + 1 := by simp [pages_ready.fs]
theorem ms_len (l : List S43) : (pages_ready.ms l).length = l.length + 1 := by simp [pages_ready.ms]
theorem H_b (l : List S43) (hG : goodP l) : ∀ j : Nat, j ≤ l.length → 0 ≤ pages_ready.H l j ∧ pages_ready.H l j ≤ (j : Int) * 1073741824
  | 0, _ => by simp [pages_ready.H]
  | j + 1, h => by
    have ih := H_b l hG j (by omega)
    have ho := hG.2.1 j (by omega)
    have hn := hG.1.2
    unfold okI at ho
    rw [pages_ready.H_succ l j (by omega), w_in (by omega)]
    omega
theorem H_step (l : List S43) (hG : goodP l) (j : Nat) (h : j < l.length) : pages_ready.H l (j + 1) = pages_ready.H l j + (rd_T43 l (j : Int)).f1 := by
  have ih := H_b l hG j (by omega)
  have ho := hG.2.1 j (by omega)
  have hn := hG.1.2
  unfold okI at ho
  rw [pages_ready.H_succ l j h, w_in (by omega)]
theorem H_mono (l : List S43) (hG : goodP l) : ∀ (d j : Nat), j + d ≤ l.length → pages_ready.H l j ≤ pages_ready.H l (j + d)
  | 0, j, _ => Int.le_refl _
  | d + 1, j, h => by
    have ih := H_mono l hG d j (by omega)
    have ho := (hG.2.1 (j + d) (by omega)).1
    rw [show j + (d + 1) = (j + d) + 1 by omega, H_step l hG (j + d) (by omega)]
    omega
theorem F_spec (l : List S43) : ∀ (d j : Nat), j + d = l.length → ∃ f : Nat, pages_ready.F (l.drop j) j = (f : Int) ∧ j ≤ f ∧ f ≤ l.length ∧ (∀ k : Nat, j ≤ k → k < f → (rd_T43 l (k : Int)).f0 ≠ 1) ∧ (f < l.length → (rd_T43 l (f : Int)).f0 = 1)
  | 0, j, h => ⟨j, by rw [List.drop_eq_nil_of_le (by omega)]; rfl, Nat.le_refl _, by omega, fun k h1 h2 => by omega, fun h1 => by omega⟩
  | d + 1, j, h => by
    rw [pages_ready.F_step l j (by omega)]
    by_cases c : (rd_T43 l (j : Int)).f0 = 1
    · rw [if_pos c]
      exact ⟨j, rfl, Nat.le_refl _, by omega, fun k h1 h2 => by omega, fun _ => c⟩
    · rw [if_neg c]
      obtain ⟨f, e, h1, h2, h3, h4⟩ := F_spec l d (j + 1) (by omega)
      refine ⟨f, e, by omega, h2, fun k g1 g2 => ?_, h4⟩
      by_cases hk : k = j
      · rw [hk]; exact c
      · exact h3 k (by omega) g2
theorem M_spec (l : List S43) : ∀ (d j : Nat), j + d = l.length → ∃ f : Nat, pages_ready.M (l.drop j) j = (f : Int) ∧ j ≤ f ∧ f ≤ l.length ∧ (∀ k : Nat, j ≤ k → k < f → ¬ isF (rd_T43 l (k : Int))) ∧ (f < l.length → isF (rd_T43 l (f : Int)))
  | 0, j, h => ⟨j, by rw [List.drop_eq_nil_of_le (by omega)]; rfl, Nat.le_refl _, by omega, fun k h1 h2 => by omega, fun h1 => by omega⟩
  | d + 1, j, h => by
    rw [pages_ready.M_step l j (by omega)]
    by_cases c : (rd_T43 l (j : Int)).f0 = 3 ∧ (rd_T43 l (j : Int)).f3 = -10000
    · rw [if_pos c]
      exact ⟨j, rfl, Nat.le_refl _, by omega, fun k h1 h2 => by omega, fun _ => c⟩
    · rw [if_neg c]
      obtain ⟨f, e, h1, h2, h3, h4⟩ := M_spec l d (j + 1) (by omega)
      refine ⟨f, e, by omega, h2, fun k g1 g2 => ?_, h4⟩
      by_cases hk : k = j
      · rw [hk]; exact c
      · exact h3 k (by omega) g2
/-- The forced break from place i on, in a good list. -/
theorem M_good (l : List S43) (hG : goodP l) (j : Nat) (hj : j < l.length) : ∃ f : Nat, pages_ready.M (l.drop j) j = (f : Int) ∧ j ≤ f ∧ f < l.length ∧ (∀ k : Nat, j ≤ k → k < f → ¬ isF (rd_T43 l (k : Int))) ∧ isF (rd_T43 l (f : Int)) := by
  obtain ⟨f, e, h1, h2, h3, h4⟩ := M_spec l (l.length - j) j (by omega)
  have hlt : f < l.length := by
    by_cases c : f < l.length
    · exact c
    · exact absurd hG.2.2 (h3 (l.length - 1) (by omega) (by omega))
  exact ⟨f, e, h1, hlt, h3, h4 hlt⟩
/-! ### a page's height -/
def pg (l : List S43) (i b : Nat) : Int :=
  if (b : Int) ≤ pages_ready.F (l.drop i) i then 0 else pages_ready.H l b - pages_ready.H l (pages_ready.F (l.drop i) i).toNat + (rd_T43 l (pages_ready.F (l.drop i) i)).f2
theorem pg_b (l : List S43) (hG : goodP l) (i b : Nat) (hi : i ≤ l.length) (hb : b ≤ l.length) : 0 ≤ pg l i b ∧ pg l i b ≤ 1200000000000 := by
  obtain ⟨f, e, h1, h2, h3, h4⟩ := F_spec l (l.length - i) i (by omega)
  unfold pg
  rw [e]
  have hn := hG.1.2
  by_cases c : (b : Int) ≤ (f : Int)
  · rw [if_pos c]; omega
  · rw [if_neg c, Int.toNat_natCast]
    have m := H_mono l hG (b - f) f (by omega)
    rw [show f + (b - f) = b by omega] at m
    have hb1 := H_b l hG b hb
    have hf1 := H_b l hG f h2
    have ho := (hG.2.1 f (by omega)).2.1
    omega
theorem page_f (l : List S43) (hG : goodP l) (i b : Nat) (hi : i ≤ l.length) (hb : b ≤ l.length) :
    pages_column_page.f l (pages_ready.hs l) (pages_ready.fs l) (pages_ready.ms l) ((i : Int) - 1) (b : Int) = some (pg l i b) := by
  obtain ⟨f, e, h1, h2, h3, h4⟩ := F_spec l (l.length - i) i (by omega)
  have hn := hG.1.2
  have hw : wrap64 ((i : Int) - 1 + 1) = (i : Int) := by rw [w_in (by omega)]; omega
  have hf := fs_rd l i hi
  rw [e] at hf
  have hB := pg_b l hG i b hi hb
  unfold pages_column_page.f
  unfold pg at hB ⊢
  rw [e] at hB ⊢
  rw [hw, fs_len, hs_len, hf, if_pos (by omega), if_pos (by omega)]
  by_cases c : (b : Int) ≤ (f : Int)
  · rw [if_pos c, if_pos c]
  · have hb1 := H_b l hG b hb
    have hf1 := H_b l hG f h2
    rw [if_neg c, Int.toNat_natCast] at hB
    rw [if_neg c, if_neg c, Int.toNat_natCast]
    rw [if_pos (by omega), if_pos (by omega), if_pos (by omega), if_pos (by omega), if_pos (by omega), hs_rd l b hb, hs_rd l f h2, w_in (e := pages_ready.H l b - _) (by omega), w_in (by omega)]
/-! ### what a page costs -/
def costV (l : List S43) (i b : Nat) (h : Int) : Int × Bool :=
  if h - pg l i b < 0 ∨ pages_ready.M (l.drop i) i < (b : Int) then (0, false)
  else if isF (rd_T43 l (b : Int)) then (0, true)
  else ((Int.tdiv (100 * (h - pg l i b)) h) * (Int.tdiv (100 * (h - pg l i b)) h) + (rd_T43 l (b : Int)).f3, true)
theorem tdiv_b (s h : Int) (h1 : 1 ≤ h) (h0 : 0 ≤ s) (h2 : s ≤ h) : 0 ≤ Int.tdiv (100 * s) h ∧ Int.tdiv (100 * s) h ≤ 100 := by
  rw [Int.tdiv_eq_ediv_of_nonneg (by omega)]
  constructor
  · exact Int.ediv_nonneg (by omega) (by omega)
  · have : 100 * s / h < 101 := Int.ediv_lt_of_lt_mul (by omega) (by omega)
    omega
theorem sq_b (r : Int) (h : 0 ≤ r ∧ r ≤ 100) : 0 ≤ r * r ∧ r * r ≤ 10000 := by
  constructor
  · exact Int.mul_nonneg h.1 h.1
  · exact Int.mul_le_mul h.2 h.2 h.1 (by omega)
theorem costV_b (l : List S43) (hG : goodP l) (i b : Nat) (h : Int) (hi : i ≤ l.length) (hb : b < l.length) (hh : 1 ≤ h ∧ h ≤ 1073741824) : -10000 ≤ (costV l i b h).1 ∧ (costV l i b h).1 ≤ 20000 := by
  have ho := (hG.2.1 b hb).2.2.1
  have hB := pg_b l hG i b hi (by omega)
  unfold costV
  by_cases c : h - pg l i b < 0 ∨ pages_ready.M (l.drop i) i < (b : Int)
  · rw [if_pos c]; simp
  · rw [if_neg c]
    by_cases c2 : isF (rd_T43 l (b : Int))
    · rw [if_pos c2]; simp
    · rw [if_neg c2]
      have := sq_b _ (tdiv_b (h - pg l i b) h hh.1 (by omega) (by omega))
      dsimp only
      omega
theorem isF_dec (x : S43) : decide (x.f0 = 3 ∧ x.f3 = -10000) = decide (isF x) := by unfold isF; rfl
theorem cost_f (l : List S43) (hG : goodP l) (i b : Nat) (h : Int) (hi : i ≤ l.length) (hb : b < l.length) (hh : 1 ≤ h ∧ h ≤ 1073741824) :
    pages_column_cost.f l (pages_ready.hs l) (pages_ready.fs l) (pages_ready.ms l) ((i : Int) - 1) (b : Int) h = some (costV l i b h) := by
  have hn := hG.1.2
  have hB := pg_b l hG i b hi (by omega)
  have hw : wrap64 ((i : Int) - 1 + 1) = (i : Int) := by rw [w_in (by omega)]; omega
  have ho := (hG.2.1 b hb).2.2.1
  unfold pages_column_cost.f
  rw [page_f l hG i b hi (by omega), Option.bind_some, hw, ms_len, ms_rd l i hi, w_in (e := h - pg l i b) (by omega)]
  by_cases c1 : h - pg l i b < 0
  · have hV : costV l i b h = (0, false) := by unfold costV; rw [if_pos (.inl c1)]
    rw [if_pos c1, hV]
  · rw [if_neg c1, if_pos (by omega), if_pos (by omega)]
    by_cases c2 : pages_ready.M (l.drop i) i < (b : Int)
    · have hV : costV l i b h = (0, false) := by unfold costV; rw [if_pos (.inr c2)]
      rw [if_pos c2, hV]
    · rw [if_neg c2, if_pos (by omega), if_pos (by omega), pages_forced.val, Option.bind_some, isF_dec]
      have c12 : ¬ (h - pg l i b < 0 ∨ pages_ready.M (l.drop i) i < (b : Int)) := fun x => x.elim c1 c2
      by_cases c3 : isF (rd_T43 l (b : Int))
      · have hV : costV l i b h = (0, true) := by unfold costV; rw [if_neg c12, if_pos c3]
        rw [if_pos (decide_eq_true c3), hV]
      · have ht := tdiv_b (h - pg l i b) h hh.1 (by omega) (by omega)
        have hq := sq_b _ ht
        have hV : costV l i b h = ((Int.tdiv (100 * (h - pg l i b)) h) * (Int.tdiv (100 * (h - pg l i b)) h) + (rd_T43 l (b : Int)).f3, true) := by unfold costV; rw [if_neg c12, if_neg c3]
        rw [if_neg (by rw [decide_eq_true_eq]; exact c3), if_neg (by omega), hV, w_in (e := 100 * _) (by omega), w_in (e := Int.tdiv _ _) (by omega), w_in (e := _ * _) (by omega), w_in (by omega)]
/-! ### where a page may end -/
def legB (l : List S43) (i : Int) : Bool := decide (0 ≤ i ∧ i < (l.length : Int) ∧ (rd_T43 l i).f0 = 3 ∧ (rd_T43 l i).f3 < 10000)
theorem legal_f (l : List S43) (hs fs ms : List Int) (i : Int) : pages_column_legal.f l hs fs ms i = some (legB l i) := by
  unfold pages_column_legal.f legB
  by_cases c1 : 0 ≤ i
  · rw [if_pos c1]
    by_cases c2 : i < (l.length : Int)
    · rw [if_pos c2]
      by_cases c3 : (rd_T43 l i).f0 = 3
      · rw [if_pos c3]; simp [c1, c2, c3]
      · rw [if_neg c3]; simp [c3]
    · rw [if_neg c2]; simp [c2]
  · rw [if_neg c1]; simp [c1]
/-! ### legal: bounds -/
theorem leg_b (l : List S43) (i : Int) (h : legB l i = true) : 0 ≤ i ∧ i < (l.length : Int) := by
  unfold legB at h
  rw [decide_eq_true_eq] at h
  exact ⟨h.1, h.2.1⟩

/-! ### r: the reference's heights -/
theorem height_T (l : List S43) (hG : goodP l) (b : Nat) (hb : b ≤ l.length) : ∀ (d k j : Nat) (s : Int), j + d = b → d + 1 ≤ k → 0 ≤ s → s ≤ 2000000000 + (j : Int) * 1073741824 →
    colophonref27_height.l0 k l (b : Int) s true (j : Int) = some (s + (pages_ready.H l b - pages_ready.H l j)) := by
  have hn := hG.1.2
  intro d
  induction d with
  | zero =>
    intro k j s hd hk h0 h1
    obtain ⟨k, rfl⟩ : ∃ q, k = q + 1 := ⟨k - 1, by omega⟩
    obtain rfl : j = b := by omega
    rw [colophonref27_height.l0, if_neg (by omega)]
    congr 1
    omega
  | succ d ih =>
    intro k j s hd hk h0 h1
    obtain ⟨k, rfl⟩ : ∃ q, k = q + 1 := ⟨k - 1, by omega⟩
    have ho := (hG.2.1 j (by omega)).1
    have hw : wrap64 ((j : Int) + 1) = ((j + 1 : Nat) : Int) := by rw [w_in (by omega)]; omega
    have hs : wrap64 (s + (rd_T43 l (j : Int)).f1) = s + (rd_T43 l (j : Int)).f1 := w_in (by omega)
    have hS := H_step l hG j (by omega)
    have := ih k (j + 1) (s + (rd_T43 l (j : Int)).f1) (by omega) (by omega) (by omega) (by omega)
    rw [colophonref27_height.l0, if_pos (by omega), if_pos (by omega), if_pos (by omega), if_pos rfl, if_pos rfl, hw, hs, this, ite_self, hS]
    congr 1
    omega
theorem height_F (l : List S43) (hG : goodP l) (b : Nat) (hb : b ≤ l.length) : ∀ (d k j : Nat), b - j = d → j ≤ l.length → d + 1 ≤ k → colophonref27_height.l0 k l (b : Int) 0 false (j : Int) = some (pg l j b) := by
  have hn := hG.1.2
  intro d
  induction d with
  | zero =>
    intro k j hd hj hk
    obtain ⟨k, rfl⟩ : ∃ q, k = q + 1 := ⟨k - 1, by omega⟩
    obtain ⟨f, e, h1, h2, h3, h4⟩ := F_spec l (l.length - j) j (by omega)
    rw [colophonref27_height.l0, if_neg (by omega)]
    unfold pg
    rw [e, if_pos (by omega)]
  | succ d ih =>
    intro k j hd hj hk
    obtain ⟨k, rfl⟩ : ∃ q, k = q + 1 := ⟨k - 1, by omega⟩
    have ho := hG.2.1 j (by omega)
    have ho1 := ho.1
    have ho2 := ho.2.1
    have hw : wrap64 ((j : Int) + 1) = ((j + 1 : Nat) : Int) := by rw [w_in (by omega)]; omega
    have hS := H_step l hG j (by omega)
    rw [colophonref27_height.l0, if_pos (by omega), if_pos (by omega), if_pos (by omega), hw]
    by_cases c : (rd_T43 l (j : Int)).f0 = 1
    · have hs : wrap64 (0 + (rd_T43 l (j : Int)).f2) = (rd_T43 l (j : Int)).f2 := by rw [w_in (by omega)]; omega
      have hs2 : wrap64 ((rd_T43 l (j : Int)).f2 + (rd_T43 l (j : Int)).f1) = (rd_T43 l (j : Int)).f2 + (rd_T43 l (j : Int)).f1 := w_in (by omega)
      rw [if_pos c, if_neg (by decide), hs, hs2, height_T l hG b hb d k (j + 1) _ (by omega) (by omega) (by omega) (by omega)]
      unfold pg
      rw [pages_ready.F_step l j (by omega), if_pos c, if_neg (by omega), Int.toNat_natCast, hS]
      congr 1
      omega
    · rw [if_neg c, if_neg (by decide), ih k (j + 1) (by omega) (by omega) (by omega)]
      unfold pg
      rw [pages_ready.F_step l j (by omega), if_neg c]
theorem rheight_f (l : List S43) (hG : goodP l) (K : Nat) (hK : 20000 ≤ K) (i b : Nat) (hi : i ≤ l.length) (hb : b ≤ l.length) : colophonref27_height.f K l ((i : Int) - 1) (b : Int) = some (pg l i b) := by
  have hn := hG.1.2
  have hw : wrap64 ((i : Int) - 1 + 1) = (i : Int) := by rw [w_in (by omega)]; omega
  unfold colophonref27_height.f
  rw [hw]
  exact height_F l hG b hb (b - i) K i rfl hi (by omega)
/-! ### r: the reference's costs -/
theorem rcost_l0 (l : List S43) (hG : goodP l) (i b : Nat) (h : Int) (hi : i ≤ l.length) (hb : b < l.length) (hh : 1 ≤ h ∧ h ≤ 1073741824) : ∀ (d k j : Nat), b - j = d → i ≤ j → j ≤ l.length → d + 30000 ≤ k →
    colophonref27_cost.l0 k l ((i : Int) - 1) (b : Int) h (j : Int) = some (if pages_ready.M (l.drop j) j < (b : Int) then (0, false) else if h - pg l i b < 0 then (0, false)
      else if isF (rd_T43 l (b : Int)) then (0, true) else ((Int.tdiv (100 * (h - pg l i b)) h) * (Int.tdiv (100 * (h - pg l i b)) h) + (rd_T43 l (b : Int)).f3, true)) := by
  have hn := hG.1.2
  intro d
  induction d with
  | zero =>
    intro k j hd hij hj hk
    obtain ⟨k, rfl⟩ : ∃ q, k = q + 1 := ⟨k - 1, by omega⟩
    obtain ⟨f, e, h1, h2, h3, h4⟩ := M_spec l (l.length - j) j (by omega)
    have hB := pg_b l hG i b hi (by omega)
    have ho := (hG.2.1 b hb).2.2.1
    rw [e, if_neg (show ¬ (f : Int) < (b : Int) by omega), colophonref27_cost.l0, if_neg (by omega), rheight_f l hG k (by omega) i b hi (by omega), Option.bind_some]
    by_cases c1 : h - pg l i b < 0
    · rw [if_pos c1, if_pos (by omega)]
    · rw [if_neg c1, if_neg (by omega), if_pos (by omega), if_pos (by omega), rforced_val, Option.bind_some, isF_dec]
      by_cases c3 : isF (rd_T43 l (b : Int))
      · rw [if_pos (decide_eq_true c3), if_pos c3]
      · have ht := tdiv_b (h - pg l i b) h hh.1 (by omega) (by omega)
        have hq := sq_b _ ht
        rw [if_neg (by rw [decide_eq_true_eq]; exact c3), if_neg c3, if_neg (by omega), w_in (e := h - _) (by omega), w_in (e := 100 * _) (by omega), w_in (e := Int.tdiv _ _) (by omega), w_in (e := _ * _) (by omega), w_in (by omega)]
  | succ d ih =>
    intro k j hd hij hj hk
    obtain ⟨k, rfl⟩ : ∃ q, k = q + 1 := ⟨k - 1, by omega⟩
    have hw : wrap64 ((j : Int) + 1) = ((j + 1 : Nat) : Int) := by rw [w_in (by omega)]; omega
    rw [colophonref27_cost.l0, if_pos (by omega), if_pos (by omega), if_pos (by omega), rforced_val, Option.bind_some, hw, pages_ready.M_step l j (by omega)]
    by_cases c : (rd_T43 l (j : Int)).f0 = 3 ∧ (rd_T43 l (j : Int)).f3 = -10000
    · rw [if_pos (decide_eq_true c), if_pos c, if_pos (by omega)]
    · rw [if_neg (by rw [decide_eq_true_eq]; exact c), if_neg c, ih k (j + 1) (by omega) (by omega) (by omega) (by omega)]
theorem rcost_f (l : List S43) (hG : goodP l) (K : Nat) (hK : 40000 ≤ K) (i b : Nat) (h : Int) (hi : i ≤ l.length) (hb : b < l.length) (hh : 1 ≤ h ∧ h ≤ 1073741824) :
    colophonref27_cost.f K l ((i : Int) - 1) (b : Int) h = some (costV l i b h) := by
  have hn := hG.1.2
  have hw : wrap64 ((i : Int) - 1 + 1) = (i : Int) := by rw [w_in (by omega)]; omega
  unfold colophonref27_cost.f
  rw [hw, rcost_l0 l hG i b h hi hb hh (b - i) K i rfl (Nat.le_refl _) hi (by omega)]
  unfold costV
  congr 1
  by_cases c1 : h - pg l i b < 0
  · rw [if_pos c1, ite_self, if_pos (.inl c1)]
  · by_cases c2 : pages_ready.M (l.drop i) i < (b : Int)
    · rw [if_pos c2, if_pos (.inr c2)]
    · have c12 : ¬ (h - pg l i b < 0 ∨ pages_ready.M (l.drop i) i < (b : Int)) := fun x => x.elim c1 c2
      rw [if_neg c12, if_neg c2, if_neg c1]
/-! ### r: the reference's legal -/
theorem rlegal_f (l : List S43) (i : Int) : colophonref27_legal.f l i = some (legB l i) := by
  unfold colophonref27_legal.f legB
  by_cases c1 : 0 ≤ i
  · rw [if_pos c1]
    by_cases c2 : i < (l.length : Int)
    · rw [if_pos c2, if_pos c1]
      by_cases c3 : (rd_T43 l i).f0 = 3
      · rw [if_pos c3]; simp [c1, c2, c3]
      · rw [if_neg c3]; simp [c3]
    · rw [if_neg c2]; simp [c2]
  · rw [if_neg c1]; simp [c1]

/-! ### the way that costs least -/
/-- What goes on from place i over the break b: by the rows that stand. -/
def cand (X1 X2 : List Int) (l : List S43) (h : Int) (i b : Nat) : Option Int :=
  if legB l (b : Int) = true ∧ (costV l i b h).2 = true then (if b + 1 = l.length then some (costV l i b h).1 else if 0 < rd X1 ((b : Int) + 1) then some ((costV l i b h).1 + rd X2 ((b : Int) + 1)) else none) else none
theorem cand_cases {X1 X2 : List Int} {l : List S43} {h : Int} {i b : Nat} {v : Int} (hc : cand X1 X2 l h i b = some v) :
    legB l (b : Int) = true ∧ (costV l i b h).2 = true ∧ ((b + 1 = l.length ∧ v = (costV l i b h).1) ∨ (b + 1 < l.length ∧ 0 < rd X1 ((b : Int) + 1) ∧ v = (costV l i b h).1 + rd X2 ((b : Int) + 1))) := by
  unfold cand at hc
  by_cases c : legB l (b : Int) = true ∧ (costV l i b h).2 = true
  · rw [if_pos c] at hc
    refine ⟨c.1, c.2, ?_⟩
    have hb := leg_b l (b : Int) c.1
    by_cases c2 : b + 1 = l.length
    · rw [if_pos c2] at hc
      exact .inl ⟨c2, (Option.some.inj hc).symm⟩
    · rw [if_neg c2] at hc
      by_cases c3 : 0 < rd X1 ((b : Int) + 1)
      · rw [if_pos c3] at hc
        exact .inr ⟨by omega, c3, (Option.some.inj hc).symm⟩
      · rw [if_neg c3] at hc
        simp at hc
  · rw [if_neg c] at hc
    simp at hc
theorem cost_must {l : List S43} {i b : Nat} {h : Int} (hc : (costV l i b h).2 = true) : (b : Int) ≤ pages_ready.M (l.drop i) i ∧ pg l i b ≤ h := by
  unfold costV at hc
  by_cases c : h - pg l i b < 0 ∨ pages_ready.M (l.drop i) i < (b : Int)
  · rw [if_pos c] at hc; simp at hc
  · constructor <;> omega
/-- The best so far, over c more breaks from b on. -/
def fb (X1 X2 : List Int) (l : List S43) (h : Int) (i : Nat) : Nat → Nat → Int × Int → Int × Int
  | 0, _, v => v
  | c + 1, b, v => fb X1 X2 l h i c (b + 1) (match cand X1 X2 l h i b with | none => v | some s => if v.1 = 0 ∨ s < v.2 then ((b : Int) + 1, s) else v)
theorem rd_set (X : List Int) (i j : Nat) (v : Int) (h : i < X.length) : rd (X.set i v) (j : Int) = if j = i then v else rd X (j : Int) := pages_ready.rd_set X i j v h
theorem inner_f (l : List S43) (hG : goodP l) (h : Int) (hh : 1 ≤ h ∧ h ≤ 1073741824) (X1 X2 : List Int) (l1 : X1.length = l.length) (l2 : X2.length = l.length) (i : Nat) (hi : i < l.length)
    (hB : ∀ j : Nat, j < l.length → -40000000 ≤ rd X2 (j : Int) ∧ rd X2 (j : Int) ≤ 40000000) : ∀ (c b : Nat) (v : Int × Int), i ≤ b → b + c ≤ l.length →
    pages_Best.inner l h i c b (X1.set i v.1, X2.set i v.2) = some (X1.set i (fb X1 X2 l h i c b v).1, X2.set i (fb X1 X2 l h i c b v).2) := by
  have hn := hG.1.2
  intro c
  induction c with
  | zero => intro b v _ _; rfl
  | succ c ih =>
    intro b v hib hbc
    have hbn : b < l.length := by omega
    have e1 : ((b : Int) + 1) = ((b + 1 : Nat) : Int) := by omega
    rw [pages_Best.inner, legal_f, Option.bind_some, fb]
    by_cases hL : legB l (b : Int) = true
    · rw [if_neg (by rw [hL]; decide), cost_f l hG i b h (by omega) hbn hh, Option.bind_some]
      by_cases hO : (costV l i b h).2 = true
      · rw [if_neg (by rw [hO]; decide)]
        have hcb := costV_b l hG i b h (by omega) hbn hh
        have tkv : ∀ s : Int, pages_Best.tk (X1.set i v.1, X2.set i v.2) i (b : Int) s = (X1.set i (if v.1 = 0 ∨ s < v.2 then ((b : Int) + 1, s) else v).1, X2.set i (if v.1 = 0 ∨ s < v.2 then ((b : Int) + 1, s) else v).2) := by
          intro s
          unfold pages_Best.tk
          dsimp only
          rw [rd_set X1 i i _ (by omega), rd_set X2 i i _ (by omega), if_pos rfl, if_pos rfl, w_in (e := (b : Int) + 1) (by omega)]
          by_cases c1 : v.1 = 0 ∨ s < v.2
          · rw [if_pos c1, if_pos c1, List.set_set, List.set_set]
          · rw [if_neg c1, if_neg c1]
        by_cases hl : b + 1 = l.length
        · have hc : cand X1 X2 l h i b = some (costV l i b h).1 := by unfold cand; rw [if_pos ⟨hL, hO⟩, if_pos hl]
          rw [if_pos (show (b : Int) = (l.length : Int) - 1 by omega), tkv, hc, ih (b + 1) _ (by omega) (by omega)]
        · have hr1 : rd (X1.set i v.1) ((b : Int) + 1) = rd X1 ((b : Int) + 1) := by rw [e1, rd_set X1 i (b + 1) _ (by omega), if_neg (by omega)]
          have hr2 : rd (X2.set i v.2) ((b : Int) + 1) = rd X2 ((b : Int) + 1) := by rw [e1, rd_set X2 i (b + 1) _ (by omega), if_neg (by omega)]
          rw [if_neg (show ¬ (b : Int) = (l.length : Int) - 1 by omega), if_pos (show b + 1 < l.length by omega)]
          dsimp only
          rw [hr1, hr2]
          by_cases hz : 0 < rd X1 ((b : Int) + 1)
          · have hc : cand X1 X2 l h i b = some ((costV l i b h).1 + rd X2 ((b : Int) + 1)) := by unfold cand; rw [if_pos ⟨hL, hO⟩, if_neg hl, if_pos hz]
            have hb2 := hB (b + 1) (by omega)
            rw [← e1] at hb2
            rw [if_pos hz, w_in (e := (costV l i b h).1 + _) (by omega), tkv, hc, ih (b + 1) _ (by omega) (by omega)]
          · have hc : cand X1 X2 l h i b = none := by unfold cand; rw [if_pos ⟨hL, hO⟩, if_neg hl, if_neg hz]
            rw [if_neg hz, hc, ih (b + 1) _ (by omega) (by omega)]
      · have hc : cand X1 X2 l h i b = none := by unfold cand; rw [if_neg (fun x => hO x.2)]
        rw [if_pos (by simpa using hO), hc, ih (b + 1) _ (by omega) (by omega)]
    · have hc : cand X1 X2 l h i b = none := by unfold cand; rw [if_neg (fun x => hL x.1)]
      rw [if_pos (by simpa using hL), hc, ih (b + 1) _ (by omega) (by omega)]
/-- What fb comes to. -/
theorem fb_spec (X1 X2 : List Int) (l : List S43) (h : Int) (i : Nat) : ∀ (c b : Nat) (v : Int × Int),
    (v.1 = 0 ∨ ∃ b' : Nat, i ≤ b' ∧ b' < b ∧ v.1 = (b' : Int) + 1 ∧ cand X1 X2 l h i b' = some v.2) → (∀ b' : Nat, i ≤ b' → b' < b → ∀ s, cand X1 X2 l h i b' = some s → v.1 ≠ 0 ∧ v.2 ≤ s) → i ≤ b →
    ((fb X1 X2 l h i c b v).1 = 0 ∧ (fb X1 X2 l h i c b v).2 = v.2 ∧ v.1 = 0 ∨ ∃ b' : Nat, i ≤ b' ∧ b' < b + c ∧ (fb X1 X2 l h i c b v).1 = (b' : Int) + 1 ∧ cand X1 X2 l h i b' = some (fb X1 X2 l h i c b v).2) ∧
    (∀ b' : Nat, i ≤ b' → b' < b + c → ∀ s, cand X1 X2 l h i b' = some s → (fb X1 X2 l h i c b v).1 ≠ 0 ∧ (fb X1 X2 l h i c b v).2 ≤ s) := by
  intro c
  induction c with
  | zero =>
    intro b v h1 h2 _
    refine ⟨?_, h2⟩
    rcases h1 with h1 | ⟨b', a1, a2, a3, a4⟩
    · exact .inl ⟨h1, rfl, h1⟩
    · exact .inr ⟨b', a1, by omega, a3, a4⟩
  | succ c ih =>
    intro b v h1 h2 hib
    rw [fb]
    cases hc : cand X1 X2 l h i b with
    | none =>
      dsimp only
      obtain ⟨g1, g2⟩ := ih (b + 1) v (by
        rcases h1 with h1 | ⟨b', a1, a2, a3, a4⟩
        · exact .inl h1
        · exact .inr ⟨b', a1, by omega, a3, a4⟩) (fun b' p1 p2 s hs => by
          by_cases e : b' = b
          · rw [e, hc] at hs; simp at hs
          · exact h2 b' p1 (by omega) s hs) (by omega)
      refine ⟨?_, fun b' p1 p2 s hs => g2 b' p1 (by omega) s hs⟩
      rcases g1 with g1 | ⟨b', a1, a2, a3, a4⟩
      · exact .inl g1
      · exact .inr ⟨b', a1, by omega, a3, a4⟩
    | some s0 =>
      dsimp only
      by_cases ct : v.1 = 0 ∨ s0 < v.2
      · rw [if_pos ct]
        obtain ⟨g1, g2⟩ := ih (b + 1) ((b : Int) + 1, s0) (.inr ⟨b, hib, by omega, rfl, hc⟩) (fun b' p1 p2 s hs => by
          dsimp only
          by_cases e : b' = b
          · rw [e, hc] at hs
            have := Option.some.inj hs
            exact ⟨by omega, by omega⟩
          · obtain ⟨q1, q2⟩ := h2 b' p1 (by omega) s hs
            rcases ct with ct | ct
            · exact absurd ct q1
            · exact ⟨by omega, by omega⟩) (by omega)
        refine ⟨?_, fun b' p1 p2 s hs => g2 b' p1 (by omega) s hs⟩
        rcases g1 with ⟨_, _, g1⟩ | ⟨b', a1, a2, a3, a4⟩
        · exfalso
          dsimp only at g1
          omega
        · exact .inr ⟨b', a1, by omega, a3, a4⟩
      · rw [if_neg ct]
        obtain ⟨g1, g2⟩ := ih (b + 1) v (by
          rcases h1 with h1 | ⟨b', a1, a2, a3, a4⟩
          · exact .inl h1
          · exact .inr ⟨b', a1, by omega, a3, a4⟩) (fun b' p1 p2 s hs => by
            by_cases e : b' = b
            · rw [e, hc] at hs
              have := Option.some.inj hs
              exact ⟨fun z => ct (.inl z), by
                have : ¬ s0 < v.2 := fun z => ct (.inr z)
                omega⟩
            · exact h2 b' p1 (by omega) s hs) (by omega)
        refine ⟨?_, fun b' p1 p2 s hs => g2 b' p1 (by omega) s hs⟩
        rcases g1 with g1 | ⟨b', a1, a2, a3, a4⟩
        · exact .inl g1
        · exact .inr ⟨b', a1, by omega, a3, a4⟩
/-- From where one may go on. -/
def elig (l : List S43) (i : Nat) : Prop := i = 0 ∨ legB l ((i : Int) - 1) = true
instance (l : List S43) (i : Nat) : Decidable (elig l i) := by unfold elig; infer_instance
/-- Row i is right. -/
def Rel (X1 X2 : List Int) (l : List S43) (h : Int) (i : Nat) : Prop :=
  (rd X1 (i : Int) = 0 ∨ ∃ b : Nat, i ≤ b ∧ b < l.length ∧ rd X1 (i : Int) = (b : Int) + 1 ∧ cand X1 X2 l h i b = some (rd X2 (i : Int))) ∧
  (∀ b : Nat, i ≤ b → ∀ s, cand X1 X2 l h i b = some s → rd X1 (i : Int) ≠ 0 ∧ rd X2 (i : Int) ≤ s)
/-- The rows from place i on are right, those ahead are 0. -/
structure DP (X1 X2 : List Int) (l : List S43) (h : Int) (i : Nat) : Prop where
  l1 : X1.length = l.length
  l2 : X2.length = l.length
  done : ∀ j : Nat, i ≤ j → j < l.length → elig l j → Rel X1 X2 l h j
  none : ∀ j : Nat, i ≤ j → j < l.length → ¬ elig l j → rd X1 (j : Int) = 0
  zero : ∀ j : Nat, j < i → rd X1 (j : Int) = 0 ∧ rd X2 (j : Int) = 0
  pos : ∀ j : Nat, j < l.length → 0 ≤ rd X1 (j : Int)
  bnd : ∀ j : Nat, j < l.length → -20000 * ((l.length : Int) - (j : Int)) ≤ rd X2 (j : Int) ∧ rd X2 (j : Int) ≤ 20000 * ((l.length : Int) - (j : Int))
  nil : ∀ j : Nat, j < l.length → rd X1 (j : Int) = 0 → rd X2 (j : Int) = 0
theorem cand_far {X1 X2 Y1 Y2 : List Int} {l : List S43} {h : Int} {i b : Nat} (h1 : rd X1 ((b : Int) + 1) = rd Y1 ((b : Int) + 1)) (h2 : rd X2 ((b : Int) + 1) = rd Y2 ((b : Int) + 1)) : cand X1 X2 l h i b = cand Y1 Y2 l h i b := by
  unfold cand
  rw [h1, h2]
theorem dp_step (l : List S43) (hG : goodP l) (h : Int) (hh : 1 ≤ h ∧ h ≤ 1073741824) (i : Nat) (hi : i < l.length) (X1 X2 : List Int) (hD : DP X1 X2 l h (i + 1)) :
    ∃ Y1 Y2, DP Y1 Y2 l h i ∧ pages_Best.outer l h (i + 1) (X1, X2) = pages_Best.outer l h i (Y1, Y2) ∧
      ((elig l i ∧ ∃ mi : Nat, pages_ready.M (l.drop i) i = (mi : Int) ∧ Y1 = X1.set i (fb X1 X2 l h i (mi + 1 - i) i (0, 0)).1 ∧ Y2 = X2.set i (fb X1 X2 l h i (mi + 1 - i) i (0, 0)).2) ∨ (¬ elig l i ∧ Y1 = X1 ∧ Y2 = X2)) := by
  have hn := hG.1.2
  obtain ⟨l1, l2, hdone, hnone, hzero, hpos, hbnd, hnil⟩ := hD
  rw [pages_Best.outer]
  have hleg : (if 1 ≤ i then pages_column_legal.f l (pages_ready.hs l) (pages_ready.fs l) (pages_ready.ms l) ((i : Int) - 1) else some true) = some (decide (elig l i)) := by
    by_cases c : 1 ≤ i
    · rw [if_pos c, legal_f]
      congr 1
      rw [Bool.eq_iff_iff, decide_eq_true_iff]
      unfold elig
      constructor
      · intro x; exact .inr x
      · intro x; rcases x with x | x
        · omega
        · exact x
    · rw [if_neg c]
      congr 1
      symm
      rw [decide_eq_true_iff]
      exact .inl (by omega)
  rw [hleg, Option.bind_some]
  by_cases he : elig l i
  · rw [decide_eq_true he, if_neg (by decide)]
    obtain ⟨mi, e, m1, m2, m3, m4⟩ := M_good l hG i hi
    have hz := hzero i (by omega)
    have hms : (rd (pages_ready.ms l) (i : Int) + 1 - (i : Int)).toNat = mi + 1 - i := by rw [ms_rd l i (by omega), e]; omega
    have s1 : X1.set i 0 = X1 := by
      apply List.ext_getElem
      · simp
      · intro k p1 p2
        rw [List.getElem_set]
        by_cases ek : i = k
        · subst ek
          rw [if_pos rfl]
          have := hz.1
          simp [rd, List.getD_eq_getElem?_getD, p2] at this
          exact this.symm
        · rw [if_neg ek]
    have s2 : X2.set i 0 = X2 := by
      apply List.ext_getElem
      · simp
      · intro k p1 p2
        rw [List.getElem_set]
        by_cases ek : i = k
        · subst ek
          rw [if_pos rfl]
          have := hz.2
          simp [rd, List.getD_eq_getElem?_getD, p2] at this
          exact this.symm
        · rw [if_neg ek]
    have hin := inner_f l hG h hh X1 X2 l1 l2 i hi (fun j hj => by have := hbnd j hj; omega) (mi + 1 - i) i (0, 0) (Nat.le_refl _) (by omega)
    dsimp only at hin
    rw [s1, s2] at hin
    rw [hms, hin, Option.bind_some]
    obtain ⟨g1, g2⟩ := fb_spec X1 X2 l h i (mi + 1 - i) i (0, 0) (.inl rfl) (fun b' p1 p2 => by omega) (Nat.le_refl _)
    generalize hv : fb X1 X2 l h i (mi + 1 - i) i (0, 0) = v at g1 g2
    refine ⟨X1.set i v.1, X2.set i v.2, ?_, rfl, .inl ⟨he, mi, e, by rw [hv], by rw [hv]⟩⟩
    have far : ∀ i' b : Nat, i ≤ b → cand (X1.set i v.1) (X2.set i v.2) l h i' b = cand X1 X2 l h i' b := by
      intro i' b hb
      refine cand_far ?_ ?_
      · rw [show (b : Int) + 1 = ((b + 1 : Nat) : Int) by omega, rd_set X1 i (b + 1) _ (by omega), if_neg (by omega)]
      · rw [show (b : Int) + 1 = ((b + 1 : Nat) : Int) by omega, rd_set X2 i (b + 1) _ (by omega), if_neg (by omega)]
    have r1 : ∀ j : Nat, rd (X1.set i v.1) (j : Int) = if j = i then v.1 else rd X1 (j : Int) := fun j => rd_set X1 i j _ (by omega)
    have r2 : ∀ j : Nat, rd (X2.set i v.2) (j : Int) = if j = i then v.2 else rd X2 (j : Int) := fun j => rd_set X2 i j _ (by omega)
    refine ⟨by rw [List.length_set]; exact l1, by rw [List.length_set]; exact l2, ?_, ?_, ?_, ?_, ?_, ?_⟩
    · intro j h1 h2 h3
      by_cases ej : j = i
      · subst ej
        unfold Rel
        rw [r1, r2, if_pos rfl, if_pos rfl]
        refine ⟨?_, fun b p1 s hs => ?_⟩
        · rcases g1 with ⟨g1, _, _⟩ | ⟨b', a1, a2, a3, a4⟩
          · exact .inl g1
          · exact .inr ⟨b', a1, by omega, a3, by rw [far j b' a1]; exact a4⟩
        · rw [far j b p1] at hs
          have hb := cost_must (cand_cases hs).2.1
          rw [e] at hb
          exact g2 b p1 (by omega) s hs
      · obtain ⟨q1, q2⟩ := hdone j (by omega) h2 h3
        unfold Rel
        rw [r1, r2, if_neg ej, if_neg ej]
        refine ⟨?_, fun b p1 s hs => ?_⟩
        · rcases q1 with q1 | ⟨b, a1, a2, a3, a4⟩
          · exact .inl q1
          · exact .inr ⟨b, a1, a2, a3, by rw [far j b (by omega)]; exact a4⟩
        · rw [far j b (by omega)] at hs
          exact q2 b p1 s hs
    · intro j h1 h2 h3
      by_cases ej : j = i
      · subst ej; exact absurd he h3
      · rw [r1, if_neg ej]; exact hnone j (by omega) h2 h3
    · intro j hj
      rw [r1, r2, if_neg (by omega), if_neg (by omega)]
      exact hzero j (by omega)
    · intro j hj
      rw [r1]
      by_cases ej : j = i
      · rw [if_pos ej]
        rcases g1 with ⟨g1, _, _⟩ | ⟨b', a1, a2, a3, a4⟩ <;> omega
      · rw [if_neg ej]; exact hpos j hj
    · intro j hj
      rw [r2]
      by_cases ej : j = i
      · rw [if_pos ej]
        rcases g1 with ⟨_, g1, _⟩ | ⟨b', a1, a2, a3, a4⟩
        · dsimp only at g1
          omega
        · obtain ⟨q1, q2, q3⟩ := cand_cases a4
          have hcb := costV_b l hG i b' h (by omega) (by omega) hh
          rcases q3 with ⟨q3, q4⟩ | ⟨q3, q4, q5⟩
          · omega
          · have := hbnd (b' + 1) (by omega)
            rw [show ((b' + 1 : Nat) : Int) = (b' : Int) + 1 by omega] at this
            omega
      · rw [if_neg ej]; exact hbnd j hj
    · intro j hj
      rw [r1, r2]
      by_cases ej : j = i
      · rw [if_pos ej, if_pos ej]
        rcases g1 with ⟨_, g1, _⟩ | ⟨b', a1, a2, a3, a4⟩
        · intro _; exact g1
        · intro z; omega
      · rw [if_neg ej, if_neg ej]; exact hnil j hj
  · rw [decide_eq_false he, if_pos rfl]
    refine ⟨X1, X2, ⟨l1, l2, ?_, ?_, fun j hj => hzero j (by omega), hpos, hbnd, hnil⟩, rfl, .inr ⟨he, rfl, rfl⟩⟩
    · intro j h1 h2 h3
      by_cases ej : j = i
      · subst ej; exact absurd h3 he
      · exact hdone j (by omega) h2 h3
    · intro j h1 h2 h3
      by_cases ej : j = i
      · subst ej; exact (hzero j (by omega)).1
      · exact hnone j (by omega) h2 h3
theorem dp_all (l : List S43) (hG : goodP l) (h : Int) (hh : 1 ≤ h ∧ h ≤ 1073741824) : ∀ (i : Nat) (X1 X2 : List Int), i ≤ l.length → DP X1 X2 l h i → ∃ Y1 Y2, DP Y1 Y2 l h 0 ∧ pages_Best.outer l h i (X1, X2) = some (Y1, Y2)
  | 0, X1, X2, _, hD => ⟨X1, X2, hD, rfl⟩
  | i + 1, X1, X2, hi, hD => by
    obtain ⟨Y1, Y2, h1, h2, _⟩ := dp_step l hG h hh i (by omega) X1 X2 hD
    rw [h2]
    exact dp_all l hG h hh i Y1 Y2 (by omega) h1
theorem zeros_rd (n j : Nat) : rd (Pg.zeros n) (j : Int) = 0 := by
  unfold rd Pg.zeros
  rw [List.getD_eq_getElem?_getD, List.getElem?_replicate]
  split <;> rfl
theorem dp (l : List S43) (hG : goodP l) (h : Int) (hh : 1 ≤ h ∧ h ≤ 1073741824) : ∃ Y1 Y2, DP Y1 Y2 l h 0 ∧ pages_Best.outer l h l.length (Pg.zeros l.length, Pg.zeros l.length) = some (Y1, Y2) := by
  refine dp_all l hG h hh l.length _ _ (Nat.le_refl _) ⟨by simp [Pg.zeros], by simp [Pg.zeros], fun j h1 h2 => by omega, fun j h1 h2 => by omega, fun j _ => ⟨zeros_rd _ _, zeros_rd _ _⟩, fun j _ => by rw [zeros_rd]; exact Int.le_refl _, fun j hj => by rw [zeros_rd]; omega, fun j _ _ => zeros_rd _ _⟩

/-! ### ways -/
/-- A way from place i on to the end. -/
def way (l : List S43) (h : Int) : Nat → List Int → Prop
  | i, [] => i = l.length
  | i, b :: r => ∃ j : Nat, b = (j : Int) ∧ i ≤ j ∧ legB l b = true ∧ (costV l i j h).2 = true ∧ way l h (j + 1) r
def wcost (l : List S43) (h : Int) : Nat → List Int → Int
  | _, [] => 0
  | i, b :: r => (costV l i b.toNat h).1 + wcost l h (b.toNat + 1) r
theorem wcost_cons (l : List S43) (h : Int) (i j : Nat) (r : List Int) : wcost l h i ((j : Int) :: r) = (costV l i j h).1 + wcost l h (j + 1) r := by rw [wcost, Int.toNat_natCast]
theorem way_more (l : List S43) (h h' : Int) (hh : h ≤ h') (h1 : 1 ≤ h) : ∀ (p : List Int) (i : Nat), way l h i p → way l h' i p
  | [], i, hw => hw
  | b :: r, i, hw => by
    obtain ⟨j, e, h2, h3, h4, h5⟩ := hw
    refine ⟨j, e, h2, h3, ?_, way_more l h h' hh h1 r (j + 1) h5⟩
    obtain ⟨c1, c2⟩ := cost_must h4
    unfold costV
    rw [if_neg (by intro x; rcases x with x | x <;> omega)]
    split <;> rfl
theorem elig_next (l : List S43) (j : Nat) (h : legB l (j : Int) = true) : elig l (j + 1) := .inr (by rw [show ((j + 1 : Nat) : Int) - 1 = (j : Int) by omega]; exact h)
/-- No way is cheaper than what the row says. -/
theorem way_least (l : List S43) (hG : goodP l) (h : Int) (Y1 Y2 : List Int) (hD : DP Y1 Y2 l h 0) : ∀ (p : List Int) (i : Nat), i < l.length → elig l i → way l h i p → rd Y1 (i : Int) ≠ 0 ∧ rd Y2 (i : Int) ≤ wcost l h i p
  | [], i, hi, _, hw => by
    have : i = l.length := hw
    omega
  | b :: r, i, hi, he, hw => by
    obtain ⟨j, rfl, h2, h3, h4, h5⟩ := hw
    have hj := leg_b l (j : Int) h3
    obtain ⟨_, q2⟩ := hD.done i (Nat.zero_le _) hi he
    unfold wcost
    rw [Int.toNat_natCast]
    by_cases hl : j + 1 = l.length
    · have hr : r = [] := by
        cases r with
        | nil => rfl
        | cons b' r' =>
          obtain ⟨j', e', g2, g3, _, _⟩ := h5
          have := leg_b l b' g3
          omega
      subst hr
      have hc : cand Y1 Y2 l h i j = some (costV l i j h).1 := by unfold cand; rw [if_pos ⟨h3, h4⟩, if_pos hl]
      have := q2 j h2 _ hc
      unfold wcost
      exact ⟨this.1, by omega⟩
    · obtain ⟨g1, g2⟩ := way_least l hG h Y1 Y2 hD r (j + 1) (by omega) (elig_next l j h3) h5
      have hp := hD.pos (j + 1) (by omega)
      rw [show ((j + 1 : Nat) : Int) = (j : Int) + 1 by omega] at g1 g2 hp
      have hc : cand Y1 Y2 l h i j = some ((costV l i j h).1 + rd Y2 ((j : Int) + 1)) := by unfold cand; rw [if_pos ⟨h3, h4⟩, if_neg hl, if_pos (by omega)]
      have := q2 j h2 _ hc
      exact ⟨this.1, by omega⟩
/-- The way that the rows say. -/
theorem way_path (l : List S43) (hG : goodP l) (h : Int) (Y1 Y2 : List Int) (hD : DP Y1 Y2 l h 0) : ∀ (d i : Nat), l.length - i = d → i < l.length → elig l i → rd Y1 (i : Int) ≠ 0 →
    ∃ p, way l h i p ∧ p ≠ [] ∧ wcost l h i p = rd Y2 (i : Int) ∧ p.length ≤ d ∧ ∀ (k : Nat) (out : List Int), d + 1 ≤ k → pages_Best.path Y1 ((l.length : Int) - 1) k ((i : Int) - 1) out = some (out ++ p) := by
  have hn := hG.1.2
  intro d
  induction d using Nat.strongRecOn with
  | ind d ih =>
    intro i hd hi he hz
    obtain ⟨q1, _⟩ := hD.done i (Nat.zero_le _) hi he
    rcases q1 with q1 | ⟨b, a1, a2, a3, a4⟩
    · exact absurd q1 hz
    obtain ⟨c1, c2, c3⟩ := cand_cases a4
    have hw1 : wrap64 ((i : Int) - 1 + 1) = (i : Int) := by rw [w_in (by omega)]; omega
    have hw2 : wrap64 ((b : Int) + 1 - 1) = (b : Int) := by rw [w_in (by omega)]; omega
    have step : ∀ (k : Nat) (out : List Int), pages_Best.path Y1 ((l.length : Int) - 1) (k + 1) ((i : Int) - 1) out = pages_Best.path Y1 ((l.length : Int) - 1) k (b : Int) (out ++ [(b : Int)]) := by
      intro k out
      rw [pages_Best.path, if_pos (by omega), hw1, if_pos (by omega), if_pos (by rw [hD.l1]; omega), a3, hw2]
    rcases c3 with ⟨c3, c4⟩ | ⟨c3, c4, c5⟩
    · refine ⟨[(b : Int)], ⟨b, rfl, a1, c1, c2, c3⟩, by simp, ?_, by simp; omega, ?_⟩
      · unfold wcost wcost
        rw [Int.toNat_natCast, c4]
        omega
      · intro k out hk
        obtain ⟨k, rfl⟩ : ∃ q, k = q + 2 := ⟨k - 2, by omega⟩
        rw [step, pages_Best.path, if_neg (by omega)]
    · rw [show (b : Int) + 1 = ((b + 1 : Nat) : Int) by omega] at c4 c5
      obtain ⟨p, p1, p2, p3, p4, p5⟩ := ih (l.length - (b + 1)) (by omega) (b + 1) rfl c3 (elig_next l b c1) (by omega)
      refine ⟨(b : Int) :: p, ⟨b, rfl, a1, c1, c2, p1⟩, by simp, ?_, by simp; omega, ?_⟩
      · unfold wcost
        rw [Int.toNat_natCast, p3, c5]
      · intro k out hk
        obtain ⟨k, rfl⟩ : ∃ q, k = q + 1 := ⟨k - 1, by omega⟩
        have := p5 k (out ++ [(b : Int)]) (by omega)
        rw [show ((b + 1 : Nat) : Int) - 1 = (b : Int) by omega] at this
        rw [step, this, List.append_assoc]
        rfl
theorem wcost_b (l : List S43) (hG : goodP l) (h : Int) (hh : 1 ≤ h ∧ h ≤ 1073741824) : ∀ (p : List Int) (i : Nat), i ≤ l.length → way l h i p → -10000 * ((l.length : Int) - (i : Int)) ≤ wcost l h i p ∧ wcost l h i p ≤ 20000 * ((l.length : Int) - (i : Int))
  | [], i, hi, _ => by unfold wcost; omega
  | b :: r, i, hi, hw => by
    obtain ⟨j, rfl, h2, h3, h4, h5⟩ := hw
    have hj := leg_b l (j : Int) h3
    have hc := costV_b l hG i j h hi (by omega) hh
    have ih := wcost_b l hG h hh r (j + 1) (by omega) h5
    unfold wcost
    rw [Int.toNat_natCast]
    omega
/-- What Best hands back. -/
theorem best_f (K : Nat) (hK : 50000 ≤ K) (l : List S43) (hl : l.length ≤ 5000) (h : Int) :
    (¬ (goodP l ∧ 1 ≤ h ∧ h ≤ 1073741824) ∧ pages_Best.f K l h = some ([], 0, false)) ∨
    ((goodP l ∧ 1 ≤ h ∧ h ≤ 1073741824) ∧ ((pages_Best.f K l h = some ([], 0, false) ∧ ∀ p, ¬ way l h 0 p) ∨
      ∃ p, pages_Best.f K l h = some (p, wcost l h 0 p, true) ∧ way l h 0 p ∧ p ≠ [] ∧ p.length ≤ l.length ∧ ∀ p', way l h 0 p' → wcost l h 0 p ≤ wcost l h 0 p')) := by
  unfold pages_Best.f
  rw [good_f K (by omega) l hl, Option.bind_some]
  by_cases hG : goodP l
  · rw [decide_eq_true hG, if_neg (by decide), room_f, Option.bind_some]
    by_cases hh : 1 ≤ h ∧ h ≤ 1073741824
    · right
      refine ⟨⟨hG, hh⟩, ?_⟩
      obtain ⟨Y1, Y2, hD, hY⟩ := dp l hG h hh
      have hn := hG.1
      rw [decide_eq_true hh, if_neg (by decide), if_pos hG.1, hY, Option.bind_some]
      dsimp only
      by_cases hz : rd Y1 0 = 0
      · left
        rw [if_pos hz]
        refine ⟨rfl, fun p hp => ?_⟩
        exact (way_least l hG h Y1 Y2 hD p 0 (by omega) (.inl rfl) hp).1 hz
      · right
        obtain ⟨p, p1, p2, p3, p4, p5⟩ := way_path l hG h Y1 Y2 hD l.length 0 (by omega) (by omega) (.inl rfl) hz
        have := p5 (l.length + 1) [] (Nat.le_refl _)
        have e0 : (((0 : Nat) : Int) - 1) = -1 := by omega
        rw [e0, List.nil_append] at this
        rw [if_neg hz, this, Option.bind_some]
        refine ⟨p, by rw [p3]; rfl, p1, p2, by omega, fun p' hp' => ?_⟩
        rw [p3]
        exact (way_least l hG h Y1 Y2 hD p' 0 (by omega) (.inl rfl) hp').2
    · left
      rw [decide_eq_false hh, if_pos rfl]
      exact ⟨fun x => hh x.2, rfl⟩
  · left
    rw [decide_eq_false hG, if_pos rfl]
    exact ⟨fun x => hG x.1, rfl⟩

end Go.Proofs.Ytogjeababinnlaa.PurePagesAll
