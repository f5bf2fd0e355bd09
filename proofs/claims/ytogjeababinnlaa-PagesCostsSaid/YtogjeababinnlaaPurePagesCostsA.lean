/- For PagesCosts: which lists are good. -/
import Derived.Test.YtogjeababinnlaaPPagesCostsx7
namespace Go.Proofs.Ytogjeababinnlaa.PurePagesCosts
open Go.RowKit Go.Proofs.Ytogjeababinnlaa Go.Proofs.Ytogjeababinnlaa.PPagesCosts Go.Proofs.YtogjeababinnlaaW.PrintWords Go.Proofs.YtogjeababinnlaaW.PrintLast Go.Proofs.YtogjeababinnlaaW.PrintMore
theorem w_in {e : Int} (h : -9223372036854775808 ≤ e ∧ e ≤ 9223372036854775807) : wrap64 e = e := by unfold wrap64; omega
theorem wakes_f : colophonlaw27_wakes.f 60 = some true := by decide +kernel
theorem wakes_k (k : Nat) (hk : 60 ≤ k) : colophonlaw27_wakes.f k = some true := at_rounds (g := fun k => colophonlaw27_wakes.f k) colophonlaw27_wakes.mono hk wakes_f
/-! ### which lists are good -/
def okI (x : S43) : Prop := (0 ≤ x.f1 ∧ x.f1 ≤ 1073741824) ∧ (0 ≤ x.f2 ∧ x.f2 ≤ 1073741824) ∧ (-10000 ≤ x.f3 ∧ x.f3 ≤ 10000) ∧ (1 ≤ x.f0 ∧ x.f0 ≤ 3) ∧ (x.f0 ≠ 1 → x.f2 = 0) ∧ (x.f0 = 3 → x.f1 = 0) ∧ (x.f0 ≠ 3 → x.f3 = 0)
instance (x : S43) : Decidable (okI x) := by unfold okI; infer_instance
def isF (x : S43) : Prop := x.f0 = 3 ∧ x.f3 = -10000
instance (x : S43) : Decidable (isF x) := by unfold isF; infer_instance
def goodP (l : List S43) : Prop := (1 ≤ l.length ∧ l.length ≤ 1024) ∧ (∀ j : Nat, j < l.length → okI (rd_T43 l (j : Int))) ∧ isF (rd_T43 l ((l.length - 1 : Nat) : Int))
noncomputable instance (l : List S43) : Decidable (goodP l) := Classical.propDecidable _
theorem sized_f (x : Int) : pages_sized.f x = some (decide (0 ≤ x ∧ x ≤ 1073741824)) := by
  unfold pages_sized.f
  by_cases h : 0 ≤ x
  · rw [if_pos h]; simp [h]
  · rw [if_neg h]; simp [h]
theorem p_step (k : Nat) (l : List S43) (i : Nat) (hi : i < l.length) (hl : l.length ≤ 5000) :
    pages_Good.l0 (k + 2) l l (l.length : Int) (i : Int) = if okI (rd_T43 l (i : Int)) then pages_Good.l0 k l l (l.length : Int) ((i + 1 : Nat) : Int) else some false := by
  have hw : wrap64 ((i : Int) + 1) = ((i + 1 : Nat) : Int) := by rw [w_in (by omega)]; omega
  rw [pages_Good.l0, if_pos (by omega), if_pos (by omega), if_pos (by omega)]
  generalize rd_T43 l (i : Int) = x
  obtain ⟨a, b, c, d⟩ := x
  dsimp only
  have core : ∀ o1 o2 o3 : Int, pages_Good.j2 (k + 1) l l (l.length : Int) (i : Int) a b c d a o1 o2 o3 =
      if (b = o1 ∧ c = o2 ∧ d = o3) ∧ (0 ≤ b ∧ b ≤ 1073741824) ∧ (0 ≤ c ∧ c ≤ 1073741824) ∧ (-10000 ≤ d ∧ d ≤ 10000) then pages_Good.l0 k l l (l.length : Int) ((i + 1 : Nat) : Int) else some false := by
    intro o1 o2 o3
    rw [pages_Good.j2, hw, sized_f, sized_f, beq_self_eq_true]
    by_cases e : b = o1 ∧ c = o2 ∧ d = o3
    · obtain ⟨rfl, rfl, rfl⟩ := e
      simp only [beq_self_eq_true, Bool.not_true, Bool.or_self, Option.bind_some, decide_eq_true_eq, and_self, true_and]
      rw [if_neg (by decide)]
      by_cases h1 : 0 ≤ b ∧ b ≤ 1073741824
      · rw [if_pos h1]
        by_cases h2 : 0 ≤ c ∧ c ≤ 1073741824
        · rw [if_pos h2]
          by_cases h3 : d < -10000
          · rw [if_pos h3, if_neg (by omega)]
          · rw [if_neg h3]
            by_cases h4 : d > 10000
            · rw [if_pos h4, if_neg (by omega)]
            · rw [if_neg h4, if_pos ⟨h1, h2, by omega, by omega⟩]
        · rw [if_neg h2, if_neg (fun h => h2 h.2.1)]
      · rw [if_neg h1, if_neg (fun h => h1 h.1)]
    · rw [if_pos, if_neg (fun h => e h.1)]
      by_cases e1 : b = o1
      · by_cases e2 : c = o2
        · have e3 : ¬ d = o3 := fun h => e ⟨e1, e2, h⟩
          simp [e1, e2, e3]
        · simp [e1, e2]
      · simp [e1]
  have hO : okI ⟨a, b, c, d⟩ ↔ ((0 ≤ b ∧ b ≤ 1073741824) ∧ (0 ≤ c ∧ c ≤ 1073741824) ∧ (-10000 ≤ d ∧ d ≤ 10000) ∧ (1 ≤ a ∧ a ≤ 3) ∧ (a ≠ 1 → c = 0) ∧ (a = 3 → b = 0) ∧ (a ≠ 3 → d = 0)) := Iff.rfl
  by_cases h1 : a = 1
  · rw [if_pos h1, core]
    by_cases hx : (0 ≤ b ∧ b ≤ 1073741824) ∧ (0 ≤ c ∧ c ≤ 1073741824) ∧ (-10000 ≤ d ∧ d ≤ 10000) ∧ d = 0
    · rw [if_pos ⟨⟨rfl, rfl, hx.2.2.2⟩, hx.1, hx.2.1, hx.2.2.1⟩, if_pos (hO.2 ⟨hx.1, hx.2.1, hx.2.2.1, by omega, by omega, by omega, by omega⟩)]
    · rw [if_neg (fun h => hx ⟨h.2.1, h.2.2.1, h.2.2.2, h.1.2.2⟩), if_neg (fun h_ => by have h := hO.1 h_; exact hx ⟨h.1, h.2.1, h.2.2.1, h.2.2.2.2.2.2 (by omega)⟩)]
  · rw [if_neg h1]
    by_cases h2 : a = 2
    · rw [if_pos h2, core]
      by_cases hx : (0 ≤ b ∧ b ≤ 1073741824) ∧ (0 ≤ c ∧ c ≤ 1073741824) ∧ (-10000 ≤ d ∧ d ≤ 10000) ∧ c = 0 ∧ d = 0
      · rw [if_pos ⟨⟨rfl, hx.2.2.2.1, hx.2.2.2.2⟩, hx.1, hx.2.1, hx.2.2.1⟩, if_pos (hO.2 ⟨hx.1, hx.2.1, hx.2.2.1, by omega, by omega, by omega, by omega⟩)]
      · rw [if_neg (fun h => hx ⟨h.2.1, h.2.2.1, h.2.2.2, h.1.2.1, h.1.2.2⟩), if_neg (fun h_ => by have h := hO.1 h_; exact hx ⟨h.1, h.2.1, h.2.2.1, h.2.2.2.2.1 h1, h.2.2.2.2.2.2 (by omega)⟩)]
    · rw [if_neg h2]
      by_cases h3 : a = 3
      · rw [if_pos h3, core]
        by_cases hx : (0 ≤ b ∧ b ≤ 1073741824) ∧ (0 ≤ c ∧ c ≤ 1073741824) ∧ (-10000 ≤ d ∧ d ≤ 10000) ∧ b = 0 ∧ c = 0
        · rw [if_pos ⟨⟨hx.2.2.2.1, hx.2.2.2.2, rfl⟩, hx.1, hx.2.1, hx.2.2.1⟩, if_pos (hO.2 ⟨hx.1, hx.2.1, hx.2.2.1, by omega, by omega, by omega, by omega⟩)]
        · rw [if_neg (fun h => hx ⟨h.2.1, h.2.2.1, h.2.2.2, h.1.1, h.1.2.1⟩), if_neg (fun h_ => by have h := hO.1 h_; exact hx ⟨h.1, h.2.1, h.2.2.1, h.2.2.2.2.2.1 h3, h.2.2.2.2.1 h1⟩)]
      · rw [if_neg h3, if_neg (fun h_ => by have h := hO.1 h_; omega)]
theorem last_idx (l : List S43) (h1 : 1 ≤ l.length) (hl : l.length ≤ 5000) : wrap64 ((l.length : Int) - 1) = ((l.length - 1 : Nat) : Int) := by rw [w_in (by omega)]; omega
theorem p_l0 (l : List S43) (h1 : 1 ≤ l.length) (hl : l.length ≤ 5000) : ∀ (d k i : Nat), i + d = l.length → 2 * d + 1 ≤ k →
    ∃ t, pages_Good.l0 k l l (l.length : Int) (i : Int) = some t ∧ (t = true ↔ ((∀ j : Nat, i ≤ j → j < l.length → okI (rd_T43 l (j : Int))) ∧ isF (rd_T43 l ((l.length - 1 : Nat) : Int)))) := by
  intro d
  induction d with
  | zero =>
    intro k i hd hk
    obtain ⟨k, rfl⟩ : ∃ q, k = q + 1 := ⟨k - 1, by omega⟩
    rw [pages_Good.l0, if_neg (by omega), last_idx l h1 hl, if_pos (by omega), if_pos (by omega), pages_forced.val, Option.bind_some]
    refine ⟨_, rfl, ?_⟩
    rw [decide_eq_true_eq]
    exact ⟨fun h => ⟨fun j h1 h2 => by omega, h⟩, fun h => h.2⟩
  | succ d ih =>
    intro k i hd hk
    obtain ⟨k, rfl⟩ : ∃ q, k = q + 2 := ⟨k - 2, by omega⟩
    rw [p_step k l i (by omega) hl]
    by_cases ho : okI (rd_T43 l (i : Int))
    · rw [if_pos ho]
      obtain ⟨t, e, ht⟩ := ih k (i + 1) (by omega) (by omega)
      refine ⟨t, e, ht.trans ⟨fun h => ⟨fun j h1 h2 => ?_, h.2⟩, fun h => ⟨fun j h1 h2 => h.1 j (by omega) h2, h.2⟩⟩⟩
      by_cases e : j = i
      · rw [e]; exact ho
      · exact h.1 j (by omega) h2
    · rw [if_neg ho]
      exact ⟨false, rfl, ⟨fun h => by simp at h, fun h => absurd (h.1 i (Nat.le_refl _) (by omega)) ho⟩⟩
theorem good_f (K : Nat) (hK : 20000 ≤ K) (l : List S43) (hl : l.length ≤ 5000) : pages_Good.f K l = some (decide (goodP l)) := by
  have key : ∃ t, pages_Good.f K l = some t ∧ (t = true ↔ goodP l) := by
    unfold pages_Good.f
    obtain ⟨K, rfl⟩ : ∃ q, K = q + 1 := ⟨K - 1, by omega⟩
    by_cases h0 : l.length = 0
    · rw [if_pos (by omega), pages_Good.j0, if_pos rfl]
      exact ⟨false, rfl, ⟨fun h => by simp at h, fun h => by have := h.1.1; omega⟩⟩
    · rw [if_neg (by omega), pages_Good.j0]
      by_cases h1 : (l.length : Int) > 1024
      · rw [if_pos (decide_eq_true h1)]
        exact ⟨false, rfl, ⟨fun h => by simp at h, fun h => by have := h.1.2; omega⟩⟩
      · rw [if_neg (by rw [decide_eq_false h1]; decide), show (0 : Int) = ((0 : Nat) : Int) from rfl]
        obtain ⟨t, e, ht⟩ := p_l0 l (by omega) hl l.length K 0 (by omega) (by omega)
        exact ⟨t, e, ht.trans ⟨fun h => ⟨by omega, fun j hj => h.1 j (Nat.zero_le _) hj, h.2⟩, fun h => ⟨fun j _ hj => h.2.1 j hj, h.2.2⟩⟩⟩
  obtain ⟨t, e, ht⟩ := key
  rw [e]
  congr 1
  rw [Bool.eq_iff_iff, ht, decide_eq_true_iff]
/-! ### a room, a twin -/
theorem room_f (h : Int) : pages_room.f h = some (decide (1 ≤ h ∧ h ≤ 1073741824)) := by
  unfold pages_room.f
  by_cases c : 1 ≤ h
  · rw [if_pos c]; simp [c]
  · rw [if_neg c]; simp [c]
theorem twin_f (l : List S43) (hl : l.length ≤ 5000) : colophonlaw27_twin.f l = some l := by
  unfold colophonlaw27_twin.f
  rw [Option.bind_some, if_pos (by simp; omega), List.nil_append]

/-! ### r: the reference's Good -/
theorem rforced_val (a b c d : Int) : colophonref27_forced.f a b c d = some (decide (a = 3 ∧ d = -10000)) := by
  unfold colophonref27_forced.f
  by_cases h : a = 3
  · rw [if_pos h]; simp [h]; rfl
  · rw [if_neg h]; simp [h]
theorem r_step (k : Nat) (l : List S43) (i : Nat) (hi : i < l.length) (hl : l.length ≤ 5000) :
    colophonref27_Good.l0 (k + 2) l (i : Int) = if okI (rd_T43 l (i : Int)) then colophonref27_Good.l0 k l ((i + 1 : Nat) : Int) else some false := by
  have hw : wrap64 ((i : Int) + 1) = ((i + 1 : Nat) : Int) := by rw [w_in (by omega)]; omega
  rw [colophonref27_Good.l0, if_pos (by omega), if_pos (by omega)]
  generalize rd_T43 l (i : Int) = x
  obtain ⟨a, b, c, d⟩ := x
  dsimp only
  have bad : colophonref27_Good.j2 (k + 1) l (i : Int) true a b c d = some false := by rw [colophonref27_Good.j2, if_pos rfl]
  have hO : okI ⟨a, b, c, d⟩ ↔ ((0 ≤ b ∧ b ≤ 1073741824) ∧ (0 ≤ c ∧ c ≤ 1073741824) ∧ (-10000 ≤ d ∧ d ≤ 10000) ∧ (1 ≤ a ∧ a ≤ 3) ∧ (a ≠ 1 → c = 0) ∧ (a = 3 → b = 0) ∧ (a ≠ 3 → d = 0)) := Iff.rfl
  by_cases h1 : b < 0
  · rw [if_pos h1, bad, if_neg (fun h_ => by have h := hO.1 h_; omega)]
  rw [if_neg h1]
  by_cases h2 : b > 1073741824
  · rw [if_pos h2, bad, if_neg (fun h_ => by have h := hO.1 h_; omega)]
  rw [if_neg h2]
  by_cases h3 : c < 0
  · rw [if_pos h3, bad, if_neg (fun h_ => by have h := hO.1 h_; omega)]
  rw [if_neg h3]
  by_cases h4 : c > 1073741824
  · rw [if_pos h4, bad, if_neg (fun h_ => by have h := hO.1 h_; omega)]
  rw [if_neg h4]
  by_cases h5 : d < -10000
  · rw [if_pos h5, bad, if_neg (fun h_ => by have h := hO.1 h_; omega)]
  rw [if_neg h5]
  by_cases h6 : d > 10000
  · rw [decide_eq_true h6, bad, if_neg (fun h_ => by have h := hO.1 h_; omega)]
  rw [decide_eq_false h6, colophonref27_Good.j2, if_neg (by decide), hw]
  by_cases h7 : a < 1
  · rw [if_pos h7, if_neg (fun h_ => by have h := hO.1 h_; omega)]
  rw [if_neg h7]
  by_cases h8 : a > 3
  · rw [if_pos h8, if_neg (fun h_ => by have h := hO.1 h_; omega)]
  rw [if_neg h8]
  by_cases h9 : a = 1
  · rw [if_pos h9, if_neg (show ¬ a = 3 by omega)]
    by_cases h10 : d = 0
    · rw [if_pos h10, if_pos (hO.2 ⟨by omega, by omega, by omega, by omega, by omega, by omega, by omega⟩)]
    · rw [if_neg h10, if_neg (fun h_ => by have h := hO.1 h_; omega)]
  rw [if_neg h9]
  by_cases h11 : c = 0
  · rw [if_pos h11]
    by_cases h12 : a = 3
    · rw [if_pos h12]
      by_cases h13 : b = 0
      · rw [if_pos h13, if_pos (hO.2 ⟨by omega, by omega, by omega, by omega, by omega, by omega, by omega⟩)]
      · rw [if_neg h13, if_neg (fun h_ => by have h := hO.1 h_; omega)]
    · rw [if_neg h12]
      by_cases h13 : d = 0
      · rw [if_pos h13, if_pos (hO.2 ⟨by omega, by omega, by omega, by omega, by omega, by omega, by omega⟩)]
      · rw [if_neg h13, if_neg (fun h_ => by have h := hO.1 h_; omega)]
  · rw [if_neg h11, if_neg (fun h_ => by have h := hO.1 h_; omega)]
theorem r_l0 (l : List S43) (h1 : 1 ≤ l.length) (hl : l.length ≤ 5000) : ∀ (d k i : Nat), i + d = l.length → 2 * d + 1 ≤ k →
    ∃ t, colophonref27_Good.l0 k l (i : Int) = some t ∧ (t = true ↔ ((∀ j : Nat, i ≤ j → j < l.length → okI (rd_T43 l (j : Int))) ∧ isF (rd_T43 l ((l.length - 1 : Nat) : Int)))) := by
  intro d
  induction d with
  | zero =>
    intro k i hd hk
    obtain ⟨k, rfl⟩ : ∃ q, k = q + 1 := ⟨k - 1, by omega⟩
    rw [colophonref27_Good.l0, if_neg (by omega), last_idx l h1 hl, if_pos (by omega), if_pos (by omega), rforced_val, Option.bind_some]
    refine ⟨_, rfl, ?_⟩
    rw [decide_eq_true_eq]
    exact ⟨fun h => ⟨fun j h1 h2 => by omega, h⟩, fun h => h.2⟩
  | succ d ih =>
    intro k i hd hk
    obtain ⟨k, rfl⟩ : ∃ q, k = q + 2 := ⟨k - 2, by omega⟩
    rw [r_step k l i (by omega) hl]
    by_cases ho : okI (rd_T43 l (i : Int))
    · rw [if_pos ho]
      obtain ⟨t, e, ht⟩ := ih k (i + 1) (by omega) (by omega)
      refine ⟨t, e, ht.trans ⟨fun h => ⟨fun j h1 h2 => ?_, h.2⟩, fun h => ⟨fun j h1 h2 => h.1 j (by omega) h2, h.2⟩⟩⟩
      by_cases e : j = i
      · rw [e]; exact ho
      · exact h.1 j (by omega) h2
    · rw [if_neg ho]
      exact ⟨false, rfl, ⟨fun h => by simp at h, fun h => absurd (h.1 i (Nat.le_refl _) (by omega)) ho⟩⟩
theorem rgood_f (K : Nat) (hK : 20000 ≤ K) (l : List S43) (hl : l.length ≤ 5000) : colophonref27_Good.f K l = some (decide (goodP l)) := by
  have key : ∃ t, colophonref27_Good.f K l = some t ∧ (t = true ↔ goodP l) := by
    unfold colophonref27_Good.f
    obtain ⟨K, rfl⟩ : ∃ q, K = q + 1 := ⟨K - 1, by omega⟩
    by_cases h0 : l.length = 0
    · rw [if_pos (by omega), colophonref27_Good.j0, if_pos rfl]
      exact ⟨false, rfl, ⟨fun h => by simp at h, fun h => by have := h.1.1; omega⟩⟩
    · rw [if_neg (by omega), colophonref27_Good.j0]
      by_cases h1 : (l.length : Int) > 1024
      · rw [if_pos (decide_eq_true h1)]
        exact ⟨false, rfl, ⟨fun h => by simp at h, fun h => by have := h.1.2; omega⟩⟩
      · rw [if_neg (by rw [decide_eq_false h1]; decide), show (0 : Int) = ((0 : Nat) : Int) from rfl]
        obtain ⟨t, e, ht⟩ := r_l0 l (by omega) hl l.length K 0 (by omega) (by omega)
        exact ⟨t, e, ht.trans ⟨fun h => ⟨by omega, fun j hj => h.1 j (Nat.zero_le _) hj, h.2⟩, fun h => ⟨fun j _ hj => h.2.1 j hj, h.2.2⟩⟩⟩
  obtain ⟨t, e, ht⟩ := key
  rw [e]
  congr 1
  rw [Bool.eq_iff_iff, ht, decide_eq_true_iff]

end Go.Proofs.Ytogjeababinnlaa.PurePagesCosts
