/- The plain law of FurnishTitles: the title that holds on a page, for all lists. -/
import Derived.Test.YtmcdcpejkldepaaDoorPFurnishTitlesx2
namespace Go.Proofs.YtmcdcpejkldepaaDoor.PureFurnishTitles
open Go.RowKit Go.Proofs.YtmcdcpejkldepaaDoor.PFurnishTitles Go.Proofs.YtmcdcpejkldepaaDoorW.PrintWords Go.Proofs.YtmcdcpejkldepaaDoorW.PrintLast Go.Proofs.YtmcdcpejkldepaaDoorW.PrintMore
theorem w_in {e : Int} (h : -9223372036854775808 ≤ e ∧ e ≤ 9223372036854775807) : wrap64 e = e := by unfold wrap64; omega
theorem wakes_f : colophonlaw28_wakes.f 30 = some true := by decide +kernel
theorem wakes_k (k : Nat) (hk : 30 ≤ k) : colophonlaw28_wakes.f k = some true := at_rounds (g := fun k => colophonlaw28_wakes.f k) colophonlaw28_wakes.mono hk wakes_f

theorem ints_f (l : List Int) (n : Nat) (hn : n ≤ 100000) : colophonkeep_Ints.f l (n : Int) = some (l.take n) := by
  unfold colophonkeep_Ints.f
  by_cases h : (l.length : Int) > n
  · rw [if_pos h, if_pos (by omega), if_pos (by omega)]
    simp only [Option.bind_some, List.nil_append, List.length_nil, Int.toNat_natCast]
    rw [if_pos (by rw [List.length_take]; omega)]
  · rw [if_neg h]
    simp only [Option.bind_some, List.nil_append, List.length_nil]
    rw [if_pos (by omega), List.take_of_length_le (by omega)]
theorem same_l0 (m : List Int) (hm : m.length ≤ 1000000000) : ∀ (d k : Nat) (i : Int), 0 ≤ i → (m.length : Int) - i = d → d + 1 ≤ k → colophonkeep_Same.l0 k m m i = some true := by
  intro d
  induction d with
  | zero =>
    intro k i h0 hd hk
    obtain ⟨k, rfl⟩ : ∃ q, k = q + 1 := ⟨k - 1, by omega⟩
    rw [colophonkeep_Same.l0, if_neg (by omega)]
  | succ d ih =>
    intro k i h0 hd hk
    obtain ⟨k, rfl⟩ : ∃ q, k = q + 1 := ⟨k - 1, by omega⟩
    have hi : wrap64 (i + 1) = i + 1 := w_in (by omega)
    rw [colophonkeep_Same.l0, if_pos (by omega), if_pos h0, if_pos (by omega), if_pos rfl, hi]
    exact ih k (i + 1) (by omega) (by omega) (by omega)
theorem same_f (m : List Int) (hm : m.length ≤ 1000000000) (K : Nat) (hK : m.length + 1 ≤ K) : colophonkeep_Same.f K m m = some true := by
  unfold colophonkeep_Same.f
  rw [if_pos rfl]
  exact same_l0 m hm m.length K 0 (by omega) (by omega) hK

def latV (l : List S46) (p : Int) : Nat → List Int
  | 0 => []
  | n + 1 => if (rd_T46 l (n : Int)).f1 ≤ p then (rd_T46 l (n : Int)).f3 else latV l p n
def small (l : List S46) : Prop := l.length ≤ 2000 ∧ ∀ e ∈ l, e.f3.length ≤ 2000
theorem small_rd {l : List S46} (h : small l) (i : Int) : (rd_T46 l i).f3.length ≤ 2000 := by
  unfold rd_T46
  rw [List.getD_eq_getElem?_getD]
  by_cases hi : i.toNat < l.length
  · rw [List.getElem?_eq_getElem hi]
    exact h.2 _ (List.getElem_mem hi)
  · rw [List.getElem?_eq_none (by omega)]
    exact Nat.zero_le _
theorem latV_len {l : List S46} (h : small l) (p : Int) : ∀ n, (latV l p n).length ≤ 2000
  | 0 => Nat.zero_le _
  | n + 1 => by
    unfold latV
    split
    · exact small_rd h _
    · exact latV_len h p n
theorem lat_l0 (l : List S46) (h : small l) (p : Int) : ∀ (n k : Nat), n ≤ l.length → n + 1 ≤ k → furnish_Latest.l0 k l p ((n : Int) - 1) = some (latV l p n) ∧ colophonref28_Latest.l0 k l p ((n : Int) - 1) = some (latV l p n) := by
  intro n
  induction n with
  | zero =>
    intro k hn hk
    obtain ⟨k, rfl⟩ : ∃ q, k = q + 1 := ⟨k - 1, by omega⟩
    rw [furnish_Latest.l0, colophonref28_Latest.l0, if_neg (by omega)]
    exact ⟨rfl, rfl⟩
  | succ n ih =>
    intro k hn hk
    obtain ⟨k, rfl⟩ : ∃ q, k = q + 1 := ⟨k - 1, by omega⟩
    have e1 : ((n + 1 : Nat) : Int) - 1 = (n : Int) := by omega
    have e2 : wrap64 ((n : Int) - 1) = (n : Int) - 1 := w_in (by have := h.1; omega)
    have hl := h.1
    have hs := small_rd h (n : Int)
    obtain ⟨i1, i2⟩ := ih k (by omega) (by omega)
    have g1 : ((n : Int) ≥ 0) := by omega
    have g2 : ((n : Int) < (l.length : Int)) := by omega
    have g3 : ([] : List Int).length + (rd_T46 l (n : Int)).f3.length < 17592186044416 := by
      rw [List.length_nil]
      omega
    rw [e1]
    constructor
    · rw [furnish_Latest.l0, if_pos g1, if_pos g1, if_pos g2, e2, Option.bind_some, if_pos g3, List.nil_append, i1, latV]
      split <;> rfl
    · rw [colophonref28_Latest.l0, if_pos g1, if_pos g1, if_pos g2, e2, Option.bind_some, if_pos g3, List.nil_append, i2, latV]
      split <;> rfl
theorem lat_f (l : List S46) (h : small l) (p : Int) (K : Nat) (hK : 3000 ≤ K) : furnish_Latest.f K l p = some (latV l p l.length) ∧ colophonref28_Latest.f K l p = some (latV l p l.length) := by
  have hl := h.1
  have e : wrap64 ((l.length : Int) - 1) = (l.length : Int) - 1 := w_in (by omega)
  unfold furnish_Latest.f colophonref28_Latest.f
  rw [e]
  exact lat_l0 l h p l.length K (Nat.le_refl _) (by omega)
theorem l1_f (l : List S46) (h : small l) (p : Int) : ∀ (d k : Nat) (x : List Int) (i : Nat), x.length = i + d → x.length ≤ 2000 → d + 4000 ≤ k → colophonlaw28_FurnishTitles.l1 k p l x (latV l p l.length) (i : Int) = some true := by
  intro d
  induction d with
  | zero =>
    intro k x i hx hl hk
    obtain ⟨k, rfl⟩ : ∃ q, k = q + 1 := ⟨k - 1, by omega⟩
    have hv := latV_len h p l.length
    rw [colophonlaw28_FurnishTitles.l1, if_neg (by omega), (lat_f l h p k (by omega)).1, Option.bind_some, same_f _ (by omega) k (by omega), Option.bind_some, if_pos rfl, wakes_k k (by omega)]
    rfl
  | succ d ih =>
    intro k x i hx hl hk
    obtain ⟨k, rfl⟩ : ∃ q, k = q + 1 := ⟨k - 1, by omega⟩
    have hi : wrap64 ((i : Int) + 1) = ((i + 1 : Nat) : Int) := by rw [w_in (by omega)]; omega
    rw [colophonlaw28_FurnishTitles.l1, if_pos (by omega), if_pos (by omega), hi]
    exact ih k _ (i + 1) (by rw [List.length_set]; omega) (by rw [List.length_set]; exact hl) (by omega)
theorem l0_f (l : List S46) (hl : l.length ≤ 2000) (p : Int) : ∀ (d k n : Nat) (x : List S46), n + d = l.length → x.length = n → (∀ e ∈ x, e.f3.length ≤ 2000) → d + 10000 ≤ k → colophonlaw28_FurnishTitles.l0 k l p x (n : Int) = some true := by
  intro d
  induction d with
  | zero =>
    intro k n x hd hx he hk
    obtain ⟨k, rfl⟩ : ∃ q, k = q + 1 := ⟨k - 1, by omega⟩
    have h : small x := ⟨by omega, he⟩
    have hv := latV_len h p x.length
    obtain ⟨f1, f2⟩ := lat_f x h p k (by omega)
    rw [colophonlaw28_FurnishTitles.l0, if_neg (by omega), f1, Option.bind_some, f2, Option.bind_some, same_f _ (by omega) k (by omega), Option.bind_some, if_pos rfl]
    exact l1_f x h p (latV x p x.length).length k _ 0 (by omega) (by omega) (by omega)
  | succ d ih =>
    intro k n x hd hx he hk
    obtain ⟨k, rfl⟩ : ∃ q, k = q + 1 := ⟨k - 1, by omega⟩
    have hi : wrap64 ((n : Int) + 1) = ((n + 1 : Nat) : Int) := by rw [w_in (by omega)]; omega
    have hq := ints_f (rd_T46 l (n : Int)).f3 2000 (by omega)
    rw [colophonlaw28_FurnishTitles.l0, if_pos (by omega), if_pos (by omega)]
    show ((colophonkeep_Ints.f (rd_T46 l (n : Int)).f3 ((2000 : Nat) : Int)).bind _) = _
    rw [hq, Option.bind_some, if_pos (by omega), hi]
    refine ih k (n + 1) _ (by omega) (by rw [List.length_append, List.length_singleton, hx]) ?_ (by omega)
    intro e hm
    rcases List.mem_append.1 hm with hm | hm
    · exact he e hm
    · rw [List.mem_singleton] at hm
      rw [hm]
      show ((rd_T46 l (n : Int)).f3.take 2000).length ≤ 2000
      rw [List.length_take]
      omega
theorem pureK (K : Nat) (hK : 20000 ≤ K) (l : List S46) (p : Int) : colophonlaw28_FurnishTitles.f K l p = some true := by
  unfold colophonlaw28_FurnishTitles.f
  by_cases h : (l.length : Int) > 2000
  · rw [if_pos h, wakes_k K (by omega)]
    rfl
  · rw [if_neg h]
    exact l0_f l (by omega) p l.length K 0 [] (by omega) rfl (by simp) (by omega)
theorem pure (l : List S46) (p : Int) : ∃ k, colophonlaw28_FurnishTitles.f k l p = some true := ⟨20000, pureK 20000 (Nat.le_refl _) l p⟩

end Go.Proofs.YtmcdcpejkldepaaDoor.PureFurnishTitles
