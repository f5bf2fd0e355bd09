/- The plain law of PagesPara: a paragraph's block, for all numbers. -/
import Derived.Test.YtogjeababinnlaaPPagesParax7
namespace Go.Proofs.Ytogjeababinnlaa.PurePagesPara
open Go.RowKit Go.Proofs.Ytogjeababinnlaa Go.Proofs.Ytogjeababinnlaa.PPagesPara Go.Proofs.YtogjeababinnlaaW.PrintWords Go.Proofs.YtogjeababinnlaaW.PrintLast Go.Proofs.YtogjeababinnlaaW.PrintMore
theorem w_in {e : Int} (h : -9223372036854775808 ≤ e ∧ e ≤ 9223372036854775807) : wrap64 e = e := by unfold wrap64; omega
theorem wakes_f : colophonlaw27_wakes.f 60 = some true := by decide +kernel
theorem wakes_k (k : Nat) (hk : 60 ≤ k) : colophonlaw27_wakes.f k = some true := at_rounds (g := fun k => colophonlaw27_wakes.f k) colophonlaw27_wakes.mono hk wakes_f
theorem same_l0 (m : List Int) (hm : m.length ≤ 1000000000) : ∀ (d k : Nat) (i : Int), 0 ≤ i → (m.length : Int) - i = d → d + 1 ≤ k → colophonkeep_Same.l0 k m m i = some true := by
  intro d
  induction d with
  | zero =>
    intro k i h0 hd hk
    obtain ⟨k, rfl⟩ : ∃ q, k = q + 1 := ⟨k - 1, by omega⟩
    rw [colophonkeep_Same.l0, if_neg (by omega)]
  | succ d ih =>
    intro k i h0 hd hk
    obtain ⟨k, rfl⟩ : ∃ q, k = q + 1 := ⟨k - 1, by omega⟩
    have hi : wrap64 (i + 1) = i + 1 := w_in (by omega)
    rw [colophonkeep_Same.l0, if_pos (by omega), if_pos h0, if_pos (by omega), if_pos rfl, hi]
    exact ih k (i + 1) (by omega) (by omega) (by omega)
theorem same_f (m : List Int) (hm : m.length ≤ 1000000000) (K : Nat) (hK : m.length + 1 ≤ K) : colophonkeep_Same.f K m m = some true := by
  unfold colophonkeep_Same.f
  rw [if_pos rfl]
  exact same_l0 m hm m.length K 0 (by omega) (by omega) hK
/-- The costs of a paragraph of more than one line. -/
def cs (y : List Int) (n : Nat) (w o : Int) : List Int :=
  let z := y.set 0 (wrap64 (rd y 0 + o))
  z.set (n - 2) (wrap64 (rd z ((n : Int) - 2) + w))
def block (n : Nat) (h w o : Int) : List Int × List Int × List Int × Int × Int × Bool × Bool :=
  (List.replicate n h, List.replicate n 0, if 1 < n then cs (List.replicate (n - 1) 0) n w o else [], 0, 0, false, false)
theorem rep_snoc (n : Nat) (x : Int) : List.replicate n x ++ [x] = List.replicate (n + 1) x := List.replicate_succ'.symm
theorem prog (n : Nat) (hn : n ≤ 1024) (h w o : Int) : ∀ (d j k : Nat), j + d = n → d + 1 ≤ k →
    pages_Para.l0 k n h w o n j (List.replicate j h) (List.replicate j 0) 0 0 false false = some (block n h (mn (mx w 0) 10000) (mn (mx o 0) 10000)) := by
  intro d
  induction d with
  | zero =>
    intro j k hj hk
    obtain ⟨k, rfl⟩ : ∃ q, k = q + 1 := ⟨k - 1, by omega⟩
    obtain rfl : j = n := by omega
    rw [pages_Para.l0, if_neg (by omega)]
    unfold block
    by_cases c : 1 < j
    · have e1 : wrap64 ((j : Int) - 1) = ((j - 1 : Nat) : Int) := by rw [w_in (by omega)]; omega
      have e2 : wrap64 ((j : Int) - 2) = (j : Int) - 2 := w_in (by omega)
      have e3 : ((j : Int) - 2).toNat = j - 2 := by omega
      rw [if_pos (show (j : Int) > 1 by omega), if_pos c, e1, e2, if_pos (by omega), Int.toNat_natCast, if_pos (by omega), Option.bind_some, List.length_replicate, if_pos (by omega), Option.bind_some, if_pos (by omega), if_pos (by omega), e3]
      rfl
    · rw [if_neg (show ¬ (j : Int) > 1 by omega), if_neg c]
  | succ d ih =>
    intro j k hj hk
    obtain ⟨k, rfl⟩ : ∃ q, k = q + 1 := ⟨k - 1, by omega⟩
    have e1 : wrap64 ((j : Int) + 1) = ((j + 1 : Nat) : Int) := by rw [w_in (by omega)]; omega
    rw [pages_Para.l0, if_pos (by omega), Option.bind_some, if_pos (by simp; omega), Option.bind_some, if_pos (by simp; omega), e1, rep_snoc, rep_snoc]
    exact ih (j + 1) k (by omega) (by omega)
theorem refe (n : Nat) (hn : n ≤ 1024) (h w o : Int) : ∀ (d j k : Nat), j + d = n → d + 1 ≤ k →
    colophonref27_Para.l0 k n h w o j (List.replicate j h) (List.replicate j 0) (List.replicate (j - 1) 0) 0 0 false false = some (block n h w o) := by
  intro d
  induction d with
  | zero =>
    intro j k hj hk
    obtain ⟨k, rfl⟩ : ∃ q, k = q + 1 := ⟨k - 1, by omega⟩
    obtain rfl : j = n := by omega
    rw [colophonref27_Para.l0, if_neg (by omega)]
    unfold block
    by_cases c : 1 < j
    · have e2 : wrap64 ((j : Int) - 2) = (j : Int) - 2 := w_in (by omega)
      have e3 : ((j : Int) - 2).toNat = j - 2 := by omega
      rw [if_pos (show (j : Int) > 1 by omega), if_pos c, e2, List.length_replicate, if_pos (by omega), Option.bind_some, if_pos (by omega), if_pos (by omega), e3]
      rfl
    · rw [if_neg (show ¬ (j : Int) > 1 by omega), if_neg c, show j - 1 = 0 by omega]
      rfl
  | succ d ih =>
    intro j k hj hk
    obtain ⟨k, rfl⟩ : ∃ q, k = q + 1 := ⟨k - 1, by omega⟩
    have e1 : wrap64 ((j : Int) + 1) = ((j + 1 : Nat) : Int) := by rw [w_in (by omega)]; omega
    rw [colophonref27_Para.l0, if_pos (by omega), if_pos (by simp; omega), Option.bind_some, if_pos (by simp; omega), Option.bind_some, e1, rep_snoc, rep_snoc]
    by_cases c : (j : Int) > 0
    · rw [if_pos c, if_pos (by simp; omega), rep_snoc, show j - 1 + 1 = j + 1 - 1 by omega]
      exact ih (j + 1) k (by omega) (by omega)
    · rw [if_neg c, show j - 1 = j + 1 - 1 by omega]
      exact ih (j + 1) k (by omega) (by omega)
theorem cs_len (y : List Int) (n : Nat) (w o : Int) : (cs y n w o).length = y.length := by simp [cs]
theorem pureK (K : Nat) (hK : 2000 ≤ K) (a b c d : Int) : colophonlaw27_PagesPara.f K a b c d = some true := by
  obtain ⟨n, e, hn⟩ : ∃ n : Nat, mn (mx a 0) 1024 = (n : Int) ∧ n ≤ 1024 := by
    refine ⟨(mn (mx a 0) 1024).toNat, ?_, ?_⟩ <;> (unfold mn mx; split <;> split <;> omega)
  unfold colophonlaw27_PagesPara.f pages_Para.f colophonref27_Para.f colophonref27_within.f
  rw [e, Option.bind_some, Option.bind_some, Option.bind_some]
  have p := prog n hn b c d n 0 K (by omega) (by omega)
  have r := refe n hn b (mn (mx c 0) 10000) (mn (mx d 0) 10000) n 0 K (by omega) (by omega)
  have p' : pages_Para.l0 K n b c d n 0 ([] : List Int) ([] : List Int) 0 0 false false = some (block n b (mn (mx c 0) 10000) (mn (mx d 0) 10000)) := p
  have r' : colophonref27_Para.l0 K n b (mn (mx c 0) 10000) (mn (mx d 0) 10000) 0 ([] : List Int) ([] : List Int) ([] : List Int) 0 0 false false = some (block n b (mn (mx c 0) 10000) (mn (mx d 0) 10000)) := r
  rw [p', r', Option.bind_some, Option.bind_some]
  unfold colophonref27_SameBlock.f block
  dsimp only
  rw [same_f _ (by rw [List.length_replicate]; omega) K (by rw [List.length_replicate]; omega), Option.bind_some, if_pos rfl]
  rw [same_f _ (by rw [List.length_replicate]; omega) K (by rw [List.length_replicate]; omega), Option.bind_some, if_pos rfl]
  have hc : (if 1 < n then cs (List.replicate (n - 1) 0) n (mn (mx c 0) 10000) (mn (mx d 0) 10000) else []).length ≤ 1024 := by
    split
    · rw [cs_len, List.length_replicate]; omega
    · simp
  rw [same_f _ (by omega) K (by omega), Option.bind_some, if_pos rfl, if_pos rfl, if_pos rfl, if_pos (show (false == false) = true from rfl), Option.bind_some, if_pos (show (false == false) = true from rfl), wakes_k K (by omega)]
  rfl
theorem pure (a b c d : Int) : ∃ k, colophonlaw27_PagesPara.f k a b c d = some true := ⟨_, pureK 2000 (Nat.le_refl _) a b c d⟩

end Go.Proofs.Ytogjeababinnlaa.PurePagesPara
