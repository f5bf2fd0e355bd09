/- For PagesBest: the reference's rows are the program's. -/
import Derived.Test.YtogjeababinnlaaPPagesBestx8
import Derived.Test.YtogjeababinnlaaPurePagesBestD
namespace Go.Proofs.Ytogjeababinnlaa.PurePagesBest
open Go.RowKit Go.Proofs.Ytogjeababinnlaa Go.Proofs.Ytogjeababinnlaa.PPagesBest Go.Proofs.YtogjeababinnlaaW.PrintWords Go.Proofs.YtogjeababinnlaaW.PrintLast Go.Proofs.YtogjeababinnlaaW.PrintMore
/-! ### r: the reference's rows -/
theorem set_same (X : List Int) (i : Nat) (v : Int) (_hi : i < X.length) (h : rd X (i : Int) = v) : X.set i v = X := by
  apply List.ext_getElem
  · simp
  · intro k p1 p2
    rw [List.getElem_set]
    by_cases ek : i = k
    · subst ek
      rw [if_pos rfl]
      simp [rd, List.getD_eq_getElem?_getD, p2] at h
      exact h.symm
    · rw [if_neg ek]
/-- The reference's rows stand for the program's. -/
structure Corr (N R X1 X2 : List Int) (n i : Nat) : Prop where
  l1 : N.length = n + 1
  l2 : R.length = n + 1
  same : ∀ j : Nat, i ≤ j → j < n → rd N (j : Int) = rd X1 (j : Int) - 1 ∧ rd R (j : Int) = rd X2 (j : Int)
  zero : ∀ j : Nat, j < i → rd R (j : Int) = 0
theorem j4_no (l : List S43) (k : Nat) (h : Int) (N R : List Int) (a s : Int) (b : Nat) (hb : b < l.length) (hw : wrap64 ((b : Int) + 1) = ((b + 1 : Nat) : Int)) :
    colophonref27_Best.j4 (k + 1) l h (l.length : Int) N R a (b : Int) s false = if isF (rd_T43 l (b : Int)) then colophonref27_Best.l0 k l h (l.length : Int) N R (wrap64 (a - 1)) else colophonref27_Best.l1 k l h (l.length : Int) N R a ((b + 1 : Nat) : Int) := by
  rw [colophonref27_Best.j4, if_neg (by decide), if_pos (by omega), if_pos (by omega), rforced_val, Option.bind_some, isF_dec, hw]
  by_cases c : isF (rd_T43 l (b : Int))
  · rw [if_pos (decide_eq_true c), if_pos c]
  · rw [if_neg (by rw [decide_eq_true_eq]; exact c), if_neg c]
theorem j5_f (l : List S43) (k : Nat) (h : Int) (N0 R0 : List Int) (n1 : N0.length = l.length + 1) (n2 : R0.length = l.length + 1) (i b : Nat) (hi : i < l.length) (hb : b < l.length) (s : Int) (v : Int × Int) (hv : 0 ≤ v.1)
    (hwa : wrap64 ((i : Int) - 1 + 1) = (i : Int)) (hw : wrap64 ((b : Int) + 1) = ((b + 1 : Nat) : Int)) :
    colophonref27_Best.j5 (k + 2) l h (l.length : Int) (N0.set i (v.1 - 1)) (R0.set i v.2) ((i : Int) - 1) (b : Int) s =
      if isF (rd_T43 l (b : Int)) then colophonref27_Best.l0 k l h (l.length : Int) (N0.set i ((if v.1 = 0 ∨ s < v.2 then ((b : Int) + 1, s) else v).1 - 1)) (R0.set i (if v.1 = 0 ∨ s < v.2 then ((b : Int) + 1, s) else v).2) (wrap64 ((i : Int) - 1 - 1))
      else colophonref27_Best.l1 k l h (l.length : Int) (N0.set i ((if v.1 = 0 ∨ s < v.2 then ((b : Int) + 1, s) else v).1 - 1)) (R0.set i (if v.1 = 0 ∨ s < v.2 then ((b : Int) + 1, s) else v).2) ((i : Int) - 1) ((b + 1 : Nat) : Int) := by
  have r1 : rd (N0.set i (v.1 - 1)) (i : Int) = v.1 - 1 := by rw [rd_set N0 i i _ (by omega), if_pos rfl]
  have r2 : rd (R0.set i v.2) (i : Int) = v.2 := by rw [rd_set R0 i i _ (by omega), if_pos rfl]
  have six : ∀ t : Bool, colophonref27_Best.j6 (k + 1) l h (l.length : Int) (N0.set i (v.1 - 1)) (R0.set i v.2) ((i : Int) - 1) (b : Int) s t =
      if isF (rd_T43 l (b : Int)) then colophonref27_Best.l0 k l h (l.length : Int) (N0.set i ((if t = true then ((b : Int) + 1, s) else v).1 - 1)) (R0.set i (if t = true then ((b : Int) + 1, s) else v).2) (wrap64 ((i : Int) - 1 - 1))
      else colophonref27_Best.l1 k l h (l.length : Int) (N0.set i ((if t = true then ((b : Int) + 1, s) else v).1 - 1)) (R0.set i (if t = true then ((b : Int) + 1, s) else v).2) ((i : Int) - 1) ((b + 1 : Nat) : Int) := by
    intro t
    rw [colophonref27_Best.j6, hwa]
    cases t with
    | true =>
      rw [if_pos rfl, if_pos (by omega), if_pos (by rw [List.length_set]; omega), Option.bind_some, if_pos (by rw [List.length_set]; omega), Option.bind_some, if_pos (by omega), if_pos (by omega), rforced_val, Option.bind_some, isF_dec, hw, Int.toNat_natCast, List.set_set, List.set_set, if_pos rfl]
      dsimp only
      rw [show (b : Int) + 1 - 1 = (b : Int) by omega]
      by_cases c : isF (rd_T43 l (b : Int))
      · rw [if_pos (decide_eq_true c), if_pos c]
      · rw [if_neg (by rw [decide_eq_true_eq]; exact c), if_neg c]
    | false =>
      have e0 : (if false = true then ((b : Int) + 1, s) else v) = v := if_neg (by decide)
      rw [e0, if_neg (show ¬ false = true by decide), if_pos (show (0 : Int) ≤ (b : Int) by omega), if_pos (show (b : Int) < (l.length : Int) by omega), rforced_val, Option.bind_some, isF_dec, hw]
      by_cases c : isF (rd_T43 l (b : Int))
      · rw [if_pos (decide_eq_true c), if_pos c]
      · rw [if_neg (show ¬ decide (isF (rd_T43 l (b : Int))) = true by rw [decide_eq_true_eq]; exact c), if_neg c]
  rw [colophonref27_Best.j5, hwa, if_pos (by omega), if_pos (by rw [List.length_set]; omega), r1, r2]
  have et : (if true = true then ((b : Int) + 1, s) else v) = ((b : Int) + 1, s) := if_pos rfl
  have ef : (if false = true then ((b : Int) + 1, s) else v) = v := if_neg (by decide)
  by_cases c0 : v.1 = 0
  · have ev : (if v.1 = 0 ∨ s < v.2 then ((b : Int) + 1, s) else v) = ((b : Int) + 1, s) := if_pos (.inl c0)
    rw [if_pos (show v.1 - 1 < 0 by omega), six, et, ev]
  · rw [if_neg (show ¬ v.1 - 1 < 0 by omega), if_pos (by rw [List.length_set]; omega), six]
    by_cases c1 : s < v.2
    · have ev : (if v.1 = 0 ∨ s < v.2 then ((b : Int) + 1, s) else v) = ((b : Int) + 1, s) := if_pos (.inr c1)
      rw [decide_eq_true c1, et, ev]
    · have ev : (if v.1 = 0 ∨ s < v.2 then ((b : Int) + 1, s) else v) = v := if_neg (fun x => x.elim c0 c1)
      rw [decide_eq_false c1, ef, ev]
/-- What is best behind one more break. -/
def nx (X1 X2 : List Int) (l : List S43) (h : Int) (i b : Nat) (v : Int × Int) : Int × Int := match cand X1 X2 l h i b with | none => v | some s => if v.1 = 0 ∨ s < v.2 then ((b : Int) + 1, s) else v
theorem fb_nx (X1 X2 : List Int) (l : List S43) (h : Int) (i c b : Nat) (v : Int × Int) : fb X1 X2 l h i (c + 1) b v = fb X1 X2 l h i c (b + 1) (nx X1 X2 l h i b v) := rfl
theorem nx_pos (X1 X2 : List Int) (l : List S43) (h : Int) (i b : Nat) (v : Int × Int) (hv : 0 ≤ v.1) : 0 ≤ (nx X1 X2 l h i b v).1 := by
  unfold nx
  cases cand X1 X2 l h i b with
  | none => exact hv
  | some s =>
    dsimp only
    by_cases c : v.1 = 0 ∨ s < v.2
    · rw [if_pos c]; dsimp only; omega
    · rw [if_neg c]; exact hv
theorem nx_none (X1 X2 : List Int) (l : List S43) (h : Int) (i b : Nat) (v : Int × Int) (hc : cand X1 X2 l h i b = none) : nx X1 X2 l h i b v = v := by unfold nx; rw [hc]
theorem nx_some (X1 X2 : List Int) (l : List S43) (h : Int) (i b : Nat) (v : Int × Int) (s : Int) (hc : cand X1 X2 l h i b = some s) : nx X1 X2 l h i b v = if v.1 = 0 ∨ s < v.2 then ((b : Int) + 1, s) else v := by unfold nx; rw [hc]
theorem isF_leg (l : List S43) (b : Nat) (hb : b < l.length) (h : isF (rd_T43 l (b : Int))) : legB l (b : Int) = true := by
  unfold legB
  rw [decide_eq_true_eq]
  exact ⟨by omega, by omega, h.1, by rw [h.2]; omega⟩
theorem r_one (l : List S43) (hG : goodP l) (h : Int) (hh : 1 ≤ h ∧ h ≤ 1073741824) (X1 X2 N0 R0 : List Int) (i : Nat) (hi : i < l.length) (n1 : N0.length = l.length + 1) (n2 : R0.length = l.length + 1)
    (hC : ∀ j : Nat, i < j → j < l.length → rd N0 (j : Int) = rd X1 (j : Int) - 1 ∧ rd R0 (j : Int) = rd X2 (j : Int)) (hB : ∀ j : Nat, j < l.length → -40000000 ≤ rd X2 (j : Int) ∧ rd X2 (j : Int) ≤ 40000000)
    (b : Nat) (hib : i ≤ b) (hb : b < l.length) (v : Int × Int) (hv : 0 ≤ v.1) (k : Nat) (hk : 50000 ≤ k) :
    ∃ k', k ≤ k' ∧ colophonref27_Best.l1 (k + 4) l h (l.length : Int) (N0.set i (v.1 - 1)) (R0.set i v.2) ((i : Int) - 1) (b : Int) =
      if isF (rd_T43 l (b : Int)) then colophonref27_Best.l0 k' l h (l.length : Int) (N0.set i ((nx X1 X2 l h i b v).1 - 1)) (R0.set i (nx X1 X2 l h i b v).2) (wrap64 ((i : Int) - 1 - 1))
      else colophonref27_Best.l1 k' l h (l.length : Int) (N0.set i ((nx X1 X2 l h i b v).1 - 1)) (R0.set i (nx X1 X2 l h i b v).2) ((i : Int) - 1) ((b + 1 : Nat) : Int) := by
  have hn := hG.1.2
  have HW := Aside0.mk (show wrap64 ((b : Int) + 1) = ((b + 1 : Nat) : Int) by rw [w_in (by omega)]; omega)
  have HL := Aside0.mk (show wrap64 ((l.length : Int) - 1) = (l.length : Int) - 1 from w_in (by omega))
  have HA := Aside0.mk (show wrap64 ((i : Int) - 1 + 1) = (i : Int) by rw [w_in (by omega)]; omega)
  have HK := Aside0.mk hk
  clear hk
  rw [show k + 4 = (k + 3) + 1 from rfl, colophonref27_Best.l1, if_pos (by omega), rlegal_f, Option.bind_some]
  by_cases hL : legB l (b : Int) = true
  · rw [if_pos hL, rcost_f l hG (k + 3) (Nat.le_trans (by decide : 40000 ≤ 50000) (Nat.le_trans HK.out (Nat.le_add_right _ _))) i b h (by omega) hb hh, Option.bind_some]
    by_cases hO : (costV l i b h).2 = true
    · have hcb := costV_b l hG i b h (by omega) hb hh
      rw [if_pos hO, HL.out]
      by_cases hl : b + 1 = l.length
      · have hc : cand X1 X2 l h i b = some (costV l i b h).1 := by unfold cand; rw [if_pos ⟨hL, hO⟩, if_pos hl]
        refine ⟨k, Nat.le_refl _, ?_⟩
        rw [if_pos (by omega), show k + 3 = (k + 2) + 1 from rfl, colophonref27_Best.j4, if_pos rfl, HL.out, if_neg (by omega), j5_f l k h N0 R0 n1 n2 i b hi hb _ v hv HA.out HW.out, nx_some _ _ _ _ _ _ _ _ hc]
      · obtain ⟨q1, q2⟩ := hC (b + 1) (by omega) (by omega)
        have hb2 := hB (b + 1) (by omega)
        have e1 : rd (N0.set i (v.1 - 1)) ((b + 1 : Nat) : Int) = rd X1 ((b + 1 : Nat) : Int) - 1 := by rw [rd_set N0 i (b + 1) _ (by omega), if_neg (by omega), q1]
        have e2 : rd (R0.set i v.2) ((b + 1 : Nat) : Int) = rd X2 ((b + 1 : Nat) : Int) := by rw [rd_set R0 i (b + 1) _ (by omega), if_neg (by omega), q2]
        have eb : ((b : Int) + 1) = ((b + 1 : Nat) : Int) := by omega
        rw [if_neg (by omega), HW.out, if_pos (by omega), if_pos (by rw [List.length_set]; omega), e1]
        by_cases hz : 0 < rd X1 ((b + 1 : Nat) : Int)
        · have hc : cand X1 X2 l h i b = some ((costV l i b h).1 + rd X2 ((b + 1 : Nat) : Int)) := by unfold cand; rw [if_pos ⟨hL, hO⟩, if_neg hl, eb, if_pos hz]
          refine ⟨k, Nat.le_refl _, ?_⟩
          rw [decide_eq_true (by omega), show k + 3 = (k + 2) + 1 from rfl, colophonref27_Best.j4, if_pos rfl, HL.out, if_pos (by omega), HW.out, if_pos (by omega), if_pos (by rw [List.length_set]; omega), e2, w_in (e := (costV l i b h).1 + _) (by omega), j5_f l k h N0 R0 n1 n2 i b hi hb _ v hv HA.out HW.out, nx_some _ _ _ _ _ _ _ _ hc]
        · have hc : cand X1 X2 l h i b = none := by unfold cand; rw [if_pos ⟨hL, hO⟩, if_neg hl, eb, if_neg hz]
          refine ⟨k + 2, Nat.le_add_right _ _, ?_⟩
          rw [decide_eq_false (by omega), show k + 3 = (k + 2) + 1 from rfl, j4_no l (k + 2) h _ _ _ _ b hb HW.out, nx_none _ _ _ _ _ _ _ hc]
    · have hc : cand X1 X2 l h i b = none := by unfold cand; rw [if_neg (fun x => hO x.2)]
      refine ⟨k + 2, Nat.le_add_right _ _, ?_⟩
      rw [if_neg hO, show k + 3 = (k + 2) + 1 from rfl, j4_no l (k + 2) h _ _ _ _ b hb HW.out, nx_none _ _ _ _ _ _ _ hc]
  · have hc : cand X1 X2 l h i b = none := by unfold cand; rw [if_neg (fun x => hL x.1)]
    refine ⟨k + 3, Nat.le_add_right _ _, ?_⟩
    rw [if_neg hL, HW.out, nx_none _ _ _ _ _ _ _ hc, if_neg (fun x => hL (isF_leg l b hb x))]
theorem r_inner (l : List S43) (hG : goodP l) (h : Int) (hh : 1 ≤ h ∧ h ≤ 1073741824) (X1 X2 N0 R0 : List Int) (i : Nat) (hi : i < l.length) (n1 : N0.length = l.length + 1) (n2 : R0.length = l.length + 1)
    (hC : ∀ j : Nat, i < j → j < l.length → rd N0 (j : Int) = rd X1 (j : Int) - 1 ∧ rd R0 (j : Int) = rd X2 (j : Int)) (hB : ∀ j : Nat, j < l.length → -40000000 ≤ rd X2 (j : Int) ∧ rd X2 (j : Int) ≤ 40000000)
    (mi : Nat) (m2 : mi < l.length) (m3 : ∀ k : Nat, i ≤ k → k < mi → ¬ isF (rd_T43 l (k : Int))) (m4 : isF (rd_T43 l (mi : Int))) : ∀ (c b : Nat) (v : Int × Int) (k : Nat), i ≤ b → b + c = mi → 0 ≤ v.1 → 4 * c + 50004 ≤ k →
    ∃ k', k - (4 * c + 4) ≤ k' ∧ colophonref27_Best.l1 k l h (l.length : Int) (N0.set i (v.1 - 1)) (R0.set i v.2) ((i : Int) - 1) (b : Int) =
      colophonref27_Best.l0 k' l h (l.length : Int) (N0.set i ((fb X1 X2 l h i (c + 1) b v).1 - 1)) (R0.set i (fb X1 X2 l h i (c + 1) b v).2) (wrap64 ((i : Int) - 1 - 1)) := by
  intro c
  induction c with
  | zero =>
    intro b v k hib hbc hv hk
    obtain rfl : b = mi := by omega
    obtain ⟨k, rfl⟩ : ∃ q, k = q + 4 := ⟨k - 4, by omega⟩
    obtain ⟨k', h1, h2⟩ := r_one l hG h hh X1 X2 N0 R0 i hi n1 n2 hC hB b hib m2 v hv k (by omega)
    refine ⟨k', by omega, ?_⟩
    rw [h2, if_pos m4]
    rfl
  | succ c ih =>
    intro b v k hib hbc hv hk
    obtain ⟨k, rfl⟩ : ∃ q, k = q + 4 := ⟨k - 4, by omega⟩
    obtain ⟨k', h1, h2⟩ := r_one l hG h hh X1 X2 N0 R0 i hi n1 n2 hC hB b hib (by omega) v hv k (by omega)
    obtain ⟨k2, g1, g2⟩ := ih (b + 1) (nx X1 X2 l h i b v) k' (by omega) (by omega) (nx_pos _ _ _ _ _ _ _ hv) (by omega)
    refine ⟨k2, by omega, ?_⟩
    rw [h2, if_neg (m3 b hib (by omega)), g2]
    rfl

end Go.Proofs.Ytogjeababinnlaa.PurePagesBest
