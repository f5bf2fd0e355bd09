/- For PagesLeast: the rows that the way that costs least is read from. -/
import Derived.Test.YtogjeababinnlaaPPagesLeastx5
import Derived.Test.YtogjeababinnlaaPurePagesLeastB
namespace Go.Proofs.Ytogjeababinnlaa.PurePagesLeast
open Go.RowKit Go.Proofs.Ytogjeababinnlaa Go.Proofs.Ytogjeababinnlaa.PPagesLeast Go.Proofs.YtogjeababinnlaaW.PrintWords Go.Proofs.YtogjeababinnlaaW.PrintLast Go.Proofs.YtogjeababinnlaaW.PrintMore
/-! ### the way that costs least -/
/-- What goes on from place i over the break b: by the rows that stand. -/
def cand (X1 X2 : List Int) (l : List S43) (h : Int) (i b : Nat) : Option Int :=
  if legB l (b : Int) = true ∧ (costV l i b h).2 = true then (if b + 1 = l.length then some (costV l i b h).1 else if 0 < rd X1 ((b : Int) + 1) then some ((costV l i b h).1 + rd X2 ((b : Int) + 1)) else none) else none
theorem cand_cases {X1 X2 : List Int} {l : List S43} {h : Int} {i b : Nat} {v : Int} (hc : cand X1 X2 l h i b = some v) :
    legB l (b : Int) = true ∧ (costV l i b h).2 = true ∧ ((b + 1 = l.length ∧ v = (costV l i b h).1) ∨ (b + 1 < l.length ∧ 0 < rd X1 ((b : Int) + 1) ∧ v = (costV l i b h).1 + rd X2 ((b : Int) + 1))) := by
  unfold cand at hc
  by_cases c : legB l (b : Int) = true ∧ (costV l i b h).2 = true
  · rw [if_pos c] at hc
    refine ⟨c.1, c.2, ?_⟩
    have hb := leg_b l (b : Int) c.1
    by_cases c2 : b + 1 = l.length
    · rw [if_pos c2] at hc
      exact .inl ⟨c2, (Option.some.inj hc).symm⟩
    · rw [if_neg c2] at hc
      by_cases c3 : 0 < rd X1 ((b : Int) + 1)
      · rw [if_pos c3] at hc
        exact .inr ⟨by omega, c3, (Option.some.inj hc).symm⟩
      · rw [if_neg c3] at hc
        simp at hc
  · rw [if_neg c] at hc
    simp at hc
theorem cost_must {l : List S43} {i b : Nat} {h : Int} (hc : (costV l i b h).2 = true) : (b : Int) ≤ pages_ready.M (l.drop i) i ∧ pg l i b ≤ h := by
  unfold costV at hc
  by_cases c : h - pg l i b < 0 ∨ pages_ready.M (l.drop i) i < (b : Int)
  · rw [if_pos c] at hc; simp at hc
  · constructor <;> omega
/-- The best so far, over c more breaks from b on. -/
def fb (X1 X2 : List Int) (l : List S43) (h : Int) (i : Nat) : Nat → Nat → Int × Int → Int × Int
  | 0, _, v => v
  | c + 1, b, v => fb X1 X2 l h i c (b + 1) (match cand X1 X2 l h i b with | none => v | some s => if v.1 = 0 ∨ s < v.2 then ((b : Int) + 1, s) else v)
theorem rd_set (X : List Int) (i j : Nat) (v : Int) (h : i < X.length) : rd (X.set i v) (j : Int) = if j = i then v else rd X (j : Int) := pages_ready.rd_set X i j v h
theorem inner_f (l : List S43) (hG : goodP l) (h : Int) (hh : 1 ≤ h ∧ h ≤ 1073741824) (X1 X2 : List Int) (l1 : X1.length = l.length) (l2 : X2.length = l.length) (i : Nat) (hi : i < l.length)
    (hB : ∀ j : Nat, j < l.length → -40000000 ≤ rd X2 (j : Int) ∧ rd X2 (j : Int) ≤ 40000000) : ∀ (c b : Nat) (v : Int × Int), i ≤ b → b + c ≤ l.length →
    pages_Best.inner l h i c b (X1.set i v.1, X2.set i v.2) = some (X1.set i (fb X1 X2 l h i c b v).1, X2.set i (fb X1 X2 l h i c b v).2) := by
  have hn := hG.1.2
  intro c
  induction c with
  | zero => intro b v _ _; rfl
  | succ c ih =>
    intro b v hib hbc
    have hbn : b < l.length := by omega
    have e1 : ((b : Int) + 1) = ((b + 1 : Nat) : Int) := by omega
    rw [pages_Best.inner, legal_f, Option.bind_some, fb]
    by_cases hL : legB l (b : Int) = true
    · rw [if_neg (by rw [hL]; decide), cost_f l hG i b h (by omega) hbn hh, Option.bind_some]
      by_cases hO : (costV l i b h).2 = true
      · rw [if_neg (by rw [hO]; decide)]
        have hcb := costV_b l hG i b h (by omega) hbn hh
        have tkv : ∀ s : Int, pages_Best.tk (X1.set i v.1, X2.set i v.2) i (b : Int) s = (X1.set i (if v.1 = 0 ∨ s < v.2 then ((b : Int) + 1, s) else v).1, X2.set i (if v.1 = 0 ∨ s < v.2 then ((b : Int) + 1, s) else v).2) := by
          intro s
          unfold pages_Best.tk
          dsimp only
          rw [rd_set X1 i i _ (by omega), rd_set X2 i i _ (by omega), if_pos rfl, if_pos rfl, w_in (e := (b : Int) + 1) (by omega)]
          by_cases c1 : v.1 = 0 ∨ s < v.2
          · rw [if_pos c1, if_pos c1, List.set_set, List.set_set]
          · rw [if_neg c1, if_neg c1]
        by_cases hl : b + 1 = l.length
        · have hc : cand X1 X2 l h i b = some (costV l i b h).1 := by unfold cand; rw [if_pos ⟨hL, hO⟩, if_pos hl]
          rw [if_pos (show (b : Int) = (l.length : Int) - 1 by omega), tkv, hc, ih (b + 1) _ (by omega) (by omega)]
        · have hr1 : rd (X1.set i v.1) ((b : Int) + 1) = rd X1 ((b : Int) + 1) := by rw [e1, rd_set X1 i (b + 1) _ (by omega), if_neg (by omega)]
          have hr2 : rd (X2.set i v.2) ((b : Int) + 1) = rd X2 ((b : Int) + 1) := by rw [e1, rd_set X2 i (b + 1) _ (by omega), if_neg (by omega)]
          rw [if_neg (show ¬ (b : Int) = (l.length : Int) - 1 by omega), if_pos (show b + 1 < l.length by omega)]
          dsimp only
          rw [hr1, hr2]
          by_cases hz : 0 < rd X1 ((b : Int) + 1)
          · have hc : cand X1 X2 l h i b = some ((costV l i b h).1 + rd X2 ((b : Int) + 1)) := by unfold cand; rw [if_pos ⟨hL, hO⟩, if_neg hl, if_pos hz]
            have hb2 := hB (b + 1) (by omega)
            rw [← e1] at hb2
            rw [if_pos hz, w_in (e := (costV l i b h).1 + _) (by omega), tkv, hc, ih (b + 1) _ (by omega) (by omega)]
          · have hc : cand X1 X2 l h i b = none := by unfold cand; rw [if_pos ⟨hL, hO⟩, if_neg hl, if_neg hz]
            rw [if_neg hz, hc, ih (b + 1) _ (by omega) (by omega)]
      · have hc : cand X1 X2 l h i b = none := by unfold cand; rw [if_neg (fun x => hO x.2)]
        rw [if_pos (by simpa using hO), hc, ih (b + 1) _ (by omega) (by omega)]
    · have hc : cand X1 X2 l h i b = none := by unfold cand; rw [if_neg (fun x => hL x.1)]
      rw [if_pos (by simpa using hL), hc, ih (b + 1) _ (by omega) (by omega)]
/-- What fb comes to. -/
theorem fb_spec (X1 X2 : List Int) (l : List S43) (h : Int) (i : Nat) : ∀ (c b : Nat) (v : Int × Int),
    (v.1 = 0 ∨ ∃ b' : Nat, i ≤ b' ∧ b' < b ∧ v.1 = (b' : Int) + 1 ∧ cand X1 X2 l h i b' = some v.2) → (∀ b' : Nat, i ≤ b' → b' < b → ∀ s, cand X1 X2 l h i b' = some s → v.1 ≠ 0 ∧ v.2 ≤ s) → i ≤ b →
    ((fb X1 X2 l h i c b v).1 = 0 ∧ (fb X1 X2 l h i c b v).2 = v.2 ∧ v.1 = 0 ∨ ∃ b' : Nat, i ≤ b' ∧ b' < b + c ∧ (fb X1 X2 l h i c b v).1 = (b' : Int) + 1 ∧ cand X1 X2 l h i b' = some (fb X1 X2 l h i c b v).2) ∧
    (∀ b' : Nat, i ≤ b' → b' < b + c → ∀ s, cand X1 X2 l h i b' = some s → (fb X1 X2 l h i c b v).1 ≠ 0 ∧ (fb X1 X2 l h i c b v).2 ≤ s) := by
  intro c
  induction c with
  | zero =>
    intro b v h1 h2 _
    refine ⟨?_, h2⟩
    rcases h1 with h1 | ⟨b', a1, a2, a3, a4⟩
    · exact .inl ⟨h1, rfl, h1⟩
    · exact .inr ⟨b', a1, by omega, a3, a4⟩
  | succ c ih =>
    intro b v h1 h2 hib
    rw [fb]
    cases hc : cand X1 X2 l h i b with
    | none =>
      dsimp only
      obtain ⟨g1, g2⟩ := ih (b + 1) v (by
        rcases h1 with h1 | ⟨b', a1, a2, a3, a4⟩
        · exact .inl h1
        · exact .inr ⟨b', a1, by omega, a3, a4⟩) (fun b' p1 p2 s hs => by
          by_cases e : b' = b
          · rw [e, hc] at hs; simp at hs
          · exact h2 b' p1 (by omega) s hs) (by omega)
      refine ⟨?_, fun b' p1 p2 s hs => g2 b' p1 (by omega) s hs⟩
      rcases g1 with g1 | ⟨b', a1, a2, a3, a4⟩
      · exact .inl g1
      · exact .inr ⟨b', a1, by omega, a3, a4⟩
    | some s0 =>
      dsimp only
      by_cases ct : v.1 = 0 ∨ s0 < v.2
      · rw [if_pos ct]
        obtain ⟨g1, g2⟩ := ih (b + 1) ((b : Int) + 1, s0) (.inr ⟨b, hib, by omega, rfl, hc⟩) (fun b' p1 p2 s hs => by
          dsimp only
          by_cases e : b' = b
          · rw [e, hc] at hs
            have := Option.some.inj hs
            exact ⟨by omega, by omega⟩
          · obtain ⟨q1, q2⟩ := h2 b' p1 (by omega) s hs
            rcases ct with ct | ct
            · exact absurd ct q1
            · exact ⟨by omega, by omega⟩) (by omega)
        refine ⟨?_, fun b' p1 p2 s hs => g2 b' p1 (by omega) s hs⟩
        rcases g1 with ⟨_, _, g1⟩ | ⟨b', a1, a2, a3, a4⟩
        · exfalso
          dsimp only at g1
          omega
        · exact .inr ⟨b', a1, by omega, a3, a4⟩
      · rw [if_neg ct]
        obtain ⟨g1, g2⟩ := ih (b + 1) v (by
          rcases h1 with h1 | ⟨b', a1, a2, a3, a4⟩
          · exact .inl h1
          · exact .inr ⟨b', a1, by omega, a3, a4⟩) (fun b' p1 p2 s hs => by
            by_cases e : b' = b
            · rw [e, hc] at hs
              have := Option.some.inj hs
              exact ⟨fun z => ct (.inl z), by
                have : ¬ s0 < v.2 := fun z => ct (.inr z)
                omega⟩
            · exact h2 b' p1 (by omega) s hs) (by omega)
        refine ⟨?_, fun b' p1 p2 s hs => g2 b' p1 (by omega) s hs⟩
        rcases g1 with g1 | ⟨b', a1, a2, a3, a4⟩
        · exact .inl g1
        · exact .inr ⟨b', a1, by omega, a3, a4⟩
/-- From where one may go on. -/
def elig (l : List S43) (i : Nat) : Prop := i = 0 ∨ legB l ((i : Int) - 1) = true
instance (l : List S43) (i : Nat) : Decidable (elig l i) := by unfold elig; infer_instance
/-- Row i is right. -/
def Rel (X1 X2 : List Int) (l : List S43) (h : Int) (i : Nat) : Prop :=
  (rd X1 (i : Int) = 0 ∨ ∃ b : Nat, i ≤ b ∧ b < l.length ∧ rd X1 (i : Int) = (b : Int) + 1 ∧ cand X1 X2 l h i b = some (rd X2 (i : Int))) ∧
  (∀ b : Nat, i ≤ b → ∀ s, cand X1 X2 l h i b = some s → rd X1 (i : Int) ≠ 0 ∧ rd X2 (i : Int) ≤ s)
/-- The rows from place i on are right, those ahead are 0. -/
structure DP (X1 X2 : List Int) (l : List S43) (h : Int) (i : Nat) : Prop where
  l1 : X1.length = l.length
  l2 : X2.length = l.length
  done : ∀ j : Nat, i ≤ j → j < l.length → elig l j → Rel X1 X2 l h j
  none : ∀ j : Nat, i ≤ j → j < l.length → ¬ elig l j → rd X1 (j : Int) = 0
  zero : ∀ j : Nat, j < i → rd X1 (j : Int) = 0 ∧ rd X2 (j : Int) = 0
  pos : ∀ j : Nat, j < l.length → 0 ≤ rd X1 (j : Int)
  bnd : ∀ j : Nat, j < l.length → -20000 * ((l.length : Int) - (j : Int)) ≤ rd X2 (j : Int) ∧ rd X2 (j : Int) ≤ 20000 * ((l.length : Int) - (j : Int))
  nil : ∀ j : Nat, j < l.length → rd X1 (j : Int) = 0 → rd X2 (j : Int) = 0
theorem cand_far {X1 X2 Y1 Y2 : List Int} {l : List S43} {h : Int} {i b : Nat} (h1 : rd X1 ((b : Int) + 1) = rd Y1 ((b : Int) + 1)) (h2 : rd X2 ((b : Int) + 1) = rd Y2 ((b : Int) + 1)) : cand X1 X2 l h i b = cand Y1 Y2 l h i b := by
  unfold cand
  rw [h1, h2]
theorem dp_step (l : List S43) (hG : goodP l) (h : Int) (hh : 1 ≤ h ∧ h ≤ 1073741824) (i : Nat) (hi : i < l.length) (X1 X2 : List Int) (hD : DP X1 X2 l h (i + 1)) :
    ∃ Y1 Y2, DP Y1 Y2 l h i ∧ pages_Best.outer l h (i + 1) (X1, X2) = pages_Best.outer l h i (Y1, Y2) := by
  have hn := hG.1.2
  obtain ⟨l1, l2, hdone, hnone, hzero, hpos, hbnd, hnil⟩ := hD
  rw [pages_Best.outer]
  have hleg : (if 1 ≤ i then pages_column_legal.f l (pages_ready.hs l) (pages_ready.fs l) (pages_ready.ms l) ((i : Int) - 1) else some true) = some (decide (elig l i)) := by
    by_cases c : 1 ≤ i
    · rw [if_pos c, legal_f]
      congr 1
      rw [Bool.eq_iff_iff, decide_eq_true_iff]
      unfold elig
      constructor
      · intro x; exact .inr x
      · intro x; rcases x with x | x
        · omega
        · exact x
    · rw [if_neg c]
      congr 1
      symm
      rw [decide_eq_true_iff]
      exact .inl (by omega)
  rw [hleg, Option.bind_some]
  by_cases he : elig l i
  · rw [decide_eq_true he, if_neg (by decide)]
    obtain ⟨mi, e, m1, m2, m3, m4⟩ := M_good l hG i hi
    have hz := hzero i (by omega)
    have hms : (rd (pages_ready.ms l) (i : Int) + 1 - (i : Int)).toNat = mi + 1 - i := by rw [ms_rd l i (by omega), e]; omega
    have s1 : X1.set i 0 = X1 := by
      apply List.ext_getElem
      · simp
      · intro k p1 p2
        rw [List.getElem_set]
        by_cases ek : i = k
        · subst ek
          rw [if_pos rfl]
          have := hz.1
          simp [rd, List.getD_eq_getElem?_getD, p2] at this
          exact this.symm
        · rw [if_neg ek]
    have s2 : X2.set i 0 = X2 := by
      apply List.ext_getElem
      · simp
      · intro k p1 p2
        rw [List.getElem_set]
        by_cases ek : i = k
        · subst ek
          rw [if_pos rfl]
          have := hz.2
          simp [rd, List.getD_eq_getElem?_getD, p2] at this
          exact this.symm
        · rw [if_neg ek]
    have hin := inner_f l hG h hh X1 X2 l1 l2 i hi (fun j hj => by have := hbnd j hj; omega) (mi + 1 - i) i (0, 0) (Nat.le_refl _) (by omega)
    dsimp only at hin
    rw [s1, s2] at hin
    rw [hms, hin, Option.bind_some]
    obtain ⟨g1, g2⟩ := fb_spec X1 X2 l h i (mi + 1 - i) i (0, 0) (.inl rfl) (fun b' p1 p2 => by omega) (Nat.le_refl _)
    generalize fb X1 X2 l h i (mi + 1 - i) i (0, 0) = v at g1 g2
    refine ⟨_, _, ?_, rfl⟩
    have far : ∀ i' b : Nat, i ≤ b → cand (X1.set i v.1) (X2.set i v.2) l h i' b = cand X1 X2 l h i' b := by
      intro i' b hb
      refine cand_far ?_ ?_
      · rw [show (b : Int) + 1 = ((b + 1 : Nat) : Int) by omega, rd_set X1 i (b + 1) _ (by omega), if_neg (by omega)]
      · rw [show (b : Int) + 1 = ((b + 1 : Nat) : Int) by omega, rd_set X2 i (b + 1) _ (by omega), if_neg (by omega)]
    have r1 : ∀ j : Nat, rd (X1.set i v.1) (j : Int) = if j = i then v.1 else rd X1 (j : Int) := fun j => rd_set X1 i j _ (by omega)
    have r2 : ∀ j : Nat, rd (X2.set i v.2) (j : Int) = if j = i then v.2 else rd X2 (j : Int) := fun j => rd_set X2 i j _ (by omega)
    refine ⟨by rw [List.length_set]; exact l1, by rw [List.length_set]; exact l2, ?_, ?_, ?_, ?_, ?_, ?_⟩
    · intro j h1 h2 h3
      by_cases ej : j = i
      · subst ej
        unfold Rel
        rw [r1, r2, if_pos rfl, if_pos rfl]
        refine ⟨?_, fun b p1 s hs => ?_⟩
        · rcases g1 with ⟨g1, _, _⟩ | ⟨b', a1, a2, a3, a4⟩
          · exact .inl g1
          · exact .inr ⟨b', a1, by omega, a3, by rw [far j b' a1]; exact a4⟩
        · rw [far j b p1] at hs
          have hb := cost_must (cand_cases hs).2.1
          rw [e] at hb
          exact g2 b p1 (by omega) s hs
      · obtain ⟨q1, q2⟩ := hdone j (by omega) h2 h3
        unfold Rel
        rw [r1, r2, if_neg ej, if_neg ej]
        refine ⟨?_, fun b p1 s hs => ?_⟩
        · rcases q1 with q1 | ⟨b, a1, a2, a3, a4⟩
          · exact .inl q1
          · exact .inr ⟨b, a1, a2, a3, by rw [far j b (by omega)]; exact a4⟩
        · rw [far j b (by omega)] at hs
          exact q2 b p1 s hs
    · intro j h1 h2 h3
      by_cases ej : j = i
      · subst ej; exact absurd he h3
      · rw [r1, if_neg ej]; exact hnone j (by omega) h2 h3
    · intro j hj
      rw [r1, r2, if_neg (by omega), if_neg (by omega)]
      exact hzero j (by omega)
    · intro j hj
      rw [r1]
      by_cases ej : j = i
      · rw [if_pos ej]
        rcases g1 with ⟨g1, _, _⟩ | ⟨b', a1, a2, a3, a4⟩ <;> omega
      · rw [if_neg ej]; exact hpos j hj
    · intro j hj
      rw [r2]
      by_cases ej : j = i
      · rw [if_pos ej]
        rcases g1 with ⟨_, g1, _⟩ | ⟨b', a1, a2, a3, a4⟩
        · dsimp only at g1
          omega
        · obtain ⟨q1, q2, q3⟩ := cand_cases a4
          have hcb := costV_b l hG i b' h (by omega) (by omega) hh
          rcases q3 with ⟨q3, q4⟩ | ⟨q3, q4, q5⟩
          · omega
          · have := hbnd (b' + 1) (by omega)
            rw [show ((b' + 1 : Nat) : Int) = (b' : Int) + 1 by omega] at this
            omega
      · rw [if_neg ej]; exact hbnd j hj
    · intro j hj
      rw [r1, r2]
      by_cases ej : j = i
      · rw [if_pos ej, if_pos ej]
        rcases g1 with ⟨_, g1, _⟩ | ⟨b', a1, a2, a3, a4⟩
        · intro _; exact g1
        · intro z; omega
      · rw [if_neg ej, if_neg ej]; exact hnil j hj
  · rw [decide_eq_false he, if_pos rfl]
    refine ⟨X1, X2, ⟨l1, l2, ?_, ?_, fun j hj => hzero j (by omega), hpos, hbnd, hnil⟩, rfl⟩
    · intro j h1 h2 h3
      by_cases ej : j = i
      · subst ej; exact absurd h3 he
      · exact hdone j (by omega) h2 h3
    · intro j h1 h2 h3
      by_cases ej : j = i
      · subst ej; exact (hzero j (by omega)).1
      · exact hnone j (by omega) h2 h3
theorem dp_all (l : List S43) (hG : goodP l) (h : Int) (hh : 1 ≤ h ∧ h ≤ 1073741824) : ∀ (i : Nat) (X1 X2 : List Int), i ≤ l.length → DP X1 X2 l h i → ∃ Y1 Y2, DP Y1 Y2 l h 0 ∧ pages_Best.outer l h i (X1, X2) = some (Y1, Y2)
  | 0, X1, X2, _, hD => ⟨X1, X2, hD, rfl⟩
  | i + 1, X1, X2, hi, hD => by
    obtain ⟨Y1, Y2, h1, h2⟩ := dp_step l hG h hh i (by omega) X1 X2 hD
    rw [h2]
    exact dp_all l hG h hh i Y1 Y2 (by omega) h1
theorem zeros_rd (n j : Nat) : rd (Pg.zeros n) (j : Int) = 0 := by
  unfold rd Pg.zeros
  rw [List.getD_eq_getElem?_getD, List.getElem?_replicate]
  split <;> rfl
theorem dp (l : List S43) (hG : goodP l) (h : Int) (hh : 1 ≤ h ∧ h ≤ 1073741824) : ∃ Y1 Y2, DP Y1 Y2 l h 0 ∧ pages_Best.outer l h l.length (Pg.zeros l.length, Pg.zeros l.length) = some (Y1, Y2) := by
  refine dp_all l hG h hh l.length _ _ (Nat.le_refl _) ⟨by simp [Pg.zeros], by simp [Pg.zeros], fun j h1 h2 => by omega, fun j h1 h2 => by omega, fun j _ => ⟨zeros_rd _ _, zeros_rd _ _⟩, fun j _ => by rw [zeros_rd]; exact Int.le_refl _, fun j hj => by rw [zeros_rd]; omega, fun j _ _ => zeros_rd _ _⟩

end Go.Proofs.Ytogjeababinnlaa.PurePagesLeast
