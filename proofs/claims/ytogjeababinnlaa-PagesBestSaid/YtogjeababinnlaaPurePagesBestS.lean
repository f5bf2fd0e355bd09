/- For PagesBest: the reference's Best is the program's. -/
import Derived.Test.YtogjeababinnlaaPPagesBestx8
import Derived.Test.YtogjeababinnlaaPurePagesBestD
import Derived.Test.YtogjeababinnlaaPurePagesBestR
namespace Go.Proofs.Ytogjeababinnlaa.PurePagesBest
open Go.RowKit Go.Proofs.Ytogjeababinnlaa Go.Proofs.Ytogjeababinnlaa.PPagesBest Go.Proofs.YtogjeababinnlaaW.PrintWords Go.Proofs.YtogjeababinnlaaW.PrintLast Go.Proofs.YtogjeababinnlaaW.PrintMore
theorem rr_step (l : List S43) (hG : goodP l) (h : Int) (hh : 1 ≤ h ∧ h ≤ 1073741824) (i : Nat) (hi : i < l.length) (X1 X2 N R Y1 Y2 : List Int) (hD : DP X1 X2 l h (i + 1)) (hC : Corr N R X1 X2 l.length (i + 1))
    (hY : (elig l i ∧ ∃ mi : Nat, pages_ready.M (l.drop i) i = (mi : Int) ∧ Y1 = X1.set i (fb X1 X2 l h i (mi + 1 - i) i (0, 0)).1 ∧ Y2 = X2.set i (fb X1 X2 l h i (mi + 1 - i) i (0, 0)).2) ∨ (¬ elig l i ∧ Y1 = X1 ∧ Y2 = X2)) :
    ∃ N' R', Corr N' R' Y1 Y2 l.length i ∧ ∀ k : Nat, 60000 ≤ k → ∃ k', k - 6000 ≤ k' ∧ colophonref27_Best.l0 k l h (l.length : Int) N R (((i + 1 : Nat) : Int) - 2) = colophonref27_Best.l0 k' l h (l.length : Int) N' R' ((i : Int) - 2) := by
  have hn := hG.1.2
  obtain ⟨n1, n2, hsame, hzero⟩ := hC
  have HA := Aside0.mk (show wrap64 ((i : Int) - 1 + 1) = (i : Int) by rw [w_in (by omega)]; omega)
  have HB := Aside0.mk (show wrap64 ((i : Int) - 1 - 1) = (i : Int) - 2 by rw [w_in (by omega)]; omega)
  have z1 := hD.zero i (by omega)
  have zr := hzero i (by omega)
  have go : ∀ k : Nat, colophonref27_Best.l0 (k + 2) l h (l.length : Int) N R ((i : Int) - 1) = if elig l i then colophonref27_Best.l1 k l h (l.length : Int) (N.set i (-1)) R ((i : Int) - 1) (i : Int) else colophonref27_Best.l0 k l h (l.length : Int) (N.set i (-1)) R ((i : Int) - 2) := by
    intro k
    have two : ∀ t : Bool, colophonref27_Best.j2 (k + 1) l h (l.length : Int) (N.set i (-1)) R ((i : Int) - 1) t = if t = true then colophonref27_Best.l0 k l h (l.length : Int) (N.set i (-1)) R ((i : Int) - 2) else colophonref27_Best.l1 k l h (l.length : Int) (N.set i (-1)) R ((i : Int) - 1) (i : Int) := by
      intro t
      rw [colophonref27_Best.j2, HA.out, HB.out]
    rw [show k + 2 = (k + 1) + 1 from rfl, colophonref27_Best.l0, if_pos (show (i : Int) - 1 ≥ -1 by omega), HA.out, if_pos (by omega), if_pos (by omega), Option.bind_some, Int.toNat_natCast]
    by_cases c0 : (i : Int) - 1 ≥ 0
    · rw [if_pos c0, rlegal_f, Option.bind_some, two]
      by_cases hl : legB l ((i : Int) - 1) = true
      · rw [hl, if_neg (by decide), if_pos (.inr hl)]
      · have he : ¬ elig l i := fun x => x.elim (fun y => by omega) hl
        rw [if_neg he, if_pos (by simpa using hl)]
    · have he : elig l i := .inl (by omega)
      rw [if_neg c0, two, if_neg (by decide), if_pos he]
  have ecast : (((i + 1 : Nat) : Int) - 2) = (i : Int) - 1 := by omega
  rcases hY with ⟨he, mi, em, rfl, rfl⟩ | ⟨he, rfl, rfl⟩
  · obtain ⟨mj, e, m1, m2, m3, m4⟩ := M_good l hG i hi
    obtain rfl : mi = mj := by omega
    have hin := r_inner l hG h hh X1 X2 N R i hi n1 n2 (fun j g1 g2 => hsame j (by omega) g2) (fun j hj => by have := hD.bnd j hj; omega) mi m2 m3 m4 (mi - i) i (0, 0)
    rw [show mi - i + 1 = mi + 1 - i by omega] at hin
    generalize fb X1 X2 l h i (mi + 1 - i) i (0, 0) = v at hin ⊢
    refine ⟨N.set i (v.1 - 1), R.set i v.2, ⟨by rw [List.length_set]; exact n1, by rw [List.length_set]; exact n2, ?_, ?_⟩, ?_⟩
    · intro j g1 g2
      rw [rd_set N i j _ (by omega), rd_set R i j _ (by omega), rd_set X1 i j _ (by rw [hD.l1]; omega), rd_set X2 i j _ (by rw [hD.l2]; omega)]
      by_cases ej : j = i
      · rw [if_pos ej, if_pos ej, if_pos ej, if_pos ej]
        exact ⟨rfl, rfl⟩
      · rw [if_neg ej, if_neg ej, if_neg ej, if_neg ej]
        exact hsame j (by omega) g2
    · intro j hj
      rw [rd_set R i j _ (by omega), if_neg (by omega)]
      exact hzero j (by omega)
    · intro k hk
      obtain ⟨q, rfl⟩ : ∃ q, k = q + 2 := ⟨k - 2, by omega⟩
      obtain ⟨k', h1, h2⟩ := hin q (Nat.le_refl _) (by omega) (Int.le_refl _) (by omega)
      refine ⟨k', by omega, ?_⟩
      dsimp only at h2
      rw [set_same R i 0 (by omega) zr, show (0 : Int) - 1 = -1 by omega, HB.out] at h2
      rw [ecast, go, if_pos he, h2]
  · refine ⟨N.set i (-1), R, ⟨by rw [List.length_set]; exact n1, n2, ?_, fun j hj => hzero j (by omega)⟩, ?_⟩
    · intro j g1 g2
      rw [rd_set N i j _ (by omega)]
      by_cases ej : j = i
      · subst ej
        rw [if_pos rfl, zr, z1.1, z1.2]
        exact ⟨rfl, rfl⟩
      · rw [if_neg ej]
        exact hsame j (by omega) g2
    · intro k hk
      obtain ⟨q, rfl⟩ : ∃ q, k = q + 2 := ⟨k - 2, by omega⟩
      exact ⟨q, by omega, by rw [ecast, go, if_neg he]⟩
/-- Rounds enough. -/
def fuel (i k : Nat) : Prop := 60000 + 6000 * i ≤ k
theorem fuel_0 (i k : Nat) (h : fuel i k) : 60000 ≤ k := by unfold fuel at h; omega
theorem fuel_s (i k k' : Nat) (h : fuel (i + 1) k) (h' : k - 6000 ≤ k') : fuel i k' := by unfold fuel at h ⊢; omega
theorem r_all (l : List S43) (hG : goodP l) (h : Int) (hh : 1 ≤ h ∧ h ≤ 1073741824) : ∀ (i : Nat) (X1 X2 N R : List Int), i ≤ l.length → DP X1 X2 l h i → Corr N R X1 X2 l.length i →
    ∃ Y1 Y2 N' R', DP Y1 Y2 l h 0 ∧ Corr N' R' Y1 Y2 l.length 0 ∧ pages_Best.outer l h i (X1, X2) = some (Y1, Y2) ∧ ∀ k : Nat, fuel i k → ∃ k', 60000 ≤ k' ∧ colophonref27_Best.l0 k l h (l.length : Int) N R ((i : Int) - 2) = colophonref27_Best.l0 k' l h (l.length : Int) N' R' (-2)
  | 0, X1, X2, N, R, _, hD, hC => ⟨X1, X2, N, R, hD, hC, rfl, fun k hk => ⟨k, fuel_0 _ _ hk, rfl⟩⟩
  | i + 1, X1, X2, N, R, hi, hD, hC => by
    obtain ⟨Y1, Y2, h1, h2, h3⟩ := dp_step l hG h hh i (by omega) X1 X2 hD
    obtain ⟨N', R', g1, g2⟩ := rr_step l hG h hh i (by omega) X1 X2 N R Y1 Y2 hD hC h3
    obtain ⟨Z1, Z2, N2, R2, q1, q2, q3, q4⟩ := r_all l hG h hh i Y1 Y2 N' R' (by omega) h1 g1
    refine ⟨Z1, Z2, N2, R2, q1, q2, by rw [h2]; exact q3, fun k hk => ?_⟩
    obtain ⟨k', e1, e2⟩ := g2 k (fuel_0 _ _ hk)
    obtain ⟨k2, e3, e4⟩ := q4 k' (fuel_s _ _ _ hk e1)
    exact ⟨k2, e3, e2.trans e4⟩
theorem r_path (l : List S43) (hG : goodP l) (h : Int) (Y1 Y2 N R : List Int) (hD : DP Y1 Y2 l h 0) (hC : Corr N R Y1 Y2 l.length 0) : ∀ (k : Nat) (a : Int) (out res : List Int) (K : Nat), k ≤ K → -1 ≤ a → a ≤ (l.length : Int) - 1 → out.length + k ≤ 100000 →
    pages_Best.path Y1 ((l.length : Int) - 1) k a out = some res → colophonref27_Best.l2 K (l.length : Int) N R out a = some (res, rd R 0, true) := by
  have hn := hG.1
  have HL := Aside0.mk (show wrap64 ((l.length : Int) - 1) = (l.length : Int) - 1 from w_in (by omega))
  intro k
  induction k with
  | zero => intro a out res K _ _ _ _ he; simp [pages_Best.path] at he
  | succ k ih =>
    intro a out res K hK ha1 ha2 ho he
    obtain ⟨K, rfl⟩ : ∃ q, K = q + 1 := ⟨K - 1, by omega⟩
    have hR := hC.l2
    rw [pages_Best.path] at he
    rw [colophonref27_Best.l2, HL.out]
    by_cases c : a < (l.length : Int) - 1
    · have HW := Aside0.mk (show wrap64 (a + 1) = a + 1 from w_in (by omega))
      rw [if_pos c, HW.out, if_pos (by omega), if_pos (by rw [hD.l1]; omega)] at he
      obtain ⟨j, ej⟩ : ∃ j : Nat, a + 1 = (j : Int) := ⟨(a + 1).toNat, by omega⟩
      obtain ⟨s1, _⟩ := hC.same j (Nat.zero_le _) (by omega)
      have hp := hD.pos j (by omega)
      have hle : rd Y1 (j : Int) ≤ (l.length : Int) := by
        by_cases hel : elig l j
        · rcases (hD.done j (Nat.zero_le _) (by omega) hel).1 with z | ⟨b, b1, b2, b3, _⟩
          · omega
          · omega
        · have := hD.none j (Nat.zero_le _) (by omega) hel
          omega
      have HV := Aside0.mk (show wrap64 (rd Y1 (j : Int) - 1) = rd N (j : Int) by rw [w_in (by omega), s1])
      rw [ej, HV.out] at he
      have hN := hC.l1
      rw [if_neg (by omega), HW.out, if_pos (by omega), if_pos (by omega), if_pos (by omega), ej]
      exact ih (rd N (j : Int)) _ res K (by omega) (by omega) (by omega) (by rw [List.length_append, List.length_singleton]; omega) he
    · rw [if_neg c] at he
      obtain rfl := Option.some.inj he
      rw [if_pos (by omega), if_pos (by omega)]
theorem rbest_f (K : Nat) (hK : 10000000 ≤ K) (l : List S43) (hl : l.length ≤ 5000) (h : Int) : colophonref27_Best.f K l h = pages_Best.f K l h := by
  have hK' : 20000 ≤ K := Nat.le_trans (by decide) hK
  unfold colophonref27_Best.f pages_Best.f
  rw [good_f K hK' l hl, rgood_f K hK' l hl, Option.bind_some, Option.bind_some]
  obtain ⟨K, rfl⟩ : ∃ q, K = q + 2 := ⟨K - 2, by omega⟩
  have hj : colophonref27_Best.j0 (K + 2) l h true = some ([], 0, false) := by rw [colophonref27_Best.j0, if_pos rfl]
  by_cases hG : goodP l
  · rw [decide_eq_true hG, if_pos rfl, if_neg (show ¬ true = false by decide), room_f, Option.bind_some]
    have hn := hG.1
    by_cases h1 : h < 1
    · rw [if_pos h1, hj, decide_eq_false (by omega), if_pos rfl]
    · rw [if_neg h1]
      by_cases h2 : h > 1073741824
      · rw [decide_eq_true h2, hj, decide_eq_false (by omega), if_pos rfl]
      · have hh : 1 ≤ h ∧ h ≤ 1073741824 := by omega
        have HW := Aside0.mk (show wrap64 ((l.length : Int) + 1) = ((l.length + 1 : Nat) : Int) by rw [w_in (by omega)]; omega)
        have HV := Aside0.mk (show wrap64 ((l.length : Int) - 2) = (l.length : Int) - 2 from w_in (by omega))
        have rz : ∀ (n j : Nat), rd (List.replicate n (0 : Int)) (j : Int) = 0 := fun n j => zeros_rd n j
        obtain ⟨Y1, Y2, N, R, q1, q2, q3, q4⟩ := r_all l hG h hh l.length (Pg.zeros l.length) (Pg.zeros l.length) (List.replicate (l.length + 1) 0) (List.replicate (l.length + 1) 0) (Nat.le_refl _)
          ⟨by simp [Pg.zeros], by simp [Pg.zeros], fun j h1 h2 => by omega, fun j h1 h2 => by omega, fun j _ => ⟨zeros_rd _ _, zeros_rd _ _⟩, fun j _ => by rw [zeros_rd]; exact Int.le_refl _, fun j hj => by rw [zeros_rd]; omega, fun j _ _ => zeros_rd _ _⟩
          ⟨by simp, by simp, fun j h1 h2 => by omega, fun j _ => rz _ _⟩
        obtain ⟨k', e1, e2⟩ := q4 (K + 1) (by unfold fuel; omega)
        rw [decide_eq_false h2, colophonref27_Best.j0, if_neg (by decide), HW.out, if_pos (by omega), Int.toNat_natCast, if_pos (by omega), HV.out, e2, decide_eq_true hh, if_neg (show ¬ true = false by decide), if_pos hn, q3, Option.bind_some]
        obtain ⟨k', rfl⟩ : ∃ q, k' = q + 1 := ⟨k' - 1, by omega⟩
        have s0 := q2.same 0 (Nat.le_refl _) (by omega)
        have hp := q1.pos 0 (by omega)
        have hN := q2.l1
        have e0 : ((0 : Nat) : Int) = 0 := rfl
        rw [e0] at s0 hp
        dsimp only
        rw [colophonref27_Best.l0, if_neg (by omega), if_pos (by omega)]
        by_cases hz : rd Y1 0 = 0
        · rw [if_pos hz, if_pos (by omega)]
        · rw [if_neg hz, if_neg (by omega)]
          obtain ⟨p, p1, p2, p3, p4, p5⟩ := way_path l hG h Y1 Y2 q1 l.length 0 (by omega) (by omega) (.inl rfl) hz
          have pp := p5 (l.length + 1) [] (Nat.le_refl _)
          rw [show (((0 : Nat) : Int) - 1) = -1 by omega, List.nil_append] at pp
          rw [r_path l hG h Y1 Y2 N R q1 q2 (l.length + 1) (-1) [] p k' (by omega) (by omega) (by omega) (by simp; omega) pp, pp, Option.bind_some, s0.2]
  · rw [decide_eq_false hG, if_neg (by decide), if_pos rfl, hj]

end Go.Proofs.Ytogjeababinnlaa.PurePagesBest
