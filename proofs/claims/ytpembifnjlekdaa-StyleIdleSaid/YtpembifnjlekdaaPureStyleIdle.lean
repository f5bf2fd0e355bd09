/- The plain law of StyleIdle: a rule that does not match changes nothing, wherever it stands. -/
import Derived.Test.YtpembifnjlekdaaIdC
import Derived.Test.YtpembifnjlekdaaPureStyleIdleD
namespace Go.Proofs.Ytpembifnjlekdaa.PureStyleIdle
open Go.RowKit Go.Proofs.Ytpembifnjlekdaa Go.Proofs.Ytpembifnjlekdaa.PStyleIdle Go.Proofs.YtpembifnjlekdaaW.PrintWords Go.Proofs.YtpembifnjlekdaaW.PrintLast Go.Proofs.YtpembifnjlekdaaW.PrintMore
theorem wakes_f : colophonlaw20_wakes.f 60 = some true := by decide +kernel
theorem wakes_k (k : Nat) (hk : 60 ≤ k) : colophonlaw20_wakes.f k = some true := at_rounds (g := fun k => colophonlaw20_wakes.f k) colophonlaw20_wakes.mono hk wakes_f

/-! ### what matches, without a rule that does not -/
theorem sel_some (path : List S56) (hm : path.length ≤ 60) (hpath : ∀ e ∈ path, e.f2.length ≤ 3000) (K : Nat) (hK : 10000000 ≤ K) : ∀ (sl : List S45) (X : (Int × Int × Int) × Bool), (∀ s ∈ sl, G45 s) → ∃ Y, style_matching.sel K path sl X = some Y
  | [], X, _ => ⟨X, rfl⟩
  | s :: r, X, hg => by
    have g := hg s (List.mem_cons_self ..)
    obtain ⟨m, m1, _⟩ := match_both s.f0 path g.1 hm g.2 hpath K hK
    have rc := fun X => sel_some path hm hpath K hK r X (fun q hq => hg q (List.mem_cons_of_mem _ hq))
    rw [style_matching.sel, m1, Option.bind_some]
    cases m with
    | false =>
      rw [if_pos rfl]
      exact rc X
    | true =>
      have hw : sheet_Weight.f s.f0 = some (wgt s.f0 (0, 0, 0)) := rfl
      rw [if_neg (by decide), hw, Option.bind_some]
      exact rc _
theorem go_some (path : List S56) (hm : path.length ≤ 60) (hpath : ∀ e ∈ path, e.f2.length ≤ 3000) (K : Nat) (hK : 10000000 ≤ K) : ∀ (l : List S41) (out : List WS), (∀ x ∈ l, G41 x) → ∃ ms, style_matching.go K path l out = some ms
  | [], out, _ => ⟨out, rfl⟩
  | x :: r, out, hg => by
    obtain ⟨Y, y1⟩ := sel_some path hm hpath K hK x.f0 ((0, 0, 0), false) (hg x (List.mem_cons_self ..)).2.2
    rw [style_matching.go, y1, Option.bind_some]
    exact go_some path hm hpath K hK r _ (fun q hq => hg q (List.mem_cons_of_mem _ hq))
theorem sel_none (K : Nat) (path : List S56) : ∀ (sl : List S45) (X : (Int × Int × Int) × Bool), (∀ s ∈ sl, sheet_Match.f K s.f0 path = some false) → style_matching.sel K path sl X = some X
  | [], X, _ => rfl
  | s :: r, X, h => by
    rw [style_matching.sel, h s (List.mem_cons_self ..), Option.bind_some, if_pos rfl]
    exact sel_none K path r X (fun q hq => h q (List.mem_cons_of_mem _ hq))
theorem go_skip (K : Nat) (path : List S56) (x : S41) (b : List S41) (X : (Int × Int × Int) × Bool) (hX : X.2 = false) (hx : style_matching.sel K path x.f0 ((0, 0, 0), false) = some X) : ∀ (a : List S41) (out : List WS), style_matching.go K path (a ++ x :: b) out = style_matching.go K path (a ++ b) out
  | [], out => by
    rw [List.nil_append, List.nil_append, style_matching.go, hx, Option.bind_some, if_neg (by rw [hX]; decide)]
  | y :: a, out => by
    rw [List.cons_append, List.cons_append, style_matching.go, style_matching.go]
    congr 1
    funext Y
    exact go_skip K path x b X hX hx a _
theorem inh_len : ∀ (c : Nat) (ms : List WS) (P : List Int) (p : Nat) (S : List Int), (style_Of.loop ms P c p S).length = S.length
  | 0, _, _, _, _ => rfl
  | c + 1, ms, P, p, S => by
    rw [style_Of.loop, inh_len c ms P (p + 1)]
    split
    · rw [List.length_set]
    · split
      · rw [List.length_set]
      · rfl
theorem tup9_len (S : List Int) (h : S.length = 9) : ∃ x, St.tup9 S = some x := by
  match S, h with
  | [a, b, c, d, e, f, g, i, j], _ => exact ⟨_, rfl⟩
theorem split_at (l : List S41) (t : Nat) (ht : t < l.length) : l = l.take t ++ rd_T41 l (t : Int) :: l.drop (t + 1) := by
  rw [← drop41 ht, List.take_append_drop]
/-! ### the law -/
theorem idle_exit (l : List S41) (path : List S56) (h1 : l.length ≤ 60) (h2 : path.length ≤ 60) (h3 : ∀ x ∈ l, G41 x) (h4 : ∀ e ∈ path, e.f2.length ≤ 3000) (t : Nat) (ht : t < l.length) (K : Nat) (hK : 20000000 ≤ K)
    (hno : ∀ s ∈ (rd_T41 l (t : Int)).f0, sheet_Match.f K s.f0 path = some false) (p0 p1 p2 p3 p4 p5 p6 p7 p8 : Int) :
    ∃ x, style_Of.f K l path p0 p1 p2 p3 p4 p5 p6 p7 p8 = some x ∧ style_Of.f K (l.take t ++ l.drop (t + 1)) path p0 p1 p2 p3 p4 p5 p6 p7 p8 = some x := by
  obtain ⟨ms, m1⟩ := go_some path h2 h4 K (by omega) l [] h3
  have m2 : style_matching.go K path (l.take t ++ l.drop (t + 1)) [] = some ms := by
    rw [← m1, ← go_skip K path (rd_T41 l (t : Int)) (l.drop (t + 1)) _ rfl (sel_none K path _ ((0, 0, 0), false) hno) (l.take t) [], ← split_at l t ht]
  have f1 : style_matching.f K l path = some ms := by
    unfold style_matching.f
    rw [if_pos (by omega), m1]
  have hl : (l.take t ++ l.drop (t + 1)).length ≤ 60 := by rw [List.length_append, List.length_take, List.length_drop]; omega
  have f2 : style_matching.f K (l.take t ++ l.drop (t + 1)) path = some ms := by
    unfold style_matching.f
    rw [if_pos (by omega), m2]
  obtain ⟨x, hx⟩ := tup9_len _ (inh_len 9 ms [p0, p1, p2, p3, p4, p5, p6, p7, p8] 0 [0, 655360, 786432, 0, 0, 0, 0, 0, 1])
  refine ⟨x, ?_, ?_⟩
  · unfold style_Of.f
    rw [f1, Option.bind_some, hx]
  · unfold style_Of.f
    rw [f2, Option.bind_some, hx]
theorem idle_l0 (l : List S41) (path : List S56) (h1 : l.length ≤ 60) (h2 : path.length ≤ 60) (h3 : ∀ x ∈ l, G41 x) (h4 : ∀ e ∈ path, e.f2.length ≤ 3000) (t : Nat) (ht : t < l.length) : ∀ (d k j : Nat), j + d = (rd_T41 l (t : Int)).f0.length → 20000001 + d ≤ k →
    (∀ q, q < j → ∃ K', k ≤ K' ∧ colophonref19_Match.f K' (rd_T45 (rd_T41 l (t : Int)).f0 (q : Int)).f0 path = some false) → colophonlaw20_StyleIdle.l0 k l path (t : Int) (j : Int) = some true := by
  have g := h3 _ (mem41 ht)
  intro d
  induction d with
  | zero =>
    intro k j hd hk hq
    obtain ⟨k, rfl⟩ : ∃ q, k = q + 1 := ⟨k - 1, by omega⟩
    have hno : ∀ s ∈ (rd_T41 l (t : Int)).f0, sheet_Match.f k s.f0 path = some false := by
      intro s hs
      obtain ⟨q, hq1, rfl⟩ := List.getElem_of_mem hs
      obtain ⟨K', k1, k2⟩ := hq q (by omega)
      have e : rd_T45 (rd_T41 l (t : Int)).f0 (q : Int) = (rd_T41 l (t : Int)).f0[q] := by
        show (rd_T41 l (t : Int)).f0.getD q z45 = _
        rw [List.getD_eq_getElem?_getD, List.getElem?_eq_getElem hq1, Option.getD_some]
      rw [e] at k2
      have gs := g.2.2 _ hs
      obtain ⟨m, m1, m2⟩ := match_both _ path gs.1 h2 gs.2 h4 k (by omega)
      have m3 := at_rounds (g := fun k => colophonref19_Match.f k _ path) (colophonref19_Match.mono _ _) (show k ≤ K' by omega) m2
      have m4 : some m = some false := m3.symm.trans k2
      rw [m1, m4]
    obtain ⟨x, x1, x2⟩ := idle_exit l path h1 h2 h3 h4 t ht k (by omega) hno 0 655360 786432 0 0 0 0 0 1
    have hw := wakes_k k (by omega)
    have ct := copy_f (l.take t) (by rw [List.length_take]; omega) (fun x hx => h3 x (List.mem_of_mem_take hx)) k (by omega)
    have cd := copy_f (l.drop (t + 1)) (by rw [List.length_drop]; omega) (fun x hx => h3 x (List.mem_of_mem_drop hx)) k (by omega)
    have cl := copy_f l h1 h3 k (by omega)
    have tw := twin_f path h2 h4 k (by omega)
    rw [colophonlaw20_StyleIdle.l0, if_pos (by omega), if_pos (by omega), if_neg (by omega), if_pos (by omega), casN t (by omega), Int.toNat_natCast, Int.toNat_natCast, ct, Option.bind_some, if_pos (by omega), if_pos (by omega), cd, Option.bind_some, if_pos (by rw [List.length_take, List.length_drop]; omega), cl, Option.bind_some, tw, Option.bind_some]
    unfold style_First.f
    rw [Option.bind_some]
    dsimp only
    rw [x1, Option.bind_some, Option.bind_some, Option.bind_some, x2, Option.bind_some, if_pos rfl, if_pos rfl, if_pos rfl, if_pos rfl, if_pos rfl, if_pos rfl, if_pos rfl, if_pos rfl, if_pos rfl, hw, Option.bind_some]
  | succ d ih =>
    intro k j hd hk hq
    obtain ⟨k, rfl⟩ : ∃ q, k = q + 1 := ⟨k - 1, by omega⟩
    have hj : j < (rd_T41 l (t : Int)).f0.length := by omega
    have gs := g.2.2 _ (mem45 hj)
    obtain ⟨m, m1, m2⟩ := match_both _ path gs.1 h2 gs.2 h4 k (by omega)
    rw [colophonlaw20_StyleIdle.l0, if_pos (by omega), if_pos (by omega), if_pos (by omega), if_pos (by omega), m2, Option.bind_some]
    cases m with
    | true => rw [if_pos rfl, wakes_k k (by omega), Option.bind_some]
    | false =>
      rw [if_neg (by decide), casN j (by have := g.2.1; omega)]
      refine ih k (j + 1) (by omega) (by omega) (fun q h => ?_)
      by_cases e : q = j
      · subst e
        exact ⟨k, Nat.le_refl _, m2⟩
      · obtain ⟨K', k1, k2⟩ := hq q (by omega)
        exact ⟨K', by omega, k2⟩
theorem mod_f (a : Int) (n : Nat) (h0 : n ≠ 0) (hn : n ≤ 60) : ∃ t : Nat, t < n ∧ colophonkeep_Mod.f a (n : Int) = some (t : Int) := by
  have b1 : Int.tmod a (n : Int) < (n : Int) := Int.tmod_lt_of_pos a (by omega)
  have b2 : -(n : Int) < Int.tmod a (n : Int) := by
    have := Int.tmod_lt_of_pos (-a) (show (0 : Int) < (n : Int) by omega)
    rw [Int.neg_tmod] at this
    omega
  unfold colophonkeep_Mod.f
  rw [if_neg (by omega), if_neg (by omega), w_in (by omega)]
  generalize Int.tmod a (n : Int) = z at b1 b2
  have c1 : 0 ≤ Int.tmod (z + n) (n : Int) := Int.tmod_nonneg _ (by omega)
  have c2 : Int.tmod (z + n) (n : Int) < (n : Int) := Int.tmod_lt_of_pos _ (by omega)
  exact ⟨(Int.tmod (z + n) (n : Int)).toNat, by omega, by rw [Int.toNat_of_nonneg c1]⟩
theorem pureK (K : Nat) (hK : 30000000 ≤ K) (l : List S41) (path : List S56) (at_ : Int) (w0 : OKL l) (w1 : OKP path) : colophonlaw20_StyleIdle.f K l path at_ = some true := by
  have hw := wakes_k
  obtain ⟨t, t1, t2⟩ := large_f l path w0 w1 K (by omega)
  obtain ⟨K, rfl⟩ : ∃ q, K = q + 1 := ⟨K - 1, by omega⟩
  unfold colophonlaw20_StyleIdle.f
  rw [t1, Option.bind_some]
  cases t with
  | true => rw [if_pos rfl, colophonlaw20_StyleIdle.j0, if_pos rfl, hw K (by omega), Option.bind_some]
  | false =>
    obtain ⟨h1, h2, h3, h4⟩ := t2 rfl
    rw [if_neg (by decide), colophonlaw20_StyleIdle.j0]
    by_cases e : l.length = 0
    · rw [if_pos (by rw [e]; rfl), hw K (by omega), Option.bind_some]
    · obtain ⟨t, ht, hm⟩ := mod_f at_ l.length e h1
      rw [if_neg (by rw [beq_iff_eq]; omega), hm, Option.bind_some]
      have g := h3 _ (mem41 ht)
      exact idle_l0 l path h1 h2 h3 h4 t ht (rd_T41 l (t : Int)).f0.length K 0 (by omega) (by have := g.2.1; omega) (fun q h => by omega)
theorem pure (l : List S41) (path : List S56) (at_ : Int) (w0 : OKL l) (w1 : OKP path) : ∃ k, colophonlaw20_StyleIdle.f k l path at_ = some true := ⟨_, pureK 30000000 (Nat.le_refl _) l path at_ w0 w1⟩

end Go.Proofs.Ytpembifnjlekdaa.PureStyleIdle
