/- The plain law of PagesFlow: blocks, one below the other, for all blocks and numbers. -/
import Derived.Test.YtogjeababinnlaaPPagesFlowx9
namespace Go.Proofs.Ytogjeababinnlaa.PurePagesFlow
open Go.RowKit Go.Proofs.Ytogjeababinnlaa Go.Proofs.Ytogjeababinnlaa.PPagesFlow Go.Proofs.YtogjeababinnlaaW.PrintWords Go.Proofs.YtogjeababinnlaaW.PrintLast Go.Proofs.YtogjeababinnlaaW.PrintMore
theorem w_in {e : Int} (h : -9223372036854775808 ≤ e ∧ e ≤ 9223372036854775807) : wrap64 e = e := by unfold wrap64; omega
theorem wakes_f : colophonlaw27_wakes.f 60 = some true := by decide +kernel
theorem wakes_k (k : Nat) (hk : 60 ≤ k) : colophonlaw27_wakes.f k = some true := at_rounds (g := fun k => colophonlaw27_wakes.f k) colophonlaw27_wakes.mono hk wakes_f
/-! ### lists alike -/
theorem same_l0 (m : List Int) (hm : m.length ≤ 1000000000) : ∀ (d k : Nat) (i : Int), 0 ≤ i → (m.length : Int) - i = d → d + 1 ≤ k → colophonkeep_Same.l0 k m m i = some true := by
  intro d
  induction d with
  | zero =>
    intro k i h0 hd hk
    obtain ⟨k, rfl⟩ : ∃ q, k = q + 1 := ⟨k - 1, by omega⟩
    rw [colophonkeep_Same.l0, if_neg (by omega)]
  | succ d ih =>
    intro k i h0 hd hk
    obtain ⟨k, rfl⟩ : ∃ q, k = q + 1 := ⟨k - 1, by omega⟩
    have hi : wrap64 (i + 1) = i + 1 := w_in (by omega)
    rw [colophonkeep_Same.l0, if_pos (by omega), if_pos h0, if_pos (by omega), if_pos rfl, hi]
    exact ih k (i + 1) (by omega) (by omega) (by omega)
theorem same_f (m : List Int) (hm : m.length ≤ 1000000000) (K : Nat) (hK : m.length + 1 ≤ K) : colophonkeep_Same.f K m m = some true := by
  unfold colophonkeep_Same.f
  rw [if_pos rfl]
  exact same_l0 m hm m.length K 0 (by omega) (by omega) hK
theorem block_f (b : S49) (h0 : b.f0.length ≤ 3000) (h1 : b.f1.length ≤ 3000) (h2 : b.f2.length ≤ 3000) (K : Nat) (hK : 3001 ≤ K) : colophonref27_SameBlock.f K b.f0 b.f1 b.f2 b.f3 b.f4 b.f5 b.f6 b.f0 b.f1 b.f2 b.f3 b.f4 b.f5 b.f6 = some true := by
  unfold colophonref27_SameBlock.f
  rw [same_f _ (by omega) K (by omega), Option.bind_some, if_pos rfl]
  rw [same_f _ (by omega) K (by omega), Option.bind_some, if_pos rfl]
  rw [same_f _ (by omega) K (by omega), Option.bind_some, if_pos rfl, if_pos rfl, if_pos rfl, beq_self_eq_true, beq_self_eq_true, if_pos rfl]
theorem like_l0 (l : List S43) (hl : l.length ≤ 1000000000) : ∀ (d k i : Nat), i + d = l.length → d + 1 ≤ k → colophonlaw27_same.l0 k l l (i : Int) = some true := by
  intro d
  induction d with
  | zero =>
    intro k i hd hk
    obtain ⟨k, rfl⟩ : ∃ q, k = q + 1 := ⟨k - 1, by omega⟩
    rw [colophonlaw27_same.l0, if_neg (by omega)]
  | succ d ih =>
    intro k i hd hk
    obtain ⟨k, rfl⟩ : ∃ q, k = q + 1 := ⟨k - 1, by omega⟩
    have hi : wrap64 ((i : Int) + 1) = ((i + 1 : Nat) : Int) := by rw [w_in (by omega)]; omega
    rw [colophonlaw27_same.l0, if_pos (by omega), if_pos (by omega), if_pos (by omega), if_neg (by simp), hi]
    exact ih k (i + 1) (by omega) (by omega)
theorem like_f (l : List S43) (hl : l.length ≤ 1000000000) (K : Nat) (hK : l.length + 1 ≤ K) : colophonlaw27_same.f K l l = some true := by
  unfold colophonlaw27_same.f
  rw [if_pos rfl]
  exact like_l0 l hl l.length K 0 (by omega) hK
/-! ### long -/
theorem long_l0 (L : List S49) (hn : L.length ≤ 17592186044416) (hb : ∀ b ∈ L, b.f0.length ≤ 17592186044416 ∧ b.f1.length ≤ 17592186044416 ∧ b.f2.length ≤ 17592186044416) : ∀ (d k i : Nat) (x : Int), i ≤ L.length → 0 ≤ x → 3001 - x ≤ d → d + 1 ≤ k →
    ∃ t, colophonlaw27_long.l0 k L x (i : Int) = some t ∧ (t = false → (L.length : Int) - i ≤ 3000 - x ∧ ∀ j : Nat, i ≤ j → j < L.length → ((rd_T49 L (j : Int)).f0.length : Int) + (rd_T49 L (j : Int)).f1.length + (rd_T49 L (j : Int)).f2.length ≤ 3000 - x) := by
  intro d
  induction d with
  | zero =>
    intro k i x hi hx hd hk
    obtain ⟨k, rfl⟩ : ∃ q, k = q + 1 := ⟨k - 1, by omega⟩
    refine ⟨decide (x > 3000), ?_, fun h => absurd h (by simp; omega)⟩
    rw [colophonlaw27_long.l0]
    by_cases c : (i : Int) < (L.length : Int)
    · rw [if_pos c, if_neg (by omega)]
    · rw [if_neg c]
  | succ d ih =>
    intro k i x hi hx hd hk
    obtain ⟨k, rfl⟩ : ∃ q, k = q + 1 := ⟨k - 1, by omega⟩
    rw [colophonlaw27_long.l0]
    by_cases c : (i : Int) < (L.length : Int)
    · rw [if_pos c]
      by_cases c2 : x ≤ 3000
      · have hs := hb _ (pages_Flow.mem49 (l := L) (j := i) (by omega))
        rw [if_pos c2, if_pos (by omega)]
        obtain ⟨s, es⟩ : ∃ s, rd_T49 L (i : Int) = s := ⟨_, rfl⟩
        rw [es] at hs ⊢
        have e1 : wrap64 ((i : Int) + 1) = ((i + 1 : Nat) : Int) := by rw [w_in (by omega)]; omega
        rw [w_in (e := 1 + (s.f0.length : Int)) (by omega), w_in (e := 1 + (s.f0.length : Int) + (s.f1.length : Int)) (by omega), w_in (e := 1 + (s.f0.length : Int) + (s.f1.length : Int) + (s.f2.length : Int)) (by omega), w_in (e := x + (1 + (s.f0.length : Int) + (s.f1.length : Int) + (s.f2.length : Int))) (by omega), e1]
        obtain ⟨t, ht, hq⟩ := ih k (i + 1) (x + (1 + (s.f0.length : Int) + (s.f1.length : Int) + (s.f2.length : Int))) (by omega) (by omega) (by omega) (by omega)
        refine ⟨t, ht, fun h => ?_⟩
        obtain ⟨q1, q2⟩ := hq h
        refine ⟨by omega, fun j h1 h2 => ?_⟩
        by_cases e : j = i
        · subst e
          rw [es]
          omega
        · have := q2 j (by omega) h2
          omega
      · refine ⟨decide (x > 3000), by rw [if_neg c2], fun h => absurd h (by simp; omega)⟩
    · refine ⟨decide (x > 3000), by rw [if_neg c], fun h => ?_⟩
      have : ¬ x > 3000 := by simpa using h
      exact ⟨by omega, fun j h1 h2 => by omega⟩
/-! ### Copy -/
theorem copy_l0 (L : List S49) (hn : L.length ≤ 3000) (hb : ∀ b ∈ L, b.f0.length ≤ 3000 ∧ b.f1.length ≤ 3000 ∧ b.f2.length ≤ 3000) : ∀ (d k i : Nat), i + d = L.length → d + 1 ≤ k → colophonref27_Copy.l0 k L (L.take i) (i : Int) = some L := by
  intro d
  induction d with
  | zero =>
    intro k i hd hk
    obtain ⟨k, rfl⟩ : ∃ q, k = q + 1 := ⟨k - 1, by omega⟩
    rw [colophonref27_Copy.l0, if_neg (by omega), List.take_of_length_le (by omega)]
  | succ d ih =>
    intro k i hd hk
    obtain ⟨k, rfl⟩ : ∃ q, k = q + 1 := ⟨k - 1, by omega⟩
    have hs := hb _ (pages_Flow.mem49 (l := L) (j := i) (by omega))
    have e1 : wrap64 ((i : Int) + 1) = ((i + 1 : Nat) : Int) := by rw [w_in (by omega)]; omega
    rw [colophonref27_Copy.l0, if_pos (by omega), if_pos (by omega), Option.bind_some, if_pos (by simp; omega), Option.bind_some, if_pos (by simp; omega), Option.bind_some, if_pos (by simp; omega), if_pos (by rw [List.length_take]; omega), e1]
    have e : L.take i ++ [(⟨([] : List Int) ++ (rd_T49 L (i : Int)).f0, ([] : List Int) ++ (rd_T49 L (i : Int)).f1, ([] : List Int) ++ (rd_T49 L (i : Int)).f2, (rd_T49 L (i : Int)).f3, (rd_T49 L (i : Int)).f4, (rd_T49 L (i : Int)).f5, (rd_T49 L (i : Int)).f6⟩ : S49)] = L.take (i + 1) := (pages_Flow.drop49 (by omega)).symm
    rw [e]
    exact ih k (i + 1) (by omega) (by omega)
/-! ### the reference's Flow -/
theorem at_eq' (l : List Int) (i : Int) (h : 0 ≤ i) : colophonref27_at.f l i = some (pages_Flow.atT l i) := by
  unfold colophonref27_at.f pages_Flow.atT
  by_cases c : i < (l.length : Int)
  · rw [if_pos c, if_pos h, if_pos c]
  · rw [if_neg c, if_neg c]
theorem inner (keep : Int) (L : List S49) (s : S49) (hs : s.f0.length ≤ 4000) (i : Int) : ∀ (d k j : Nat) (out : List S43), j + d = s.f0.length → out.length + 2 * d ≤ 1000000000 →
    colophonref27_Flow.l1 (k + d + 1) L keep out i (j : Int) s.f0 s.f1 s.f2 s.f3 s.f4 s.f5 s.f6 = colophonref27_Flow.l0 k L keep (out ++ pages_Flow.itm s (s.f0.drop j) j) i (wrap64 (i + 1)) := by
  intro d
  induction d with
  | zero =>
    intro k j out hd hl
    rw [show k + 0 + 1 = k + 1 by omega, colophonref27_Flow.l1, if_neg (by omega), List.drop_eq_nil_of_le (by omega), pages_Flow.itm, List.append_nil]
  | succ d ih =>
    intro k j out hd hl
    have e1 : wrap64 ((j : Int) + 1) = ((j + 1 : Nat) : Int) := by rw [w_in (by omega)]; omega
    rw [show k + (d + 1) + 1 = (k + d + 1) + 1 by omega, colophonref27_Flow.l1, if_pos (by omega), e1, pages_Flow.dropI (show j < s.f0.length by omega), pages_Flow.itm]
    by_cases c : j = 0
    · rw [if_neg (by omega), if_pos (by omega), at_eq' _ _ (by omega), Option.bind_some, if_pos (by omega), ih _ _ _ (by omega) (by simp; omega), if_pos c, List.nil_append, List.append_assoc, List.singleton_append]
    · rw [if_pos (by omega), w_in (e := (j : Int) - 1) (by omega), at_eq' _ _ (by omega), Option.bind_some, if_pos (by omega), Option.bind_some, if_pos (by omega), at_eq' _ _ (by omega), Option.bind_some, if_pos (by simp; omega), ih _ _ _ (by omega) (by simp; omega), if_neg c]
      simp
theorem inner0 (keep : Int) (L : List S49) (s : S49) (hs : s.f0.length ≤ 4000) (i : Int) (k : Nat) (out : List S43) (ho : out.length ≤ 900000000) :
    colophonref27_Flow.l1 (k + s.f0.length + 1) L keep out i 0 s.f0 s.f1 s.f2 s.f3 s.f4 s.f5 s.f6 = colophonref27_Flow.l0 k L keep (out ++ pages_Flow.itm s s.f0 0) i (wrap64 (i + 1)) := by
  have := inner keep L s hs i s.f0.length k 0 out (by omega) (by omega)
  rw [List.drop_zero] at this
  exact this
def step (keep : Int) (s : List S43 × S49) (b : S49) : List S43 × S49 := (s.1 ++ pages_Flow.rnd keep s.2 b, b)
set_option maxRecDepth 100000 in
theorem outer (keep : Int) (L : List S49) (hn : L.length ≤ 3000) (hb : ∀ b ∈ L, b.f0.length ≤ 4000) : ∀ (m k i : Nat) (out : List S43) (ahead : Int) (ah : S49), i + m = L.length → m * 4010 + 1 ≤ k → out.length ≤ 8002 * i →
    ((ahead = -1 ∧ ah.f6 = true) ∨ (∃ q : Nat, ahead = (q : Int) ∧ q < L.length ∧ rd_T49 L (q : Int) = ah ∧ ah.f6 = false)) →
    colophonref27_Flow.l0 k L keep out ahead (i : Int) = some ((((L.drop i).filter pages_Flow.kept).foldl (step keep) (out, ah)).1 ++ [⟨3, 0, 0, -10000⟩]) ∧ (((L.drop i).filter pages_Flow.kept).foldl (step keep) (out, ah)).1.length ≤ 8002 * L.length := by
  intro m
  induction m with
  | zero =>
    intro k i out ahead ah hd hk ho _
    obtain ⟨k, rfl⟩ : ∃ q, k = q + 1 := ⟨k - 1, by omega⟩
    obtain rfl : i = L.length := by omega
    rw [colophonref27_Flow.l0, if_neg (by omega), if_pos (by omega), List.drop_eq_nil_of_le (Nat.le_refl _)]
    exact ⟨rfl, ho⟩
  | succ m ih =>
    intro k i out ahead ah hd hk ho hR
    obtain ⟨k, rfl⟩ : ∃ q, k = q + 1 := ⟨k - 1, by omega⟩
    have hlt : i < L.length := by omega
    have hs := hb _ (pages_Flow.mem49 (l := L) (j := i) hlt)
    have hdr : L.drop i = rd_T49 L (i : Int) :: L.drop (i + 1) := by
      rw [List.drop_eq_getElem_cons hlt]
      congr 1
      show _ = L.getD i z49
      simp [List.getD_eq_getElem?_getD, hlt]
    have e1 : wrap64 ((i : Int) + 1) = ((i + 1 : Nat) : Int) := by rw [w_in (by omega)]; omega
    rw [colophonref27_Flow.l0, if_pos (by omega), if_pos (by omega), hdr]
    obtain ⟨s, es⟩ : ∃ s, rd_T49 L (i : Int) = s := ⟨_, rfl⟩
    rw [es] at hs ⊢
    have hlen := pages_Flow.rnd_len keep ah s hs
    cases h6 : s.f6 with
    | true =>
      rw [if_pos rfl, if_pos (by omega), e1, List.filter_cons_of_pos (by unfold pages_Flow.kept; simp [h6]), List.foldl_cons]
      have hr : step keep (out, ah) s = (out ++ [⟨3, 0, 0, -10000⟩], s) := by unfold step pages_Flow.rnd; rw [if_pos h6]
      rw [hr]
      exact ih k (i + 1) _ _ s (by omega) (by omega) (by simp; omega) (.inl ⟨rfl, h6⟩)
    | false =>
      rw [if_neg (by decide)]
      by_cases h0 : (s.f0.length : Int) = 0
      · rw [if_pos h0, e1, List.filter_cons_of_neg (by unfold pages_Flow.kept; simp [h6]; exact List.length_eq_zero_iff.1 (by omega))]
        exact ih k (i + 1) out ahead ah (by omega) (by omega) (by omega) hR
      · rw [if_neg h0, List.filter_cons_of_pos (by show (s.f6 || decide (0 < s.f0.length)) = true; rw [decide_eq_true (show 0 < s.f0.length by omega), Bool.or_true]), List.foldl_cons]
        obtain ⟨k, rfl⟩ : ∃ q, k = q + 1 := ⟨k - 1, by omega⟩
        obtain ⟨k, rfl⟩ : ∃ q, k = q + s.f0.length + 1 := ⟨k - s.f0.length - 1, by omega⟩
        have hi0 : ∀ o : List S43, o.length ≤ 900000000 → colophonref27_Flow.l1 (k + s.f0.length + 1) L keep o (i : Int) 0 s.f0 s.f1 s.f2 s.f3 s.f4 s.f5 false = colophonref27_Flow.l0 k L keep (o ++ pages_Flow.itm s s.f0 0) (i : Int) (((i + 1 : Nat) : Int)) := by
          intro o h
          have := inner0 keep L s hs (i : Int) k o h
          rw [h6, e1] at this
          exact this
        rcases hR with ⟨rfl, ha⟩ | ⟨q, rfl, hq, eq, ha⟩
        · have hr : step keep (out, ah) s = (out ++ [⟨2, s.f3, 0, 0⟩] ++ pages_Flow.itm s s.f0 0, s) := by unfold step pages_Flow.rnd; simp [h6, ha]
          have hl2 : (out ++ [(⟨2, s.f3, 0, 0⟩ : S43)] ++ pages_Flow.itm s s.f0 0).length ≤ 8002 * (i + 1) := by
            have := congrArg (fun z => z.1.length) hr
            simp only [step, List.length_append] at this hlen ⊢
            omega
          rw [if_neg (by omega), colophonref27_Flow.j1, if_pos (by omega), hi0 _ (by simp; omega), hr]
          exact ih k (i + 1) _ _ s (by omega) (by omega) hl2 (.inr ⟨i, rfl, hlt, es, h6⟩)
        · have hr : step keep (out, ah) s = (out ++ [⟨3, 0, 0, if ah.f5 = true then keep else 0⟩] ++ [⟨2, mx s.f3 ah.f4, 0, 0⟩] ++ pages_Flow.itm s s.f0 0, s) := by unfold step pages_Flow.rnd; simp [h6, ha]
          have hl2 : (out ++ [(⟨3, 0, 0, if ah.f5 = true then keep else 0⟩ : S43)] ++ [(⟨2, mx s.f3 ah.f4, 0, 0⟩ : S43)] ++ pages_Flow.itm s s.f0 0).length ≤ 8002 * (i + 1) := by
            have := congrArg (fun z => z.1.length) hr
            simp only [step, List.length_append] at this hlen ⊢
            omega
          rw [if_pos (by omega), if_pos (by omega), if_pos (by omega), eq]
          by_cases h5 : ah.f5 = true
          · rw [if_pos h5] at hr hl2
            rw [if_pos h5, if_pos (by omega), colophonref27_Flow.j1, if_pos (by simp; omega), hi0 _ (by simp; omega), hr]
            exact ih k (i + 1) _ _ s (by omega) (by omega) hl2 (.inr ⟨i, rfl, hlt, es, h6⟩)
          · rw [if_neg h5] at hr hl2
            rw [if_neg h5, if_pos (by omega), colophonref27_Flow.j1, if_pos (by simp; omega), hi0 _ (by simp; omega), hr]
            exact ih k (i + 1) _ _ s (by omega) (by omega) hl2 (.inr ⟨i, rfl, hlt, es, h6⟩)
/-! ### the law -/
theorem ends (L : List S49) (hn : L.length ≤ 3000) (hb : ∀ b ∈ L, b.f0.length ≤ 3000 ∧ b.f1.length ≤ 3000 ∧ b.f2.length ≤ 3000) : ∀ (d k i : Nat), i + d = L.length → d + 4000 ≤ k → colophonlaw27_PagesFlow.l0 k L L (i : Int) = some true := by
  intro d
  induction d with
  | zero =>
    intro k i hd hk
    obtain ⟨k, rfl⟩ : ∃ q, k = q + 1 := ⟨k - 1, by omega⟩
    rw [colophonlaw27_PagesFlow.l0, if_neg (by omega), wakes_k k (by omega), Option.bind_some]
  | succ d ih =>
    intro k i hd hk
    obtain ⟨k, rfl⟩ : ∃ q, k = q + 1 := ⟨k - 1, by omega⟩
    have hs := hb _ (pages_Flow.mem49 (l := L) (j := i) (by omega))
    have e1 : wrap64 ((i : Int) + 1) = ((i + 1 : Nat) : Int) := by rw [w_in (by omega)]; omega
    rw [colophonlaw27_PagesFlow.l0, if_pos (by omega), if_pos (by omega), if_pos (by omega), block_f _ hs.1 hs.2.1 hs.2.2 k (by omega), Option.bind_some, if_pos rfl, e1]
    exact ih k (i + 1) (by omega) (by omega)
theorem pure (L : List S49) (keep : Int) (hL : L.length * 96 ≤ 140737488351232 ∧ ∀ x ∈ L, (x.f0.length * 8 ≤ 140737488351232 ∧ ∀ y ∈ x.f0, (Lit.int .i64 y).wf = true) ∧ (x.f1.length * 8 ≤ 140737488351232 ∧ ∀ y ∈ x.f1, (Lit.int .i64 y).wf = true) ∧ (x.f2.length * 8 ≤ 140737488351232 ∧ ∀ y ∈ x.f2, (Lit.int .i64 y).wf = true) ∧ (Lit.int .i64 x.f3).wf = true ∧ (Lit.int .i64 x.f4).wf = true ∧ True ∧ True) : ∃ k, colophonlaw27_PagesFlow.f k L keep = some true := by
  obtain ⟨t, ht, hq⟩ := long_l0 L (by have := hL.1; omega) (fun b hb => by have := hL.2 b hb; omega) 3001 100000000 0 0 (by omega) (by omega) (by omega) (by omega)
  refine ⟨100000000, ?_⟩
  have ht' : colophonlaw27_long.f 100000000 L = some t := ht
  unfold colophonlaw27_PagesFlow.f
  rw [ht', Option.bind_some]
  cases t with
  | true => rw [if_pos rfl, wakes_k _ (by omega), Option.bind_some]
  | false =>
    obtain ⟨q1, q2⟩ := hq rfl
    have hn : L.length ≤ 3000 := by omega
    have hb : ∀ b ∈ L, b.f0.length ≤ 3000 ∧ b.f1.length ≤ 3000 ∧ b.f2.length ≤ 3000 := by
      intro b hb
      obtain ⟨j, hj, rfl⟩ := List.getElem_of_mem hb
      have := q2 j (by omega) hj
      have e : rd_T49 L (j : Int) = L[j] := by
        show L.getD j z49 = _
        simp [List.getD_eq_getElem?_getD, hj]
      rw [e] at this
      omega
    rw [if_neg (by decide)]
    have hc : colophonref27_Copy.f 100000000 L = some L := copy_l0 L hn hb L.length 100000000 0 (by omega) (by omega)
    rw [hc, Option.bind_some]
    obtain ⟨h1, h2⟩ := outer keep L hn (fun b h => by have := hb b h; omega) L.length 100000000 0 [] (-1) pages_Flow.zb (by omega) (by omega) (by simp) (.inl ⟨rfl, rfl⟩)
    rw [List.drop_zero] at h1 h2
    have hp : pages_Flow.f 100000000 L keep = some ((((L.filter pages_Flow.kept).foldl (step keep) ([], pages_Flow.zb)).1) ++ [⟨3, 0, 0, -10000⟩]) := by
      unfold pages_Flow.f
      rw [if_pos ⟨by omega, List.all_eq_true.2 (fun b h => decide_eq_true (by have := hb b h; omega))⟩]
      rfl
    have hr : colophonref27_Flow.f 100000000 L keep = some ((((L.filter pages_Flow.kept).foldl (step keep) ([], pages_Flow.zb)).1) ++ [⟨3, 0, 0, -10000⟩]) := h1
    rw [hp, Option.bind_some, hr, Option.bind_some, like_f _ (by rw [List.length_append, List.length_singleton]; omega) _ (by rw [List.length_append, List.length_singleton]; omega), Option.bind_some, if_pos rfl]
    exact ends L hn hb L.length 100000000 0 (by omega) (by omega)

end Go.Proofs.Ytogjeababinnlaa.PurePagesFlow
