/- The plain law of StyleFacts: what selectors ask of an element, for values of at most 1048576 bytes. -/
import Derived.Test.YtpembifnjlekdaaFaC
import Derived.Test.YtpembifnjlekdaaPureStyleFactsD
namespace Go.Proofs.Ytpembifnjlekdaa.PureStyleFacts
open Go.RowKit Go.ChangeShapes Go.WideShapes Go.Proofs.Ytpembifnjlekdaa Go.Proofs.Ytpembifnjlekdaa.PStyleFacts Go.Proofs.YtpembifnjlekdaaW.PrintWords Go.Proofs.YtpembifnjlekdaaW.PrintLast Go.Proofs.YtpembifnjlekdaaW.PrintMore
theorem wakes_f : colophonlaw20_wakes.f 60 = some true := by decide +kernel
theorem wakes_k (k : Nat) (hk : 60 ≤ k) : colophonlaw20_wakes.f k = some true := at_rounds (g := fun k => colophonlaw20_wakes.f k) colophonlaw20_wakes.mono hk wakes_f
theorem texts_l0 (l : List ByteArray) (hn : l.length ≤ 4611686018427387904) : ∀ (d k i : Nat), i + d = l.length → d + 1 ≤ k → colophonkeep_Texts.l0 k l l (i : Int) = some true := by
  intro d
  induction d with
  | zero =>
    intro k i hd hk
    obtain ⟨k, rfl⟩ : ∃ q, k = q + 1 := ⟨k - 1, by omega⟩
    rw [colophonkeep_Texts.l0, if_neg (by omega)]
  | succ d ih =>
    intro k i hd hk
    obtain ⟨k, rfl⟩ : ∃ q, k = q + 1 := ⟨k - 1, by omega⟩
    rw [colophonkeep_Texts.l0, if_pos (by omega), if_pos (by omega), if_pos (by omega), if_pos rfl, casN i (by omega), ih k (i + 1) (by omega) (by omega)]
theorem spansB_len (s : ByteArray) : ∀ (d pos : Nat) (st : Option Nat) (acc : List (Nat × Nat)), (spansB s d pos st acc).1.length ≤ acc.length + d
  | 0, _, _, _ => Nat.le_refl _
  | d + 1, pos, st, acc => by
    rw [spansB_step]
    split
    · refine Nat.le_trans (spansB_len s d (pos + 1) none _) ?_
      cases st with
      | some a => rw [List.length_append]; simp; omega
      | none => show acc.length + d ≤ acc.length + (d + 1); omega
    · exact Nat.le_trans (spansB_len s d (pos + 1) _ acc) (by omega)
theorem fields_len (c : ByteArray) : (Go.Lib.goFieldsP spR c).length ≤ c.size + 1 := by
  rw [fields_eq, List.length_map]
  have := spansB_len c c.size 0 none []
  unfold Go.Lib.closeSpans
  split
  · rw [List.length_append]
    simp at this ⊢
    omega
  · simp at this
    omega
theorem pure (x : S52) (w0 : OKN x) (hs : ∀ a ∈ x.f2, a.f1.size ≤ 4294967296) : ∃ k, colophonlaw20_StyleFacts.f k x.f0 x.f1 x.f2 x.f3 x.f4 = some true := by
  obtain ⟨K1, hK1⟩ := copy_node x w0
  obtain ⟨K2, hK2⟩ := large_node x w0
  have hn : x.f2.length ≤ 4611686018427387904 := by
    cases w0 with
    | mk _ h0 h1 h2 h3 h5 h4 => have := h2.1; omega
  refine ⟨K1 + K2 + x.f2.length + 8589934592 + 100, ?_⟩
  obtain ⟨k, hk⟩ : ∃ k, k = K1 + K2 + x.f2.length + 8589934592 + 100 := ⟨_, rfl⟩
  rw [← hk]
  have hw := wakes_k k (by omega)
  obtain ⟨t, ht⟩ := hK2 k (by omega) 0 0
  unfold colophonlaw20_StyleFacts.f colophonlaw18_Large.f
  rw [ht, Option.bind_some, Option.bind_some]
  by_cases c : decide (t < 0) = true
  · rw [if_pos c, hw, Option.bind_some]
  · obtain ⟨r, r1, r2⟩ := facts_both k x.f0 x.f1 x.f2 x.f3 x.f3 x.f4 x.f4 hn hs (by omega)
    have hr : r.2.2.length ≤ 4294967297 := by
      have e := r2
      unfold style_Facts.f at r1
      rw [if_pos (List.all_eq_true.mpr (fun a ha => decide_eq_true (hs a ha))), go_fst] at r1
      obtain rfl := Option.some.inj r1
      dsimp only
      rw [if_neg (show ¬ (false = true) by decide)]
      split
      · have h1 := fields_len (fst [99, 108, 97, 115, 115] x.f2).1
        have h2 := fst_size [99, 108, 97, 115, 115] 4294967296 x.f2 hs
        omega
      · simp
    rw [if_neg c, hK1 k (by omega), Option.bind_some]
    dsimp only
    rw [r1, Option.bind_some, r2, Option.bind_some, if_pos rfl, if_pos rfl]
    unfold colophonkeep_Texts.f
    have q := texts_l0 r.2.2 (by omega) r.2.2.length k 0 (by omega) (by omega)
    rw [if_pos rfl, show (0 : Int) = ((0 : Nat) : Int) from rfl, q, Option.bind_some, if_pos rfl, hw, Option.bind_some]

theorem pureN (f0 f1 : ByteArray) (f2 : List S82) (f3 : List S52) (f4 : Int) (w : f0.size ≤ 1048576 ∧ f1.size ≤ 1048576 ∧ ((f2.length * 32 ≤ 140737488351232 ∧ f2.length ≤ 1048576) ∧ ∀ a ∈ f2, a.f0.size ≤ 1048576 ∧ a.f1.size ≤ 1048576) ∧ ((f3.length * 88 ≤ 140737488351232 ∧ f3.length ≤ 1048576) ∧ ∀ k ∈ f3, OKN k) ∧ (Lit.int .i64 f4).wf = true) : ∃ k, colophonlaw20_StyleFacts.f k f0 f1 f2 f3 f4 = some true :=
  pure ⟨f0, f1, f2, f3, f4⟩ (.mk _ w.1 w.2.1 ⟨w.2.2.1.1.2, w.2.2.1.2⟩ w.2.2.2.1.1.2 w.2.2.2.1.2 w.2.2.2.2) (fun a ha => Nat.le_trans (w.2.2.1.2 a ha).2 (by decide))

end Go.Proofs.Ytpembifnjlekdaa.PureStyleFacts
