/- The plain law of FurnishPlain: a text without a bracket says itself, for all texts. -/
import Derived.Test.YtmcdcpejkldepaaDoorPFurnishPlainx4
import Derived.Test.YtmcdcpejkldepaaDoorPureFurnishPlainD
import Derived.Test.YtmcdcpejkldepaaDoorPureFurnishPlainR
namespace Go.Proofs.YtmcdcpejkldepaaDoor.PureFurnishPlain
open Go.RowKit Go.Proofs.YtmcdcpejkldepaaDoor.PFurnishPlain Go.Proofs.YtmcdcpejkldepaaDoorW.PrintWords Go.Proofs.YtmcdcpejkldepaaDoorW.PrintLast Go.Proofs.YtmcdcpejkldepaaDoorW.PrintMore
theorem same_l0 (m : List Int) (hm : m.length ≤ 1000000000) : ∀ (d k : Nat) (i : Int), 0 ≤ i → (m.length : Int) - i = d → d + 1 ≤ k → colophonkeep_Same.l0 k m m i = some true := by
  intro d
  induction d with
  | zero =>
    intro k i h0 hd hk
    obtain ⟨k, rfl⟩ : ∃ q, k = q + 1 := ⟨k - 1, by omega⟩
    rw [colophonkeep_Same.l0, if_neg (by omega)]
  | succ d ih =>
    intro k i h0 hd hk
    obtain ⟨k, rfl⟩ : ∃ q, k = q + 1 := ⟨k - 1, by omega⟩
    have hi : wrap64 (i + 1) = i + 1 := w_in (by omega)
    rw [colophonkeep_Same.l0, if_pos (by omega), if_pos h0, if_pos (by omega), if_pos rfl, hi]
    exact ih k (i + 1) (by omega) (by omega) (by omega)
theorem same_f (m : List Int) (hm : m.length ≤ 1000000000) (K : Nat) (hK : m.length + 1 ≤ K) : colophonkeep_Same.f K m m = some true := by
  unfold colophonkeep_Same.f
  rw [if_pos rfl]
  exact same_l0 m hm m.length K 0 (by omega) (by omega) hK

theorem ref_dec (s : ByteArray) (hs : s.size ≤ 65536) (K : Nat) (hK : 600000 ≤ K) : ∃ r, utf_Decode.f K s = some r ∧ colophonref04_Decode.f K s = some r ∧ r.1.length ≤ s.size := by
  obtain ⟨r, h1, h2, h3⟩ := R.both s hs s.size K K 0 [] (by omega) (by omega) (Nat.zero_le _) (by omega) (by omega)
  exact ⟨r, h1, h2, h3⟩
theorem toks_plain : ∀ (m : List Int) (a : Nat), (∀ c ∈ m, c ≠ 123) → toks a 0 m = (0, true, m.map fun c => [c])
  | [], a, _ => rfl
  | c :: m, a, h => by
    rw [toks, if_pos (h c (List.mem_cons_self ..)), toks_plain m _ (fun y hy => h y (List.mem_cons_of_mem _ hy))]
    rfl
theorem said_plain (pg ps : Int) (t : List Int) : ∀ m : List Int, (m.map fun c => [c]).flatMap (saidL pg ps t) = m
  | [] => rfl
  | c :: m => by
    rw [List.map_cons, List.flatMap_cons, said_plain pg ps t m]
    unfold saidL
    rw [if_neg (by simp), if_neg (by simp [sPage]), if_neg (by simp [sPages]), if_neg (by simp [sTitle])]
    rfl
theorem no_bracket (s : ByteArray) (h : ∀ j : Nat, j < s.size → bt s (j : Int) ≠ 123) (m : List Int) (rest : List UInt8) (hd : s.data.toList = enc m ++ rest) : ∀ c ∈ m, c ≠ 123 := by
  intro c hc e
  have h1 : (123 : UInt8) ∈ enc m := by
    unfold enc
    rw [List.mem_flatMap]
    exact ⟨c, hc, by rw [e]; decide⟩
  have h2 : (123 : UInt8) ∈ s.data.toList := by rw [hd]; exact List.mem_append_left _ h1
  obtain ⟨j, hj, hj2⟩ := List.mem_iff_getElem.1 h2
  have hl := size_eq s
  apply h j (by omega)
  rw [R.bt_gb]
  unfold R.gb
  have : s.get! j = 123 := by
    show s.data[j]! = 123
    rw [getElem!_pos s.data j (by rw [Array.length_toList] at hj; exact hj)]
    simpa using hj2
  rw [this]
  rfl
theorem end_f (s : ByteArray) (hs : s.size ≤ 4096) (n : Int) (hn : -9223372036854775808 ≤ n ∧ n ≤ 9223372036854775807) (K : Nat) (hK : 600000 ≤ K) (h : ∀ j : Nat, j < s.size → bt s (j : Int) ≠ 123) :
    ∃ r, furnish_Expand.f K s n n [] = some r ∧ colophonref04_Decode.f K s = some r ∧ r.1.length ≤ s.size := by
  obtain ⟨r, h1, h2, h3⟩ := ref_dec s (by omega) K hK
  refine ⟨r, ?_, h2, h3⟩
  rw [← h1]
  obtain ⟨m, rest, a, b, c⟩ := split_enc _ s.data.toList (Nat.le_refl _)
  rcases c with c | c
  · have hb := no_bracket s h m rest a
    rw [c, List.append_nil] at a
    have ht := toks_plain m 0 hb
    rw [expand_ok s K (by omega) n n [] hn hn (by simp) hs m b a (by rw [ht]), decode_all s (by omega) K (by omega) m b a, ht]
    show some ((m.map fun c => [c]).flatMap (saidL n n []), (0 : Int), (0 : Int)) = _
    rw [said_plain]
  · rw [expand_bad s K n n [] hn hn (by simp) _ _ (check_part s K (by omega) hs m rest b a c) (by decide), decode_part s (by omega) K (by omega) m rest b a c]
theorem loop (s : ByteArray) (hs : s.size ≤ 4096) (n : Int) (hn : -9223372036854775808 ≤ n ∧ n ≤ 9223372036854775807) : ∀ (d k i : Nat), i + d = s.size → d + 600002 ≤ k → (∀ j : Nat, j < i → bt s (j : Int) ≠ 123) → colophonlaw28_FurnishPlain.l0 k s n (i : Int) = some true := by
  intro d
  induction d with
  | zero =>
    intro k i hd hk h
    obtain ⟨k, rfl⟩ : ∃ q, k = q + 1 := ⟨k - 1, by omega⟩
    obtain ⟨r, h1, h2, h3⟩ := end_f s hs n hn k (by omega) (fun j hj => h j (by omega))
    rw [colophonlaw28_FurnishPlain.l0, if_neg (by omega), h1, h2, Option.bind_some, Option.bind_some, same_f r.1 (by omega) k (by omega), Option.bind_some, if_pos rfl, if_pos rfl, if_pos rfl, wakes_k k (by omega)]
    rfl
  | succ d ih =>
    intro k i hd hk h
    obtain ⟨k, rfl⟩ : ∃ q, k = q + 1 := ⟨k - 1, by omega⟩
    have hi : wrap64 ((i : Int) + 1) = ((i + 1 : Nat) : Int) := by rw [w_in (by omega)]; omega
    rw [colophonlaw28_FurnishPlain.l0, if_pos (by omega), if_pos (by omega), hi]
    by_cases hb : bt s (i : Int) = 123
    · rw [if_pos hb, wakes_k k (by omega)]
      rfl
    · rw [if_neg hb]
      refine ih k (i + 1) (by omega) (by omega) (fun j hj => ?_)
      by_cases hji : j < i
      · exact h j hji
      · obtain rfl : j = i := by omega
        exact hb
theorem pureK (s : ByteArray) (n : Int) (hn : -9223372036854775808 ≤ n ∧ n ≤ 9223372036854775807) (K : Nat) (hK : 700000 ≤ K) : colophonlaw28_FurnishPlain.f K s n = some true := by
  unfold colophonlaw28_FurnishPlain.f
  by_cases h : (s.size : Int) > 4096
  · rw [if_pos h, wakes_k K (by omega)]
    rfl
  · rw [if_neg h]
    exact loop s (by omega) n hn s.size K 0 (by omega) (by omega) (by simp)
theorem pure (s : ByteArray) (n : Int) (hn : (Lit.int .i64 n).wf = true) : ∃ k, colophonlaw28_FurnishPlain.f k s n = some true := ⟨_, pureK s n (w64 hn) 700000 (Nat.le_refl _)⟩

end Go.Proofs.YtmcdcpejkldepaaDoor.PureFurnishPlain
