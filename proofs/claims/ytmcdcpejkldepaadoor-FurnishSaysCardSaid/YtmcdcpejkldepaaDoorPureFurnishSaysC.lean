/- For FurnishSays: the reference's Check is the program's. -/
import Derived.Test.YtmcdcpejkldepaaDoorPFurnishSaysx5
import Derived.Test.YtmcdcpejkldepaaDoorPureFurnishSaysD
import Derived.Test.YtmcdcpejkldepaaDoorPureFurnishSaysR
namespace Go.Proofs.YtmcdcpejkldepaaDoor.PureFurnishSays
open Go.RowKit Go.Proofs.YtmcdcpejkldepaaDoor.PFurnishSays Go.Proofs.YtmcdcpejkldepaaDoorW.PrintWords Go.Proofs.YtmcdcpejkldepaaDoorW.PrintLast Go.Proofs.YtmcdcpejkldepaaDoorW.PrintMore
theorem ints_f (l : List Int) (n : Nat) (hn : n ≤ 100000) : colophonkeep_Ints.f l (n : Int) = some (l.take n) := by
  unfold colophonkeep_Ints.f
  by_cases h : (l.length : Int) > n
  · rw [if_pos h, if_pos (by omega), if_pos (by omega)]
    simp only [Option.bind_some, List.nil_append, List.length_nil, Int.toNat_natCast]
    rw [if_pos (by rw [List.length_take]; omega)]
  · rw [if_neg h]
    simp only [Option.bind_some, List.nil_append, List.length_nil]
    rw [if_pos (by omega), List.take_of_length_le (by omega)]
theorem same_l0 (m : List Int) (hm : m.length ≤ 1000000000) : ∀ (d k : Nat) (i : Int), 0 ≤ i → (m.length : Int) - i = d → d + 1 ≤ k → colophonkeep_Same.l0 k m m i = some true := by
  intro d
  induction d with
  | zero =>
    intro k i h0 hd hk
    obtain ⟨k, rfl⟩ : ∃ q, k = q + 1 := ⟨k - 1, by omega⟩
    rw [colophonkeep_Same.l0, if_neg (by omega)]
  | succ d ih =>
    intro k i h0 hd hk
    obtain ⟨k, rfl⟩ : ∃ q, k = q + 1 := ⟨k - 1, by omega⟩
    have hi : wrap64 (i + 1) = i + 1 := w_in (by omega)
    rw [colophonkeep_Same.l0, if_pos (by omega), if_pos h0, if_pos (by omega), if_pos rfl, hi]
    exact ih k (i + 1) (by omega) (by omega) (by omega)
theorem same_f (m : List Int) (hm : m.length ≤ 1000000000) (K : Nat) (hK : m.length + 1 ≤ K) : colophonkeep_Same.f K m m = some true := by
  unfold colophonkeep_Same.f
  rw [if_pos rfl]
  exact same_l0 m hm m.length K 0 (by omega) (by omega) hK

theorem ref_dec (s : ByteArray) (hs : s.size ≤ 65536) (K : Nat) (hK : 600000 ≤ K) : ∃ r, utf_Decode.f K s = some r ∧ colophonref04_Decode.f K s = some r ∧ r.1.length ≤ s.size := by
  obtain ⟨r, h1, h2, h3⟩ := R.both s hs s.size K K 0 [] (by omega) (by omega) (Nat.zero_le _) (by omega) (by omega)
  exact ⟨r, h1, h2, h3⟩
theorem ref_all (s : ByteArray) (hs : s.size ≤ 65536) (K : Nat) (hK : 600000 ≤ K) (m : List Int) (hv : ∀ c ∈ m, valid c) (h : s.data.toList = enc m) : colophonref04_Decode.f K s = some (m, 0, 0) := by
  obtain ⟨r, h1, h2, _⟩ := ref_dec s hs K hK
  rw [h2, ← h1]
  exact decode_all s (by omega) K (by omega) m hv h
theorem ref_part (s : ByteArray) (hs : s.size ≤ 65536) (K : Nat) (hK : 600000 ≤ K) (m : List Int) (rest : List UInt8) (hv : ∀ c ∈ m, valid c) (h : s.data.toList = enc m ++ rest) (hr : rest ≠ [] ∧ (Lib.decodeL rest).1 = 65533 ∧ (Lib.decodeL rest).2 = 1) :
    colophonref04_Decode.f K s = some ([], ((enc m).length : Int), 40) := by
  obtain ⟨r, h1, h2, _⟩ := ref_dec s hs K hK
  rw [h2, ← h1]
  exact decode_part s (by omega) K (by omega) m rest hv h hr
theorem points_all (s : ByteArray) (hs : s.size ≤ 65536) (K : Nat) (hK : 600000 ≤ K) (m : List Int) (hv : ∀ c ∈ m, valid c) (h : s.data.toList = enc m) : colophonref28_points.f K s = some m := by
  unfold colophonref28_points.f
  rw [ref_all s hs K hK m hv h]
  rfl
/-! ### bytes at a place -/
theorem at_cons (s : ByteArray) (n : Nat) (b : UInt8) (r : List UInt8) (h : s.data.toList.drop n = b :: r) : n < s.size ∧ bt s (n : Int) = (b.toNat : Int) ∧ s.data.toList.drop (n + 1) = r := by
  have hl := size_eq s
  have hz := congrArg List.length h
  rw [List.length_drop, hl, List.length_cons] at hz
  refine ⟨by omega, ?_, ?_⟩
  · rw [R.bt_gb]
    unfold R.gb
    have e : s.data.toList[n]? = some b := by
      have := congrArg (fun l => l[0]?) h
      simpa using this
    have : s.get! n = b := by
      show s.data[n]! = b
      rw [getElem!_pos s.data n (by show n < s.size; omega)]
      rw [Array.getElem?_toList] at e
      exact (Array.getElem?_eq_some_iff.1 e).2
    rw [this]
  · rw [← List.drop_drop, h]
    rfl
theorem word_f (s : ByteArray) (n : Nat) (hs : s.size ≤ 100000) (hn : n ≤ s.size) (b : ByteArray) (p m : List Int) (hb : b.data.toList = enc p) (hz : b.size ≤ 10) (hp : ∀ y ∈ p, 0 ≤ y ∧ y ≤ 127) (hv : ∀ c ∈ m, valid c) (h : s.data.toList.drop n = enc m) :
    colophonref28_word.f s (n : Int) b = some (decide (p <+: m)) := by
  have hl := size_eq s
  have hbl := size_eq b
  have hw : wrap64 ((n : Int) + (b.size : Int)) = ((n + b.size : Nat) : Int) := by rw [w_in (by omega)]; omega
  have key : (p <+: m) ↔ b.data.toList <+: s.data.toList.drop n := by rw [hb, h]; exact (pre_enc p m hp hv).symm
  unfold colophonref28_word.f
  rw [hw]
  by_cases c1 : n + b.size ≤ s.size
  · rw [if_pos (by omega), if_pos (by omega), if_pos (by omega), Int.toNat_natCast, Int.toNat_natCast]
    have hE : (s.extract n (n + b.size)).data.toList = (s.data.toList.drop n).take b.size := by
      rw [ByteArray.data_extract, Array.toList_extract]
      unfold List.extract
      rw [show n + b.size - n = b.size by omega]
    rw [Go.ByteArray.toList_eq, Go.ByteArray.toList_eq, hE]
    congr 1
    rw [Bool.eq_iff_iff, decide_eq_true_iff, beq_iff_eq, key, List.prefix_iff_eq_take, hbl]
    exact ⟨fun e => e.symm, fun e => e.symm⟩
  · rw [if_neg (by omega)]
    congr 1
    symm
    rw [decide_eq_false_iff_not, key]
    intro hh
    have := hh.length_le
    rw [List.length_drop, hl, hbl] at this
    omega
theorem wi (n q : Nat) (hn : n ≤ 100000) (hq : q ≤ 10) : wrap64 ((n : Int) + (q : Int)) = ((n + q : Nat) : Int) := by rw [w_in (by omega)]; omega
theorem words_f (s : ByteArray) (n : Nat) (hs : s.size ≤ 100000) (hn : n ≤ s.size) (m : List Int) (hv : ∀ c ∈ m, valid c) (h : s.data.toList.drop n = enc m) :
    colophonref28_word.f s (n : Int) (⟨#[123, 123]⟩ : ByteArray) = some (decide ([123, 123] <+: m)) ∧
    colophonref28_word.f s (n : Int) (⟨#[123, 112, 97, 103, 101, 125]⟩ : ByteArray) = some (decide (sPage <+: m)) ∧
    colophonref28_word.f s (n : Int) (⟨#[123, 112, 97, 103, 101, 115, 125]⟩ : ByteArray) = some (decide (sPages <+: m)) ∧
    colophonref28_word.f s (n : Int) (⟨#[123, 116, 105, 116, 108, 101, 125]⟩ : ByteArray) = some (decide (sTitle <+: m)) :=
  ⟨word_f s n hs hn _ [123, 123] m (by decide +kernel) (by decide) (by decide) hv h, word_f s n hs hn _ sPage m (by decide +kernel) (by decide) (by decide) hv h,
    word_f s n hs hn _ sPages m (by decide +kernel) (by decide) (by decide) hv h, word_f s n hs hn _ sTitle m (by decide +kernel) (by decide) (by decide) hv h⟩
theorem no123 (c : Int) (hc : c ≠ 123) (hv : valid c) : (123 : UInt8) ∉ Lib.encodeRune c := by
  intro h
  unfold valid at hv
  unfold Lib.encodeRune at h
  rw [List.mem_map] at h
  obtain ⟨x, hx, e⟩ := h
  have e1 : x.toNat % 256 = 123 := by
    have := congrArg UInt8.toNat e
    exact this
  by_cases c1 : c ≤ 127
  · rw [Lib.encodeRuneZ_one (by omega) c1] at hx
    simp at hx
    omega
  · by_cases c2 : c ≤ 2047
    · rw [Lib.encodeRuneZ_two (by omega) c2] at hx
      simp at hx
      omega
    · by_cases c3 : c ≤ 65535
      · rw [Lib.encodeRuneZ_three (by omega)] at hx
        simp at hx
        omega
      · rw [Lib.encodeRuneZ_four (by omega) (by omega)] at hx
        simp at hx
        omega
/-- A character's bytes: the first is none that goes on, the others are. -/
theorem rune_shape (c : Int) (hv : valid c) : ∃ b l, Lib.encodeRune c = b :: l ∧ (b.toNat < 128 ∨ 192 ≤ b.toNat) ∧ ∀ x ∈ l, 128 ≤ x.toNat ∧ x.toNat < 192 := by
  unfold valid at hv
  have ux : ∀ x : Int, (x.toNat.toUInt8).toNat = x.toNat % 256 := fun x => rfl
  unfold Lib.encodeRune
  by_cases c1 : c ≤ 127
  · rw [Lib.encodeRuneZ_one (by omega) c1]
    refine ⟨_, _, rfl, ?_, by simp⟩
    rw [ux]
    omega
  · by_cases c2 : c ≤ 2047
    · rw [Lib.encodeRuneZ_two (by omega) c2]
      refine ⟨_, _, rfl, ?_, ?_⟩
      · rw [ux]; omega
      · intro x hx
        simp only [List.map_cons, List.map_nil, List.mem_cons, List.not_mem_nil, or_false] at hx
        subst hx
        rw [ux]; omega
    · by_cases c3 : c ≤ 65535
      · rw [Lib.encodeRuneZ_three (by omega)]
        refine ⟨_, _, rfl, ?_, ?_⟩
        · rw [ux]; omega
        · intro x hx
          simp only [List.map_cons, List.map_nil, List.mem_cons, List.not_mem_nil, or_false] at hx
          rcases hx with rfl | rfl <;> rw [ux] <;> omega
      · rw [Lib.encodeRuneZ_four (by omega) (by omega)]
        refine ⟨_, _, rfl, ?_, ?_⟩
        · rw [ux]; omega
        · intro x hx
          simp only [List.map_cons, List.map_nil, List.mem_cons, List.not_mem_nil, or_false] at hx
          rcases hx with rfl | rfl | rfl <;> rw [ux] <;> omega
theorem enc_head (m : List Int) (hv : ∀ c ∈ m, valid c) : enc m = [] ∨ ∃ b l, enc m = b :: l ∧ (b.toNat < 128 ∨ 192 ≤ b.toNat) := by
  cases m with
  | nil => exact .inl rfl
  | cons c m =>
    obtain ⟨b, l, e, hb, _⟩ := rune_shape c (hv c (List.mem_cons_self ..))
    exact .inr ⟨b, l ++ enc m, by rw [enc_cons, e]; rfl, hb⟩
theorem toks_skip : ∀ (m : List Int) (k a : Nat), k ≤ m.length → toks a k m = toks (a + (enc (m.take k)).length) 0 (m.drop k)
  | m, 0, a, _ => by simp [enc]
  | [], k + 1, a, h => by simp at h
  | c :: m, k + 1, a, h => by
    rw [List.length_cons] at h
    rw [toks, toks_skip m k _ (by omega), List.take_succ_cons, List.drop_succ_cons, enc_cons, List.length_append, Nat.add_assoc]
/-! ### the reference's Check -/
theorem check_bytes (s : ByteArray) (hs : s.size ≤ 100000) : ∀ (l : List UInt8) (F n : Nat) (r : List UInt8), s.data.toList.drop n = l ++ r → (123 : UInt8) ∉ l → colophonref28_Check.l0 (F + l.length) s (n : Int) = colophonref28_Check.l0 F s ((n + l.length : Nat) : Int) := by
  intro l
  induction l with
  | nil => intro F n r _ _; rfl
  | cons b l ih =>
    intro F n r h hn
    obtain ⟨h1, h2, h3⟩ := at_cons s n b (l ++ r) h
    have hi : wrap64 ((n : Int) + 1) = ((n + 1 : Nat) : Int) := by rw [w_in (by omega)]; omega
    have hb : ¬ (b.toNat : Int) = 123 := by
      intro e
      apply hn
      have : b = 123 := UInt8.toNat_inj.1 (by show b.toNat = 123; omega)
      rw [this]
      exact List.mem_cons_self ..
    rw [List.length_cons, show F + (l.length + 1) = F + l.length + 1 by omega, colophonref28_Check.l0, if_pos (by omega), if_pos (by omega), h2, if_neg hb, hi, ih F (n + 1) r h3 (fun h => hn (List.mem_cons_of_mem _ h)), show n + 1 + l.length = n + (l.length + 1) by omega]
theorem sgn_if (m : List Int) : sgn m = if [123, 123] <+: m then [123, 123] else if sPage <+: m then sPage else if sPages <+: m then sPages else if sTitle <+: m then sTitle else [] := rfl
theorem drop_asc (p m : List Int) (h : p <+: m) (hp : ∀ y ∈ p, 0 ≤ y ∧ y ≤ 127) : enc m = enc p ++ enc (m.drop p.length) ∧ (enc p).length = p.length := by
  obtain ⟨t, rfl⟩ := h
  refine ⟨?_, enc_asc p hp⟩
  rw [List.drop_left]
  unfold enc
  rw [List.flatMap_append]
/-- What toks says at a bracket. -/
theorem toks_sign (a : Nat) (m : List Int) (p : List Int) (hs : sgn (123 :: m) = p) (hp : p ≠ []) :
    toks a 0 (123 :: m) = ((toks (a + p.length) 0 ((123 :: m).drop p.length)).1, (toks (a + p.length) 0 ((123 :: m).drop p.length)).2.1, p :: (toks (a + p.length) 0 ((123 :: m).drop p.length)).2.2) := by
  obtain ⟨r1, r2⟩ := sgn_rest 123 m
  have hpos : 0 < p.length := List.length_pos_iff.2 hp
  have h1 : (Lib.encodeRune 123).length = 1 := rfl
  rw [toks, if_neg (by simp), hs, if_pos hp, h1]
  rw [hs] at r1 r2
  have e : toks (a + 1) (p.length - 1) m = toks (a + p.length) 0 ((123 :: m).drop p.length) := by
    have hq := enc_asc _ r2
    rw [toks_skip m _ _ r1, hq, List.length_take, Nat.min_eq_left r1]
    obtain ⟨q, hq⟩ : ∃ q, p.length = q + 1 := ⟨p.length - 1, by omega⟩
    rw [hq, List.drop_succ_cons, show a + 1 + (q + 1 - 1) = a + (q + 1) by omega]
    rfl
  rw [e]
theorem toks_none (a : Nat) (m : List Int) (hs : sgn (123 :: m) = []) : toks a 0 (123 :: m) = ((a : Int), false, []) := by
  rw [toks, if_neg (by simp), hs, if_neg (by simp)]
theorem toks_char (a : Nat) (c : Int) (m : List Int) (hc : c ≠ 123) :
    toks a 0 (c :: m) = ((toks (a + (Lib.encodeRune c).length) 0 m).1, (toks (a + (Lib.encodeRune c).length) 0 m).2.1, [c] :: (toks (a + (Lib.encodeRune c).length) 0 m).2.2) := by
  rw [toks, if_pos hc]
theorem rcheck_l0 (s : ByteArray) (hs : s.size ≤ 100000) : ∀ (d : Nat) (m : List Int) (F n : Nat), m.length ≤ d → (∀ c ∈ m, valid c) → s.data.toList.drop n = enc m → n ≤ s.size → s.size - n < F →
    colophonref28_Check.l0 F s (n : Int) = if (toks n 0 m).2.1 = true then some (0, 0) else some ((toks n 0 m).1, 280) := by
  have hl := size_eq s
  intro d
  induction d with
  | zero =>
    intro m F n hd hv h hn hF
    obtain rfl : m = [] := List.eq_nil_of_length_eq_zero (by omega)
    obtain ⟨F, rfl⟩ : ∃ q, F = q + 1 := ⟨F - 1, by omega⟩
    have hz := congrArg List.length h
    rw [List.length_drop, hl] at hz
    have : (enc []).length = 0 := rfl
    rw [colophonref28_Check.l0, if_neg (by omega), toks_nil, if_pos rfl]
  | succ d ih =>
    intro m F n hd hv h hn hF
    cases m with
    | nil =>
      obtain ⟨F, rfl⟩ : ∃ q, F = q + 1 := ⟨F - 1, by omega⟩
      have hz := congrArg List.length h
      rw [List.length_drop, hl] at hz
      have : (enc []).length = 0 := rfl
      rw [colophonref28_Check.l0, if_neg (by omega), toks_nil, if_pos rfl]
    | cons c m =>
      rw [List.length_cons] at hd
      have vc := hv c (List.mem_cons_self ..)
      have vm := fun y hy => hv y (List.mem_cons_of_mem c hy)
      have hz := congrArg List.length h
      rw [List.length_drop, hl, enc_cons, List.length_append] at hz
      have h1 := rune_len c
      by_cases hc : c = 123
      · subst hc
        have hb1 : Lib.encodeRune 123 = [123] := rfl
        have h0 := h
        rw [enc_cons, hb1, List.singleton_append] at h
        obtain ⟨g1, g2', g3⟩ := at_cons s n 123 _ h
        have g2 : bt s (n : Int) = 123 := g2'.trans (by decide)
        have hi : wrap64 ((n : Int) + 1) = ((n + 1 : Nat) : Int) := wi n 1 (Nat.le_trans hn hs) (by decide)
        have hi2 : wrap64 ((n : Int) + 2) = ((n + 2 : Nat) : Int) := wi n 2 (Nat.le_trans hn hs) (by decide)
        clear g2' hz h1 vc
        obtain ⟨w0, w1, w2, w3⟩ := words_f s n hs hn (123 :: m) hv h0
        obtain ⟨F, rfl⟩ : ∃ q, F = q + 1 := ⟨F - 1, by omega⟩
        have g3' : (n : Int) < (s.size : Int) := by omega
        rw [colophonref28_Check.l0, if_pos g3', if_pos (Int.natCast_nonneg n), if_pos g2, w0, w1, w2, w3, hi, hi2]
        simp only [Option.bind_some, decide_eq_true_eq]
        -- behind a sign
        have jump : ∀ p : List Int, p <+: 123 :: m → (∀ y ∈ p, 0 ≤ y ∧ y ≤ 127) → 1 ≤ p.length → n + p.length ≤ s.size ∧ s.data.toList.drop (n + p.length) = enc ((123 :: m).drop p.length) ∧ ((123 :: m).drop p.length).length ≤ d ∧ (∀ c ∈ (123 :: m).drop p.length, valid c) := by
          intro p hp ha hpl
          obtain ⟨e1, e2⟩ := drop_asc p (123 :: m) hp ha
          have e3 := congrArg List.length h0
          rw [e1, List.length_append, e2, List.length_drop, hl] at e3
          refine ⟨by omega, ?_, by rw [List.length_drop, List.length_cons]; omega, fun c hc => hv c (List.mem_of_mem_drop hc)⟩
          rw [← List.drop_drop, h0, e1, List.drop_append_of_le_length (by omega), List.drop_of_length_le (by omega), List.nil_append]
        have step : ∀ p : List Int, p <+: 123 :: m → (∀ y ∈ p, 0 ≤ y ∧ y ≤ 127) → p.length ≤ 7 → (∃ q, p = 123 :: q ∧ (123 : UInt8) ∉ enc q) → sgn (123 :: m) = p →
            colophonref28_Check.l0 F s ((n + 1 : Nat) : Int) = if (toks n 0 (123 :: m)).2.1 = true then some (0, 0) else some ((toks n 0 (123 :: m)).1, 280) := by
          intro p hp ha h7 ⟨q, hq, hn1⟩ hS
          have hpl : p.length = q.length + 1 := by rw [hq]; rfl
          have hpn : p ≠ [] := by rw [hq]; simp
          obtain ⟨j1, j2, j3, j4⟩ := jump p hp ha (by omega)
          obtain ⟨e1, e2⟩ := drop_asc p (123 :: m) hp ha
          have hqa : (enc q).length = q.length := enc_asc q (fun y hy => ha y (by rw [hq]; exact List.mem_cons_of_mem _ hy))
          have e4 : s.data.toList.drop (n + 1) = enc q ++ enc ((123 :: m).drop p.length) := by
            have e5 := h0
            rw [e1, hq, enc_cons, hb1, List.singleton_append, List.cons_append] at e5
            have := (at_cons s n 123 _ e5).2.2
            rw [← hq] at this
            exact this
          obtain ⟨F', hF'⟩ : ∃ F', F = F' + (enc q).length := ⟨F - (enc q).length, by omega⟩
          rw [hF', check_bytes s hs (enc q) F' (n + 1) _ e4 hn1, hqa, show n + 1 + q.length = n + p.length by omega, ih _ F' (n + p.length) j3 j4 j2 j1 (by omega), toks_sign n m p hS hpn]
        by_cases c0 : [123, 123] <+: 123 :: m
        · rw [if_pos c0]
          have hS : sgn (123 :: m) = [123, 123] := by rw [sgn_if, if_pos c0]
          obtain ⟨j1, j2, j3, j4⟩ := jump [123, 123] c0 (by decide) (by decide)
          rw [show n + 2 = n + ([123, 123] : List Int).length from rfl, ih _ F _ j3 j4 j2 j1 (by simp only [List.length_cons, List.length_nil]; omega), toks_sign n m _ hS (by simp)]
        rw [if_neg c0]
        by_cases c1 : sPage <+: 123 :: m
        · rw [if_pos c1]
          exact step sPage c1 (by decide) (by decide) ⟨_, rfl, by decide +kernel⟩ (by rw [sgn_if, if_neg c0, if_pos c1])
        rw [if_neg c1]
        by_cases c2 : sPages <+: 123 :: m
        · rw [if_pos c2]
          exact step sPages c2 (by decide) (by decide) ⟨_, rfl, by decide +kernel⟩ (by rw [sgn_if, if_neg c0, if_neg c1, if_pos c2])
        rw [if_neg c2]
        by_cases c3 : sTitle <+: 123 :: m
        · rw [if_pos c3]
          exact step sTitle c3 (by decide) (by decide) ⟨_, rfl, by decide +kernel⟩ (by rw [sgn_if, if_neg c0, if_neg c1, if_neg c2, if_pos c3])
        rw [if_neg c3, toks_none n m (by rw [sgn_if, if_neg c0, if_neg c1, if_neg c2, if_neg c3]), if_neg (by simp)]
      · have hd2 : s.data.toList.drop (n + (Lib.encodeRune c).length) = enc m := by rw [← List.drop_drop, h, enc_cons, List.drop_left]
        obtain ⟨F', hF'⟩ : ∃ F', F = F' + (Lib.encodeRune c).length := ⟨F - (Lib.encodeRune c).length, by omega⟩
        rw [hF', check_bytes s hs (Lib.encodeRune c) F' n (enc m) h (no123 c hc vc), ih m F' _ (by omega) vm hd2 (by omega) (by omega), toks_char n c m hc]
theorem rcheck_f (s : ByteArray) (K : Nat) (hK : 700000 ≤ K) : colophonref28_Check.f K s = furnish_Check.f K s := by
  unfold colophonref28_Check.f
  by_cases h : s.size ≤ 4096
  · rw [if_neg (by omega)]
    obtain ⟨m, rest, a, b, c⟩ := split_enc _ s.data.toList (Nat.le_refl _)
    rcases c with c | c
    · rw [c, List.append_nil] at a
      rw [ref_all s (by omega) K (by omega) m b a, check_all s K (by omega) h m b a, Option.bind_some, if_pos rfl]
      exact rcheck_l0 s (by omega) m.length m K 0 (Nat.le_refl _) b (by rw [List.drop_zero, a]) (Nat.zero_le _) (by omega)
    · rw [ref_part s (by omega) K (by omega) m rest b a c, check_part s K (by omega) h m rest b a c]
      rfl
  · rw [if_pos (by omega), check_long s K (by omega)]

end Go.Proofs.YtmcdcpejkldepaaDoor.PureFurnishSays
