/- The plain law of FurnishSays: which templates may be, and what they say on a page, for all texts and numbers. -/
import Derived.Lib.ItoaLen
import Derived.Test.YtmcdcpejkldepaaDoorPFurnishSaysx5
import Derived.Test.YtmcdcpejkldepaaDoorPureFurnishSaysD
import Derived.Test.YtmcdcpejkldepaaDoorPureFurnishSaysR
import Derived.Test.YtmcdcpejkldepaaDoorPureFurnishSaysC
namespace Go.Proofs.YtmcdcpejkldepaaDoor.PureFurnishSays
open Go.RowKit Go.Proofs.YtmcdcpejkldepaaDoor.PFurnishSays Go.Proofs.YtmcdcpejkldepaaDoorW.PrintWords Go.Proofs.YtmcdcpejkldepaaDoorW.PrintLast Go.Proofs.YtmcdcpejkldepaaDoorW.PrintMore
theorem toks_count : ∀ (m : List Int) (k a : Nat), (toks a k m).2.2.length ≤ m.length
  | [], k, a => by rw [toks_nil]; simp
  | c :: m, k + 1, a => by rw [toks]; have := toks_count m k (a + (Lib.encodeRune c).length); rw [List.length_cons]; omega
  | c :: m, 0, a => by
    rw [toks]
    by_cases h123 : c ≠ 123
    · rw [if_pos h123]
      have := toks_count m 0 (a + (Lib.encodeRune c).length)
      simp only [List.length_cons]
      omega
    · rw [if_neg h123]
      by_cases hn : sgn (c :: m) ≠ []
      · rw [if_pos hn]
        have := toks_count m ((sgn (c :: m)).length - 1) (a + (Lib.encodeRune c).length)
        simp only [List.length_cons]
        omega
      · rw [if_neg hn]
        simp
theorem flat_len (f : List Int → List Int) (b : Nat) : ∀ l : List (List Int), (∀ p ∈ l, (f p).length ≤ b) → (l.flatMap f).length ≤ l.length * b
  | [], _ => by simp
  | p :: l, h => by
    rw [List.flatMap_cons, List.length_append, List.length_cons, Nat.succ_mul]
    have h1 := h p (List.mem_cons_self ..)
    have h2 := flat_len f b l (fun q hq => h q (List.mem_cons_of_mem _ hq))
    omega
theorem says_len (pg ps : Int) (title : List Int) (hp : -9223372036854775808 ≤ pg ∧ pg ≤ 9223372036854775807) (hq : -9223372036854775808 ≤ ps ∧ ps ≤ 9223372036854775807) (ht : title.length ≤ 2000) (m : List Int) (hv : ∀ c ∈ m, valid c) (hm : m.length ≤ 8192) :
    ((toks 0 0 m).2.2.flatMap (saidL pg ps title)).length ≤ 20000000 := by
  have h1 := toks_count m 0 0
  have h2 := flat_len (saidL pg ps title) 2040 (toks 0 0 m).2.2 (by
    intro p hm
    have hc := toks_piece m 0 0 hv p hm
    rw [← said_piece pg ps title p hc]
    have hz : ((⟨(enc p).toArray⟩ : ByteArray)).size ≤ 7 := by
      show (enc p).length ≤ 7
      rcases hc with ⟨c, rfl, _, _⟩ | rfl | rfl | rfl | rfl
      · have := (enc_len [c]).2
        simp at this
        omega
      all_goals decide +kernel
    have := Furn.said_len (page := pg) (pages := ps) title _ hp hq hz
    omega)
  have h3 := Nat.mul_le_mul_right 2040 (Nat.le_trans h1 hm)
  omega

theorem ofl_app (a b : List UInt8) : (⟨a.toArray⟩ : ByteArray) ++ (⟨b.toArray⟩ : ByteArray) = ⟨(a ++ b).toArray⟩ := by
  apply ByteArray.ext
  simp
theorem ofl_size (a : List UInt8) : (⟨a.toArray⟩ : ByteArray).size = a.length := rfl
theorem dig_len (u : Nat) (h : u ≤ 9223372036854775808) : (Lib.decDigits u).length ≤ 21 := by
  have := Lib.itoa_length_le (-(u : Int)) (by omega) (by omega)
  by_cases h1 : 1 ≤ u
  · rw [Lib.itoa_neg u h1, List.length_cons] at this
    omega
  · obtain rfl : u = 0 := by omega
    rw [Lib.decDigits, dif_pos (by omega)]
    simp
theorem str1 (v : Nat) : strOfNums [(v : Int)] = ⟨([UInt8.ofNat v]).toArray⟩ := rfl
theorem decimal_f : ∀ (k u : Nat), u < 10 ^ k → u ≤ 9223372036854775808 → colophonref02_Decimal.f (k + 1) (u : Int) = some ⟨(Lib.decDigits u).toArray⟩ ∨ u = 9223372036854775808
  | k, u, hk, hu => by
    by_cases hbig : u = 9223372036854775808
    · exact .inr hbig
    left
    by_cases h : u < 10
    · have e1 : (wrap64 (48 + (u : Int))) % 256 = ((48 + u : Nat) : Int) := by rw [w_in (by omega)]; omega
      rw [colophonref02_Decimal.f, if_pos (by omega), e1, Lib.decDigits, dif_pos h, str1]
    · obtain ⟨k, rfl⟩ : ∃ q, k = q + 1 := by
        cases k with
        | zero => omega
        | succ k => exact ⟨k, rfl⟩
      have ht : Int.tdiv (u : Int) 10 = ((u / 10 : Nat) : Int) := R.tdiv_n u 10
      have hm : Int.tmod (u : Int) 10 = ((u % 10 : Nat) : Int) := R.tmod_n u 10
      have hw : wrap64 (((u / 10 : Nat) : Int)) = ((u / 10 : Nat) : Int) := w_in (by omega)
      have e1 : (wrap64 (48 + ((u % 10 : Nat) : Int))) % 256 = ((48 + u % 10 : Nat) : Int) := by rw [w_in (by omega)]; omega
      have hp : u / 10 < 10 ^ k := by rw [Nat.pow_succ] at hk; omega
      rcases decimal_f k (u / 10) hp (by omega) with ih | ih
      · have hl := dig_len (u / 10) (by omega)
        have hS : strOfNums [((48 + u % 10 : Nat) : Int)] = ⟨([UInt8.ofNat (48 + u % 10)]).toArray⟩ := str1 _
        rw [colophonref02_Decimal.f, if_neg (by omega), ht, hw, ih, hm, e1]
        simp only [Option.bind_some]
        rw [hS, ofl_size, ofl_size, if_pos (by simp only [List.length_cons, List.length_nil]; omega), ofl_app]
        conv => rhs; rw [Lib.decDigits, dif_neg h]
      · omega
theorem decimal (K : Nat) (hK : 30 ≤ K) (u : Nat) (h : u < 9223372036854775808) : colophonref02_Decimal.f K (u : Int) = some ⟨(Lib.decDigits u).toArray⟩ := by
  have h1 : colophonref02_Decimal.f 20 (u : Int) = some ⟨(Lib.decDigits u).toArray⟩ := by
    rcases decimal_f 19 u (by omega) (by omega) with h1 | h1
    · exact h1
    · omega
  exact at_rounds (g := fun k => colophonref02_Decimal.f k (u : Int)) (colophonref02_Decimal.mono _) (by omega) h1
theorem dig_asc : ∀ u : Nat, ∀ b ∈ Lib.decDigits u, b.toNat < 128 := by
  intro u
  induction u using Nat.strongRecOn with
  | ind u ih =>
    intro b hb
    rw [Lib.decDigits] at hb
    by_cases h : u < 10
    · rw [dif_pos h, List.mem_singleton] at hb
      rw [hb]
      show (48 + u) % 256 < 128
      omega
    · rw [dif_neg h] at hb
      rcases List.mem_append.1 hb with hb | hb
      · exact ih (u / 10) (by omega) b hb
      · rw [List.mem_singleton] at hb
        rw [hb]
        show (48 + u % 10) % 256 < 128
        omega
theorem itoa_asc (n : Int) : ∀ b ∈ Lib.itoa n, b.toNat < 128 := by
  intro b hb
  unfold Lib.itoa at hb
  split at hb
  · rcases List.mem_cons.1 hb with rfl | hb
    · decide
    · exact dig_asc _ b hb
  · exact dig_asc _ b hb
theorem asc_enc : ∀ l : List UInt8, (∀ b ∈ l, b.toNat < 128) → l = enc (l.map fun b => (b.toNat : Int))
  | [], _ => rfl
  | b :: l, h => by
    have hb := h b (List.mem_cons_self ..)
    rw [List.map_cons, enc_cons, ← asc_enc l (fun y hy => h y (List.mem_cons_of_mem _ hy)), rune_asc _ (by omega)]
    simp
theorem number_f (K : Nat) (hK : 30 ≤ K) (n : Int) (h : -9223372036854775808 ≤ n ∧ n ≤ 9223372036854775807) : colophonref28_number.f K n = some ⟨(Lib.itoa n).toArray⟩ := by
  unfold colophonref28_number.f
  have e45 : (⟨#[45]⟩ : ByteArray) = ⟨([45] : List UInt8).toArray⟩ := rfl
  by_cases h0 : n ≥ 0
  · obtain ⟨u, rfl⟩ : ∃ u : Nat, n = u := ⟨n.toNat, by omega⟩
    rw [if_pos h0, decimal K hK u (by omega), Lib.itoa_nonneg]
    rfl
  · obtain ⟨u, rfl⟩ : ∃ u : Nat, n = -(u : Int) := ⟨(-n).toNat, by omega⟩
    rw [if_neg h0, Lib.itoa_neg u (by omega)]
    by_cases h1 : -(u : Int) > -10
    · have hw : wrap64 (-(-(u : Int))) = (u : Int) := by rw [w_in (by omega)]; omega
      have hl := dig_len u (by omega)
      rw [if_pos h1, hw, decimal K hK u (by omega), Option.bind_some, ofl_size, if_pos (by omega), e45, ofl_app]
      rfl
    · have ht : Int.tdiv (-(u : Int)) 10 = -((u / 10 : Nat) : Int) := by rw [Int.neg_tdiv]; rfl
      have hm : Int.tmod (-(u : Int)) 10 = -((u % 10 : Nat) : Int) := by rw [Int.neg_tmod]; rfl
      have hw : wrap64 (-((u / 10 : Nat) : Int)) = -((u / 10 : Nat) : Int) := w_in (by omega)
      have hw2 : wrap64 (-(-((u / 10 : Nat) : Int))) = ((u / 10 : Nat) : Int) := by rw [w_in (by omega)]; omega
      have hw3 : wrap64 (-(-((u % 10 : Nat) : Int))) = ((u % 10 : Nat) : Int) := by rw [w_in (by omega)]; omega
      have hl := dig_len (u / 10) (by omega)
      have hl2 := dig_len (u % 10) (by omega)
      rw [if_neg h1, ht, hm, hw, hw2, hw3, decimal K hK (u / 10) (by omega), decimal K hK (u % 10) (by omega)]
      simp only [Option.bind_some]
      rw [ofl_size, if_pos (by omega), e45, ofl_app, ofl_size, ofl_size, if_pos (by rw [List.length_append, List.length_singleton]; omega), ofl_app]
      have hd : Lib.decDigits u = Lib.decDigits (u / 10) ++ Lib.decDigits (u % 10) := by
        rw [Lib.decDigits, dif_neg (by omega)]
        conv => rhs; rw [Lib.decDigits.eq_1 (u % 10), dif_pos (by omega)]
      rw [hd]
      rfl
theorem number_points (K : Nat) (hK : 700000 ≤ K) (n : Int) (h : -9223372036854775808 ≤ n ∧ n ≤ 9223372036854775807) :
    colophonref28_number.f K n = some ⟨(Lib.itoa n).toArray⟩ ∧ colophonref28_points.f K ⟨(Lib.itoa n).toArray⟩ = some (Furn.runes ⟨(Lib.itoa n).toArray⟩) ∧ (Furn.runes ⟨(Lib.itoa n).toArray⟩).length ≤ 21 := by
  have hl := Lib.itoa_length_le n h.1 h.2
  have he := asc_enc (Lib.itoa n) (itoa_asc n)
  have hv : ∀ c ∈ (Lib.itoa n).map (fun b => (b.toNat : Int)), valid c := by
    intro c hc
    obtain ⟨b, hb, rfl⟩ := List.mem_map.1 hc
    have := itoa_asc n b hb
    unfold valid
    omega
  have hr : Furn.runes ⟨(Lib.itoa n).toArray⟩ = (Lib.itoa n).map (fun b => (b.toNat : Int)) := by
    unfold Furn.runes
    exact runesFrom_enc _ _ _ 0 hv (by rw [List.drop_zero]; exact he) (by rw [List.length_map]; exact Nat.le_refl _)
  refine ⟨number_f K (by omega) n h, ?_, by rw [hr, List.length_map]; exact hl⟩
  rw [hr]
  exact points_all _ (by rw [ofl_size]; omega) K (by omega) _ hv he
/-! ### the reference's Expand -/
theorem room_ok {a n z b : Nat} (ho : a ≤ 2100 * n) (hn : n ≤ z) (hz : z ≤ 4096) (hb : b ≤ 2100) : a + b < 17592186044416 := by omega
section
variable (s : ByteArray) (hs : s.size ≤ 4096) (pg ps : Int) (title : List Int) (hp : -9223372036854775808 ≤ pg ∧ pg ≤ 9223372036854775807) (hq : -9223372036854775808 ≤ ps ∧ ps ≤ 9223372036854775807) (ht : title.length ≤ 2000)
theorem l1_run (n : Nat) (out : List Int) (hs : s.size ≤ 4096) : ∀ (l : List UInt8) (F j : Nat) (r : List UInt8), s.data.toList.drop (n + j) = l ++ r → n + j + l.length ≤ s.size → (∀ x ∈ l, 128 ≤ x.toNat ∧ x.toNat < 192) → (r = [] ∨ ∃ b q, r = b :: q ∧ (b.toNat < 128 ∨ 192 ≤ b.toNat)) →
    colophonref28_Expand.l1 (F + l.length + 1) s pg ps title out (n : Int) (j : Int) =
      (colophonref28_points.f F (s.extract n (n + j + l.length))).bind fun t => if out.length + t.length < 17592186044416 then colophonref28_Expand.l0 F s pg ps title (out ++ t) ((n + j + l.length : Nat) : Int) else none := by
  have hl := size_eq s
  intro l
  induction l with
  | nil =>
    intro F j r h hz _ hr
    rw [List.nil_append] at h
    simp only [List.length_nil, Nat.add_zero] at hz ⊢
    have hi : wrap64 ((n : Int) + (j : Int)) = ((n + j : Nat) : Int) := by rw [w_in (by omega)]; omega
    rw [colophonref28_Expand.l1, hi]
    rcases hr with hr | ⟨b, q, hr, hb⟩
    · rw [hr] at h
      have hz2 := congrArg List.length h
      rw [List.length_drop, hl, List.length_nil] at hz2
      rw [if_neg (by omega), if_pos (by omega), if_pos (by omega), if_pos (by omega), Int.toNat_natCast, Int.toNat_natCast]
    · rw [hr] at h
      obtain ⟨h1, h2, h3⟩ := at_cons s (n + j) b q h
      rw [if_pos (by omega), if_pos (by omega), h2]
      by_cases c1 : (b.toNat : Int) ≥ 128
      · rw [if_pos c1, if_neg (by omega), if_pos (by omega), if_pos (by omega), if_pos (by omega), Int.toNat_natCast, Int.toNat_natCast]
      · rw [if_neg c1, if_pos (by omega), if_pos (by omega), if_pos (by omega), Int.toNat_natCast, Int.toNat_natCast]
  | cons b l ih =>
    intro F j r h hz ha hr
    rw [List.length_cons] at hz ⊢
    obtain ⟨h1, h2, h3⟩ := at_cons s (n + j) b (l ++ r) h
    have hb := ha b (List.mem_cons_self ..)
    have hi : wrap64 ((n : Int) + (j : Int)) = ((n + j : Nat) : Int) := by rw [w_in (by omega)]; omega
    have hj : wrap64 ((j : Int) + 1) = ((j + 1 : Nat) : Int) := by rw [w_in (by omega)]; omega
    rw [colophonref28_Expand.l1, hi, if_pos (by omega), if_pos (by omega), h2, if_pos (by omega), if_pos (by omega), hj, show F + (l.length + 1) = F + l.length + 1 by omega,
      ih F (j + 1) r (by rw [← h3]; congr 1) (by omega) (fun y hy => ha y (List.mem_cons_of_mem _ hy)) hr, show n + (j + 1) + l.length = n + j + (l.length + 1) by omega]
include hs hp hq ht in
theorem rexp_l0 : ∀ (d : Nat) (m : List Int) (F n : Nat) (out : List Int), m.length ≤ d → (∀ c ∈ m, valid c) → s.data.toList.drop n = enc m → n ≤ s.size → out.length ≤ 2100 * n → 700000 + 10 * (s.size - n) ≤ F → (toks n 0 m).2.1 = true →
    colophonref28_Expand.l0 F s pg ps title out (n : Int) = some (out ++ (toks n 0 m).2.2.flatMap (saidL pg ps title), 0, 0) := by
  have hl := size_eq s
  have hnil : ∀ (F n : Nat) (out : List Int), s.data.toList.drop n = enc [] → n ≤ s.size → 700000 ≤ F → colophonref28_Expand.l0 F s pg ps title out (n : Int) = some (out ++ (toks n 0 []).2.2.flatMap (saidL pg ps title), 0, 0) := by
    intro F n out h hn hF
    obtain ⟨F, rfl⟩ : ∃ q, F = q + 1 := ⟨F - 1, by omega⟩
    have hz := congrArg List.length h
    rw [List.length_drop, hl] at hz
    have : (enc []).length = 0 := rfl
    rw [colophonref28_Expand.l0, if_neg (by omega), toks_nil]
    simp
  intro d
  induction d with
  | zero =>
    intro m F n out hd hv h hn ho hF hT
    obtain rfl : m = [] := List.eq_nil_of_length_eq_zero (by omega)
    exact hnil F n out h hn (by omega)
  | succ d ih =>
    intro m F n out hd hv h hn ho hF hT
    cases m with
    | nil => exact hnil F n out h hn (by omega)
    | cons c m =>
      rw [List.length_cons] at hd
      have vc := hv c (List.mem_cons_self ..)
      have vm := fun y hy => hv y (List.mem_cons_of_mem c hy)
      have hz := congrArg List.length h
      rw [List.length_drop, hl, enc_cons, List.length_append] at hz
      have h1 := rune_len c
      obtain ⟨w0, w1, w2, w3⟩ := words_f s n (by omega) hn (c :: m) hv h
      obtain ⟨F, rfl⟩ : ∃ q, F = q + 1 := ⟨F - 1, by omega⟩
      rw [colophonref28_Expand.l0, if_pos (by omega), w0, w1, w2, w3]
      simp only [Option.bind_some, decide_eq_true_eq]
      by_cases hc : c = 123
      · subst hc
        have jump : ∀ p : List Int, p <+: 123 :: m → (∀ y ∈ p, 0 ≤ y ∧ y ≤ 127) → 1 ≤ p.length → n + p.length ≤ s.size ∧ s.data.toList.drop (n + p.length) = enc ((123 :: m).drop p.length) ∧ ((123 :: m).drop p.length).length ≤ d ∧ (∀ c ∈ (123 :: m).drop p.length, valid c) := by
          intro p hp ha hpl
          obtain ⟨e1, e2⟩ := drop_asc p (123 :: m) hp ha
          have e3 := congrArg List.length h
          rw [e1, List.length_append, e2, List.length_drop, hl] at e3
          refine ⟨by omega, ?_, by rw [List.length_drop, List.length_cons]; omega, fun c hc => hv c (List.mem_of_mem_drop hc)⟩
          rw [← List.drop_drop, h, e1, List.drop_append_of_le_length (by omega), List.drop_of_length_le (by omega), List.nil_append]
        have step : ∀ (p o : List Int), p <+: 123 :: m → (∀ y ∈ p, 0 ≤ y ∧ y ≤ 127) → 1 ≤ p.length → p.length ≤ 7 → sgn (123 :: m) = p → saidL pg ps title p = o → o.length ≤ 2100 →
            colophonref28_Expand.l0 F s pg ps title (out ++ o) ((n + p.length : Nat) : Int) = some (out ++ (toks n 0 (123 :: m)).2.2.flatMap (saidL pg ps title), 0, 0) := by
          intro p o hpp ha h1 h7 hS ho1 ho2
          have hpn : p ≠ [] := List.length_pos_iff.1 h1
          obtain ⟨j1, j2, j3, j4⟩ := jump p hpp ha h1
          have hts := toks_sign n m p hS hpn
          rw [hts] at hT ⊢
          rw [ih _ F (n + p.length) _ j3 j4 j2 j1 (by rw [List.length_append]; omega) (by omega) hT, List.flatMap_cons, ho1, List.append_assoc]
        have hi : ∀ q : Nat, q ≤ 7 → wrap64 ((n : Int) + (q : Int)) = ((n + q : Nat) : Int) := fun q hq => by rw [w_in (by omega)]; omega
        by_cases c0 : [123, 123] <+: 123 :: m
        · have hi2 : wrap64 ((n : Int) + 2) = ((n + 2 : Nat) : Int) := hi 2 (by omega)
          rw [if_pos c0, if_pos (show out.length < 17592186044416 from room_ok (b := 0) ho hn hs (by decide)), hi2]
          exact step [123, 123] [123] c0 (by decide) (by decide) (by decide) (by rw [sgn_if, if_pos c0]) (by unfold saidL; rw [if_pos rfl]) (by simp)
        rw [if_neg c0]
        by_cases c1 : sPage <+: 123 :: m
        · obtain ⟨n1, n2, n3⟩ := number_points F (by omega) pg hp
          have hi2 : wrap64 ((n : Int) + 6) = ((n + 6 : Nat) : Int) := hi 6 (by omega)
          rw [if_pos c1, n1, Option.bind_some, n2, Option.bind_some, if_pos (room_ok ho hn hs (Nat.le_trans n3 (by decide))), hi2]
          exact step sPage _ c1 (by decide) (by decide) (by decide) (by rw [sgn_if, if_neg c0, if_pos c1]) (by unfold saidL; rw [if_neg (by decide), if_pos rfl]) (by omega)
        rw [if_neg c1]
        by_cases c2 : sPages <+: 123 :: m
        · obtain ⟨n1, n2, n3⟩ := number_points F (by omega) ps hq
          have hi2 : wrap64 ((n : Int) + 7) = ((n + 7 : Nat) : Int) := hi 7 (by omega)
          rw [if_pos c2, n1, Option.bind_some, n2, Option.bind_some, if_pos (room_ok ho hn hs (Nat.le_trans n3 (by decide))), hi2]
          exact step sPages _ c2 (by decide) (by decide) (by decide) (by rw [sgn_if, if_neg c0, if_neg c1, if_pos c2]) (by unfold saidL; rw [if_neg (by decide), if_neg (by decide), if_pos rfl]) (by omega)
        rw [if_neg c2]
        by_cases c3 : sTitle <+: 123 :: m
        · have hi2 : wrap64 ((n : Int) + 7) = ((n + 7 : Nat) : Int) := hi 7 (by omega)
          rw [if_pos c3, if_pos (room_ok ho hn hs (Nat.le_trans ht (by decide))), hi2]
          exact step sTitle title c3 (by decide) (by decide) (by decide) (by rw [sgn_if, if_neg c0, if_neg c1, if_neg c2, if_pos c3]) (by unfold saidL; rw [if_neg (by decide), if_neg (by decide), if_neg (by decide), if_pos rfl]) (by omega)
        · rw [toks_none n m (by rw [sgn_if, if_neg c0, if_neg c1, if_neg c2, if_neg c3])] at hT
          simp at hT
      · have nop : ∀ p : List Int, (∃ q, p = 123 :: q) → ¬ p <+: c :: m := by
          intro p ⟨q, hq⟩ hh
          rw [hq, List.cons_prefix_cons] at hh
          exact hc hh.1.symm
        rw [if_neg (nop _ ⟨_, rfl⟩), if_neg (nop sPage ⟨_, rfl⟩), if_neg (nop sPages ⟨_, rfl⟩), if_neg (nop sTitle ⟨_, rfl⟩)]
        obtain ⟨b, l, e1, e2, e3⟩ := rune_shape c vc
        have hlen : (Lib.encodeRune c).length = l.length + 1 := by rw [e1]; rfl
        have hdr : s.data.toList.drop (n + 1) = l ++ enc m := by
          have h' := h
          rw [enc_cons, e1, List.cons_append] at h'
          exact (at_cons s n b _ h').2.2
        have hd2 : s.data.toList.drop (n + (Lib.encodeRune c).length) = enc m := by rw [← List.drop_drop, h, enc_cons, List.drop_left]
        obtain ⟨G, hG⟩ : ∃ G, F = G + l.length + 1 := ⟨F - l.length - 1, by omega⟩
        have hrun := l1_run s pg ps title n out hs l G 1 (enc m) hdr (by omega) e3 (by
          rcases enc_head m vm with e | ⟨b', l', e, hb'⟩
          · exact .inl e
          · exact .inr ⟨b', l', e, hb'⟩)
        have hx : (s.extract n (n + 1 + l.length)).data.toList = enc [c] := by
          have : (s.extract n (n + 1 + l.length)).data.toList = (s.data.toList.drop n).take (l.length + 1) := by
            rw [ByteArray.data_extract, Array.toList_extract]
            unfold List.extract
            rw [show n + 1 + l.length - n = l.length + 1 by omega]
          rw [this, h, enc_cons, ← hlen, List.take_left]
          show _ = Lib.encodeRune c ++ []
          rw [List.append_nil]
        have hxs : (s.extract n (n + 1 + l.length)).size ≤ 4 := by
          rw [← size_eq, hx]
          have := (enc_len [c]).2
          simpa using this
        have hpt := points_all (s.extract n (n + 1 + l.length)) (by omega) G (by omega) [c] (by intro y hy; rw [List.mem_singleton] at hy; rw [hy]; exact vc) hx
        rw [hG]
        show colophonref28_Expand.l1 (G + l.length + 1) s pg ps title out (n : Int) ((1 : Nat) : Int) = _
        have htc := toks_char n c m hc
        rw [htc] at hT
        rw [hrun, hpt, Option.bind_some, if_pos (room_ok (b := ([c] : List Int).length) ho hn hs (Nat.le_trans (Nat.le_of_eq (List.length_singleton)) (by decide))), show n + 1 + l.length = n + (Lib.encodeRune c).length by omega,
          ih m G _ _ (by omega) vm hd2 (by omega) (by rw [List.length_append, List.length_singleton]; omega) (by omega) hT, htc, List.flatMap_cons, List.append_assoc]
        congr 3
        have hsl : saidL pg ps title [c] = [c] := by
          unfold saidL
          rw [if_neg (by simp), if_neg (by simp [sPage]), if_neg (by simp [sPages]), if_neg (by simp [sTitle])]
        rw [hsl]
end
theorem rexp_f (s : ByteArray) (K : Nat) (hK : 800000 ≤ K) (pg ps : Int) (title : List Int) (hp : -9223372036854775808 ≤ pg ∧ pg ≤ 9223372036854775807) (hq : -9223372036854775808 ≤ ps ∧ ps ≤ 9223372036854775807) (ht : title.length ≤ 2000) :
    colophonref28_Expand.f K s pg ps title = furnish_Expand.f K s pg ps title := by
  unfold colophonref28_Expand.f
  rw [rcheck_f s K (by omega)]
  rcases text_cases s K (by omega) with ⟨a, e, h, he⟩ | ⟨h, m, hv, hd, hT⟩
  · rw [h, expand_bad s K pg ps title hp hq (by omega) a e h he, Option.bind_some]
    exact if_neg he
  · rw [check_all s K (by omega) h m hv hd, if_pos hT, Option.bind_some, if_pos rfl, expand_ok s K (by omega) pg ps title hp hq (by omega) h m hv hd hT]
    have := rexp_l0 s h pg ps title hp hq ht m.length m K 0 [] (Nat.le_refl _) hv (by rw [List.drop_zero, hd]) (Nat.zero_le _) (by simp) (by omega) hT
    rw [List.nil_append] at this
    exact this
theorem says_small (s : ByteArray) (K : Nat) (hK : 100000 ≤ K) (pg ps : Int) (title : List Int) (hp : -9223372036854775808 ≤ pg ∧ pg ≤ 9223372036854775807) (hq : -9223372036854775808 ≤ ps ∧ ps ≤ 9223372036854775807) (ht : title.length ≤ 2000) :
    ∃ r, furnish_Expand.f K s pg ps title = some r ∧ r.1.length ≤ 20000000 := by
  rcases text_cases s K hK with ⟨a, e, h, he⟩ | ⟨h, m, hv, hd, hT⟩
  · exact ⟨_, expand_bad s K pg ps title hp hq (by omega) a e h he, by simp⟩
  · have hm := (enc_len m).1
    rw [← hd, size_eq] at hm
    exact ⟨_, expand_ok s K hK pg ps title hp hq (by omega) h m hv hd hT, says_len pg ps title hp hq ht m hv (by omega)⟩
theorem check_some (s : ByteArray) (K : Nat) (hK : 100000 ≤ K) : ∃ r, furnish_Check.f K s = some r := by
  rcases text_cases s K hK with ⟨a, e, h, he⟩ | ⟨h, m, hv, hd, hT⟩
  · exact ⟨_, h⟩
  · exact ⟨_, (check_all s K hK h m hv hd).trans (if_pos hT)⟩
theorem pureK (K : Nat) (hK : 100000000 ≤ K) (s : ByteArray) (pg ps : Int) (title : List Int) (hp : -9223372036854775808 ≤ pg ∧ pg ≤ 9223372036854775807) (hq : -9223372036854775808 ≤ ps ∧ ps ≤ 9223372036854775807) :
    colophonlaw28_FurnishSays.f K s pg ps title = some true := by
  unfold colophonlaw28_FurnishSays.f
  by_cases h : (s.size : Int) > 8000
  · rw [if_pos h, wakes_k K (by omega)]
    rfl
  · have hI : colophonkeep_Ints.f title 2000 = some (title.take 2000) := ints_f title 2000 (by omega)
    have hl : (title.take 2000).length ≤ 2000 := by rw [List.length_take]; omega
    rw [if_neg h, hI, rcheck_f s K (by omega)]
    generalize title.take 2000 = tl at hl
    obtain ⟨c, hc⟩ := check_some s K (by omega)
    obtain ⟨r, hr, hrl⟩ := says_small s K (by omega) pg ps tl hp hq hl
    have hr2 := rexp_f s K (by omega) pg ps tl hp hq hl
    rw [hr] at hr2
    have s1 := same_f r.1 (by omega) K (by omega)
    have s2 := same_f tl (by omega) K (by omega)
    simp only [hc, hr, hr2, s1, s2, Option.bind_some, wakes_k K (by omega), if_true]
theorem pure (s : ByteArray) (pg ps : Int) (title : List Int) (hp : (Lit.int .i64 pg).wf = true) (hq : (Lit.int .i64 ps).wf = true) : ∃ k, colophonlaw28_FurnishSays.f k s pg ps title = some true := ⟨_, pureK 100000000 (Nat.le_refl _) s pg ps title (w64 hp) (w64 hq)⟩

end Go.Proofs.YtmcdcpejkldepaaDoor.PureFurnishSays
