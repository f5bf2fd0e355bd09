/- The plain law of UtfEncodes: UTF-8 is written as the reference says, for all lists. -/
import Derived.Lib.RuneBytes
import Derived.Test.YtgehocejaipacaaDoorPUtfEncodesx3
namespace Go.Proofs.YtgehocejaipacaaDoor.PureUtfEncodes
open Go.RowKit Go.Proofs.YtgehocejaipacaaDoor.PUtfEncodes Go.Proofs.YtgehocejaipacaaDoorW.PrintWords Go.Proofs.YtgehocejaipacaaDoorW.PrintLast Go.Proofs.YtgehocejaipacaaDoorW.PrintMore
theorem w_in {e : Int} (h : -9223372036854775808 ≤ e ∧ e ≤ 9223372036854775807) : wrap64 e = e := by unfold wrap64; omega
theorem wakes_f : colophonlaw04_wakes.f 5 = some true := by decide +kernel

theorem wakes_k (k : Nat) (hk : 5 ≤ k) : colophonlaw04_wakes.f k = some true := at_rounds (g := fun k => colophonlaw04_wakes.f k) colophonlaw04_wakes.mono hk wakes_f
theorem ints_f (l : List Int) : colophonkeep_Ints.f l 4096 = some (l.take 4096) := by
  unfold colophonkeep_Ints.f
  by_cases h : (l.length : Int) > 4096
  · rw [if_pos h, if_pos (by omega), if_pos (by omega)]
    simp only [Option.bind_some, List.nil_append, List.length_nil]
    rw [if_pos (by rw [List.length_take]; omega)]
    rfl
  · rw [if_neg h]
    simp only [Option.bind_some, List.nil_append, List.length_nil]
    rw [if_pos (by omega), List.take_of_length_le (by omega)]

theorem is_f (c : Int) : colophonref04_Is.f c = utf_point.f c := by
  unfold colophonref04_Is.f utf_point.f
  simp only [ge_iff_le]
  by_cases h1 : 0 ≤ c
  · by_cases h2 : c ≤ 1114111
    · by_cases h3 : c < 55296
      · simp [h1, h2, h3]
      · by_cases h4 : 57343 < c <;> simp [h1, h2, h3, h4]
    · have h3 : ¬ c < 55296 := by omega
      have h4 : 57343 < c := by omega
      simp [h1, h2, h3, h4]
  · have h3 : ¬ 57343 < c := by omega
    simp [h1, h3]
theorem point_val (c : Int) : utf_point.f c = some (decide ((0 ≤ c ∧ c < 55296) ∨ (57343 < c ∧ c ≤ 1114111))) := by
  unfold utf_point.f
  by_cases h1 : 0 ≤ c <;> by_cases h2 : c < 55296 <;> by_cases h3 : 57343 < c <;> simp [h1, h2, h3] <;> omega

def ints (l : List UInt8) : List Int := l.map fun b => (b.toNat : Int)
theorem bytes_ints (l : List UInt8) : bytesOf (⟨l.toArray⟩ : ByteArray) = ints l := rfl
theorem ints_append (a b : List UInt8) : ints (a ++ b) = ints a ++ ints b := List.map_append ..
theorem str_ints (l : List UInt8) : strOfNums (ints l) = ⟨l.toArray⟩ := by
  unfold strOfNums ints
  rw [List.map_map]
  congr 2
  refine (List.map_congr_left (g := id) (fun x _ => ?_)).trans (List.map_id l)
  show UInt8.ofNat (((x.toNat : Int)).toNat) = x
  rw [Int.toNat_natCast]
  exact UInt8.ofNat_toNat
theorem str_rune (c : Int) : strOfNums (Lib.encodeRuneZ c) = ⟨(Lib.encodeRune c).toArray⟩ := rfl
theorem rune_len (c : Int) : (Lib.encodeRune c).length ≤ 4 := by
  unfold Lib.encodeRune Lib.encodeRuneZ
  rw [List.length_map]
  repeat' split
  all_goals simp
abbrev valid (c : Int) : Prop := (0 ≤ c ∧ c < 55296) ∨ (57343 < c ∧ c ≤ 1114111)
theorem w32_in {c : Int} (h : 0 ≤ c ∧ c ≤ 1114111) : wrap32 c = c := by unfold wrap32; omega
theorem one_f (c : Int) (h : valid c) : colophonref04_one.f c = some ⟨(Lib.encodeRune c).toArray⟩ := by
  unfold valid at h
  have h0 : 0 ≤ c := by omega
  have d64 : wrap64 (Int.tdiv c 64) = c / 64 := by rw [Int.tdiv_eq_ediv_of_nonneg h0]; exact w_in (by omega)
  have d4096 : wrap64 (Int.tdiv c 4096) = c / 4096 := by rw [Int.tdiv_eq_ediv_of_nonneg h0]; exact w_in (by omega)
  have d262144 : wrap64 (Int.tdiv c 262144) = c / 262144 := by rw [Int.tdiv_eq_ediv_of_nonneg h0]; exact w_in (by omega)
  have m64 : Int.tmod c 64 = c % 64 := Int.tmod_eq_emod_of_nonneg h0
  have m1 : Int.tmod (c / 64) 64 = c / 64 % 64 := Int.tmod_eq_emod_of_nonneg (by omega)
  have m2 : Int.tmod (c / 4096) 64 = c / 4096 % 64 := Int.tmod_eq_emod_of_nonneg (by omega)
  unfold colophonref04_one.f
  rw [d64, d4096, d262144, m64, m1, m2]
  have b1 : wrap64 (128 + c % 64) % 256 = 128 + c % 64 := by rw [w_in (by omega)]; omega
  have b2 : wrap64 (128 + c / 64 % 64) % 256 = 128 + c / 64 % 64 := by rw [w_in (by omega)]; omega
  have b3 : wrap64 (128 + c / 4096 % 64) % 256 = 128 + c / 4096 % 64 := by rw [w_in (by omega)]; omega
  by_cases c1 : c < 128
  · have e : c % 256 = c := by omega
    rw [if_pos c1, e, ← str_rune, Lib.encodeRuneZ_one h0 (by omega)]
  · by_cases c2 : c < 2048
    · have e : wrap64 (192 + c / 64) % 256 = 192 + c / 64 := by rw [w_in (by omega)]; omega
      rw [if_neg c1, if_pos c2, e, b1, ← str_rune, Lib.encodeRuneZ_two (by omega) (by omega)]
    · by_cases c3 : c < 65536
      · have e : wrap64 (224 + c / 4096) % 256 = 224 + c / 4096 := by rw [w_in (by omega)]; omega
        rw [if_neg c1, if_neg c2, if_pos c3, e, b1, b2, ← str_rune, Lib.encodeRuneZ_three (by omega)]
      · have e : wrap64 (240 + c / 262144) % 256 = 240 + c / 262144 := by rw [w_in (by omega)]; omega
        rw [if_neg c1, if_neg c2, if_neg c3, e, b1, b2, b3, ← str_rune, Lib.encodeRuneZ_four (by omega) (by omega)]
theorem enc_step (l : List Int) (k n : Nat) (x : List UInt8) (hn : n < l.length) (hnl : l.length ≤ 100000) (hx : x.length ≤ 1000000) (h : valid (rd l (n : Int))) :
    utf_Encode.l0 (k + 1) l x (n : Int) = utf_Encode.l0 k l (x ++ Lib.encodeRune (rd l (n : Int))) ((n + 1 : Nat) : Int) := by
  have hn1 : wrap64 ((n : Int) + 1) = ((n + 1 : Nat) : Int) := by rw [w_in (by omega)]; omega
  have hp := point_val (rd l (n : Int))
  rw [decide_eq_true h] at hp
  rw [utf_Encode.l0, if_pos (by omega), if_pos (by omega), hp, Option.bind_some, if_pos rfl, if_pos (by omega), hn1, w32_in (by unfold valid at h; omega)]
theorem enc_bad (l : List Int) (k n : Nat) (x : List UInt8) (hn : n < l.length) (h : ¬ valid (rd l (n : Int))) : utf_Encode.l0 (k + 1) l x (n : Int) = some ((⟨#[]⟩ : ByteArray), 40) := by
  have hp := point_val (rd l (n : Int))
  rw [decide_eq_false h] at hp
  rw [utf_Encode.l0, if_pos (by omega), if_pos (by omega), hp, Option.bind_some, if_neg (by decide)]

theorem same_l0 (m : List Int) (hm : m.length ≤ 70004) : ∀ (d k : Nat) (i : Int), 0 ≤ i → (m.length : Int) - i = d → d + 1 ≤ k → colophonkeep_Same.l0 k m m i = some true := by
  intro d
  induction d with
  | zero =>
    intro k i h0 hd hk
    obtain ⟨k, rfl⟩ : ∃ q, k = q + 1 := ⟨k - 1, by omega⟩
    rw [colophonkeep_Same.l0, if_neg (by omega)]
  | succ d ih =>
    intro k i h0 hd hk
    obtain ⟨k, rfl⟩ : ∃ q, k = q + 1 := ⟨k - 1, by omega⟩
    have hi : wrap64 (i + 1) = i + 1 := w_in (by omega)
    rw [colophonkeep_Same.l0, if_pos (by omega), if_pos h0, if_pos (by omega), if_pos rfl, hi]
    exact ih k (i + 1) (by omega) (by omega) (by omega)

theorem enc_l0 (l : List Int) (hl : l.length ≤ 4096) : ∀ (d k n : Nat) (x : List UInt8), n + d = l.length → x.length ≤ 4 * n → d + 1 ≤ k →
    ∃ r, utf_Encode.l0 k l x (n : Int) = some r ∧ colophonref04_Encode.l0 k l (ints x) (n : Int) = some r := by
  intro d
  induction d with
  | zero =>
    intro k n x hd hx hk
    obtain ⟨k, rfl⟩ : ∃ m, k = m + 1 := ⟨k - 1, by omega⟩
    refine ⟨((⟨x.toArray⟩ : ByteArray), 0), ?_, ?_⟩
    · rw [utf_Encode.l0, if_neg (by omega)]
    · rw [colophonref04_Encode.l0, if_neg (by omega), str_ints]
  | succ d ih =>
    intro k n x hd hx hk
    obtain ⟨k, rfl⟩ : ∃ m, k = m + 1 := ⟨k - 1, by omega⟩
    have hn1 : wrap64 ((n : Int) + 1) = ((n + 1 : Nat) : Int) := by rw [w_in (by omega)]; omega
    have hp := point_val (rd l (n : Int))
    have hil : (ints x).length = x.length := List.length_map ..
    by_cases v : valid (rd l (n : Int))
    · rw [decide_eq_true v] at hp
      have hlen := rune_len (rd l (n : Int))
      have hsz : (⟨(Lib.encodeRune (rd l (n : Int))).toArray⟩ : ByteArray).size = (Lib.encodeRune (rd l (n : Int))).length := rfl
      have hr : colophonref04_Encode.l0 (k + 1) l (ints x) (n : Int) = colophonref04_Encode.l0 k l (ints (x ++ Lib.encodeRune (rd l (n : Int)))) ((n + 1 : Nat) : Int) := by
        rw [colophonref04_Encode.l0, if_pos (by omega), if_pos (by omega), is_f, hp, Option.bind_some, if_pos rfl, one_f _ v, Option.bind_some, if_pos (by rw [hsz, hil]; omega), hn1, bytes_ints, ints_append]
      rw [enc_step l k n x (by omega) (by omega) (by omega) v, hr]
      exact ih k (n + 1) _ (by omega) (by rw [List.length_append]; omega) (by omega)
    · rw [decide_eq_false v] at hp
      refine ⟨((⟨#[]⟩ : ByteArray), 40), enc_bad l k n x (by omega) v, ?_⟩
      rw [colophonref04_Encode.l0, if_pos (by omega), if_pos (by omega), is_f, hp, Option.bind_some, if_neg (by decide)]
theorem pureK (K : Nat) (hK : 300000 ≤ K) (l : List Int) : colophonlaw04_UtfEncodes.f K l = some true := by
  have hm : (l.take 4096).length ≤ 4096 := by rw [List.length_take]; omega
  unfold colophonlaw04_UtfEncodes.f
  simp only [ints_f, Option.bind_some]
  generalize l.take 4096 = m at hm
  obtain ⟨r, r1, r2⟩ := enc_l0 m hm m.length K 0 [] (by omega) (by simp) (by omega)
  have w1 : utf_Encode.f K m = some r := r1
  have w2 : colophonref04_Encode.f K m = some r := r2
  have w3 : colophonkeep_Same.f K m m = some true := by
    unfold colophonkeep_Same.f
    rw [if_pos rfl]
    exact same_l0 m (by omega) m.length K 0 (by omega) (by omega) (by omega)
  simp only [w1, w2, w3, Option.bind_some, if_true, wakes_k K (by omega)]
theorem pure (l : List Int) : ∃ k, colophonlaw04_UtfEncodes.f k l = some true := ⟨300000, pureK 300000 (Nat.le_refl _) l⟩

end Go.Proofs.YtgehocejaipacaaDoor.PureUtfEncodes
