/- law21, the plain law: UTF-8 as the reference writes it. -/
import Derived.Lib.RuneBytes
import Derived.Test.YtenhfmlkdcfbbaaDoorLd
namespace Go.Proofs.YtenhfmlkdcfbbaaDoor.LawR
open Go.RowKit Go.Proofs.YtenhfmlkdcfbbaaDoor.PHyphenPoints Go.Proofs.YtenhfmlkdcfbbaaDoorW.PrintWords Go.Proofs.YtenhfmlkdcfbbaaDoorW.PrintLast Go.Proofs.YtenhfmlkdcfbbaaDoorW.PrintMore
set_option linter.unusedVariables false
theorem w_in {e : Int} (h : -9223372036854775808 ≤ e ∧ e ≤ 9223372036854775807) : wrap64 e = e := by unfold wrap64; omega
theorem is_f (c : Int) : colophonref04_Is.f c = utf_point.f c := by
  unfold colophonref04_Is.f utf_point.f
  simp only [ge_iff_le]
  by_cases h1 : 0 ≤ c
  · by_cases h2 : c ≤ 1114111
    · by_cases h3 : c < 55296
      · simp [h1, h2, h3]
      · by_cases h4 : 57343 < c <;> simp [h1, h2, h3, h4]
    · have h3 : ¬ c < 55296 := by omega
      have h4 : 57343 < c := by omega
      simp [h1, h2, h3, h4]
  · have h3 : ¬ 57343 < c := by omega
    simp [h1, h3]
theorem point_val (c : Int) : utf_point.f c = some (decide ((0 ≤ c ∧ c < 55296) ∨ (57343 < c ∧ c ≤ 1114111))) := by
  unfold utf_point.f
  by_cases h1 : 0 ≤ c <;> by_cases h2 : c < 55296 <;> by_cases h3 : 57343 < c <;> simp [h1, h2, h3] <;> omega
def ints (l : List UInt8) : List Int := l.map fun b => (b.toNat : Int)
theorem bytes_ints (l : List UInt8) : bytesOf (⟨l.toArray⟩ : ByteArray) = ints l := rfl
theorem ints_append (a b : List UInt8) : ints (a ++ b) = ints a ++ ints b := List.map_append ..
theorem str_ints (l : List UInt8) : strOfNums (ints l) = ⟨l.toArray⟩ := by
  unfold strOfNums ints
  rw [List.map_map]
  congr 2
  refine (List.map_congr_left (g := id) (fun x _ => ?_)).trans (List.map_id l)
  show UInt8.ofNat (((x.toNat : Int)).toNat) = x
  rw [Int.toNat_natCast]
  exact UInt8.ofNat_toNat
theorem str_rune (c : Int) : strOfNums (Lib.encodeRuneZ c) = ⟨(Lib.encodeRune c).toArray⟩ := rfl
theorem rune_len (c : Int) : (Lib.encodeRune c).length ≤ 4 := by
  unfold Lib.encodeRune Lib.encodeRuneZ
  rw [List.length_map]
  repeat' split
  all_goals simp
abbrev valid (c : Int) : Prop := (0 ≤ c ∧ c < 55296) ∨ (57343 < c ∧ c ≤ 1114111)
theorem w32_in {c : Int} (h : 0 ≤ c ∧ c ≤ 1114111) : wrap32 c = c := by unfold wrap32; omega
theorem one_f (c : Int) (h : valid c) : colophonref04_one.f c = some ⟨(Lib.encodeRune c).toArray⟩ := by
  unfold valid at h
  have h0 : 0 ≤ c := by omega
  have d64 : wrap64 (Int.tdiv c 64) = c / 64 := by rw [Int.tdiv_eq_ediv_of_nonneg h0]; exact w_in (by omega)
  have d4096 : wrap64 (Int.tdiv c 4096) = c / 4096 := by rw [Int.tdiv_eq_ediv_of_nonneg h0]; exact w_in (by omega)
  have d262144 : wrap64 (Int.tdiv c 262144) = c / 262144 := by rw [Int.tdiv_eq_ediv_of_nonneg h0]; exact w_in (by omega)
  have m64 : Int.tmod c 64 = c % 64 := Int.tmod_eq_emod_of_nonneg h0
  have m1 : Int.tmod (c / 64) 64 = c / 64 % 64 := Int.tmod_eq_emod_of_nonneg (by omega)
  have m2 : Int.tmod (c / 4096) 64 = c / 4096 % 64 := Int.tmod_eq_emod_of_nonneg (by omega)
  unfold colophonref04_one.f
  rw [d64, d4096, d262144, m64, m1, m2]
  have b1 : wrap64 (128 + c % 64) % 256 = 128 + c % 64 := by rw [w_in (by omega)]; omega
  have b2 : wrap64 (128 + c / 64 % 64) % 256 = 128 + c / 64 % 64 := by rw [w_in (by omega)]; omega
  have b3 : wrap64 (128 + c / 4096 % 64) % 256 = 128 + c / 4096 % 64 := by rw [w_in (by omega)]; omega
  by_cases c1 : c < 128
  · have e : c % 256 = c := by omega
    rw [if_pos c1, e, ← str_rune, Lib.encodeRuneZ_one h0 (by omega)]
  · by_cases c2 : c < 2048
    · have e : wrap64 (192 + c / 64) % 256 = 192 + c / 64 := by rw [w_in (by omega)]; omega
      rw [if_neg c1, if_pos c2, e, b1, ← str_rune, Lib.encodeRuneZ_two (by omega) (by omega)]
    · by_cases c3 : c < 65536
      · have e : wrap64 (224 + c / 4096) % 256 = 224 + c / 4096 := by rw [w_in (by omega)]; omega
        rw [if_neg c1, if_neg c2, if_pos c3, e, b1, b2, ← str_rune, Lib.encodeRuneZ_three (by omega)]
      · have e : wrap64 (240 + c / 262144) % 256 = 240 + c / 262144 := by rw [w_in (by omega)]; omega
        rw [if_neg c1, if_neg c2, if_neg c3, e, b1, b2, b3, ← str_rune, Lib.encodeRuneZ_four (by omega) (by omega)]
theorem enc_step (l : List Int) (k n : Nat) (x : List UInt8) (hn : n < l.length) (hnl : l.length ≤ 100000) (hx : x.length ≤ 1000000) (h : valid (rd l (n : Int))) :
    utf_Encode.l0 (k + 1) l x (n : Int) = utf_Encode.l0 k l (x ++ Lib.encodeRune (rd l (n : Int))) ((n + 1 : Nat) : Int) := by
  have hn1 : wrap64 ((n : Int) + 1) = ((n + 1 : Nat) : Int) := by rw [w_in (by omega)]; omega
  have hp := point_val (rd l (n : Int))
  rw [decide_eq_true h] at hp
  rw [utf_Encode.l0, if_pos (by omega), if_pos (by omega), hp, Option.bind_some, if_pos rfl, if_pos (by omega), hn1, w32_in (by unfold valid at h; omega)]
theorem enc_bad (l : List Int) (k n : Nat) (x : List UInt8) (hn : n < l.length) (h : ¬ valid (rd l (n : Int))) : utf_Encode.l0 (k + 1) l x (n : Int) = some ((⟨#[]⟩ : ByteArray), 40) := by
  have hp := point_val (rd l (n : Int))
  rw [decide_eq_false h] at hp
  rw [utf_Encode.l0, if_pos (by omega), if_pos (by omega), hp, Option.bind_some, if_neg (by decide)]
theorem enc_l0 (l : List Int) (hl : l.length ≤ 70000) : ∀ (d k n : Nat) (x : List UInt8), n + d = l.length → x.length ≤ 4 * n → d + 1 ≤ k →
    ∃ r, utf_Encode.l0 k l x (n : Int) = some r ∧ colophonref04_Encode.l0 k l (ints x) (n : Int) = some r := by
  intro d
  induction d with
  | zero =>
    intro k n x hd hx hk
    obtain ⟨k, rfl⟩ : ∃ m, k = m + 1 := ⟨k - 1, by omega⟩
    refine ⟨((⟨x.toArray⟩ : ByteArray), 0), ?_, ?_⟩
    · rw [utf_Encode.l0, if_neg (by omega)]
    · rw [colophonref04_Encode.l0, if_neg (by omega), str_ints]
  | succ d ih =>
    intro k n x hd hx hk
    obtain ⟨k, rfl⟩ : ∃ m, k = m + 1 := ⟨k - 1, by omega⟩
    have hn1 : wrap64 ((n : Int) + 1) = ((n + 1 : Nat) : Int) := by rw [w_in (by omega)]; omega
    have hp := point_val (rd l (n : Int))
    have hil : (ints x).length = x.length := List.length_map ..
    by_cases v : valid (rd l (n : Int))
    · rw [decide_eq_true v] at hp
      have hlen := rune_len (rd l (n : Int))
      have hsz : (⟨(Lib.encodeRune (rd l (n : Int))).toArray⟩ : ByteArray).size = (Lib.encodeRune (rd l (n : Int))).length := rfl
      have hr : colophonref04_Encode.l0 (k + 1) l (ints x) (n : Int) = colophonref04_Encode.l0 k l (ints (x ++ Lib.encodeRune (rd l (n : Int)))) ((n + 1 : Nat) : Int) := by
        rw [colophonref04_Encode.l0, if_pos (by omega), if_pos (by omega), is_f, hp, Option.bind_some, if_pos rfl, one_f _ v, Option.bind_some, if_pos (by rw [hsz, hil]; omega), hn1, bytes_ints, ints_append]
      rw [enc_step l k n x (by omega) (by omega) (by omega) v, hr]
      exact ih k (n + 1) _ (by omega) (by rw [List.length_append]; omega) (by omega)
    · rw [decide_eq_false v] at hp
      refine ⟨((⟨#[]⟩ : ByteArray), 40), enc_bad l k n x (by omega) v, ?_⟩
      rw [colophonref04_Encode.l0, if_pos (by omega), if_pos (by omega), is_f, hp, Option.bind_some, if_neg (by decide)]
end Go.Proofs.YtenhfmlkdcfbbaaDoor.LawR
