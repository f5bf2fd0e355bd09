/- law21, the plain law: UTF-8 read and written, as plain lists. -/
import Derived.Lib.MapLaws
import Derived.Lib.RuneBytes
import Derived.Test.YtenhfmlkdcfbbaaDoorPHyphenPointsx3
import Derived.Test.YtenhfmlkdcfbbaaDoorPHyphenPointsx9
namespace Go.Proofs.YtenhfmlkdcfbbaaDoor.LawE
open Go.RowKit Go.Proofs.YtenhfmlkdcfbbaaDoor.PHyphenPoints Go.Proofs.YtenhfmlkdcfbbaaDoorW.PrintWords Go.Proofs.YtenhfmlkdcfbbaaDoorW.PrintLast Go.Proofs.YtenhfmlkdcfbbaaDoorW.PrintMore
set_option linter.unusedVariables false
theorem w_in {e : Int} (h : -9223372036854775808 ≤ e ∧ e ≤ 9223372036854775807) : wrap64 e = e := by unfold wrap64; omega
set_option linter.unusedVariables false
abbrev valid (c : Int) : Prop := (0 ≤ c ∧ c < 55296) ∨ (57343 < c ∧ c ≤ 1114111)
instance (m : List Int) : Decidable (∀ c ∈ m, valid c) := inferInstance
def enc (m : List Int) : List UInt8 := m.flatMap Lib.encodeRune
theorem enc_cons (c : Int) (m : List Int) : enc (c :: m) = Lib.encodeRune c ++ enc m := rfl
theorem u8 (x : Int) (h : 0 ≤ x ∧ x < 256) : (x.toNat.toUInt8).toNat = x.toNat := by
  show x.toNat % 256 = x.toNat
  omega
theorem rune_len (c : Int) : 1 ≤ (Lib.encodeRune c).length ∧ (Lib.encodeRune c).length ≤ 4 := by
  unfold Lib.encodeRune Lib.encodeRuneZ
  rw [List.length_map]
  repeat' split
  all_goals simp
theorem enc_len : ∀ m : List Int, m.length ≤ (enc m).length ∧ (enc m).length ≤ 4 * m.length
  | [] => by simp [enc]
  | c :: m => by
    have h := enc_len m
    have h1 := rune_len c
    rw [enc_cons, List.length_append, List.length_cons]
    omega
set_option maxHeartbeats 4000000 in
theorem dec1 (n c b1 b2 b3 : Nat) (h : c < 128) : Lib.decodeN n c b1 b2 b3 = (c, 1) := by
  unfold Lib.decodeN
  rw [if_pos h]
set_option maxHeartbeats 4000000 in
theorem dec2 (n c b0 b1 b2 b3 : Nat) (h : 128 ≤ c ∧ c < 2048) (h0 : b0 = 192 + c / 64) (h1 : b1 = 128 + c % 64) (hn : 2 ≤ n) : Lib.decodeN n b0 b1 b2 b3 = (c, 2) := by
  unfold Lib.decodeN
  repeat' split
  all_goals first | (exfalso; omega) | (apply Prod.ext <;> simp only <;> omega)
set_option maxHeartbeats 4000000 in
theorem dec3 (n c b0 b1 b2 b3 : Nat) (h : (2048 ≤ c ∧ c < 55296) ∨ (57343 < c ∧ c < 65536)) (h0 : b0 = 224 + c / 4096) (h1 : b1 = 128 + c / 64 % 64) (h2 : b2 = 128 + c % 64) (hn : 3 ≤ n) : Lib.decodeN n b0 b1 b2 b3 = (c, 3) := by
  unfold Lib.decodeN
  repeat' split
  all_goals first | (exfalso; omega) | (apply Prod.ext <;> simp only <;> omega)
set_option maxHeartbeats 4000000 in
theorem dec4 (n c b0 b1 b2 b3 : Nat) (h : 65536 ≤ c ∧ c ≤ 1114111) (h0 : b0 = 240 + c / 262144) (h1 : b1 = 128 + c / 4096 % 64) (h2 : b2 = 128 + c / 64 % 64) (h3 : b3 = 128 + c % 64) (hn : 4 ≤ n) : Lib.decodeN n b0 b1 b2 b3 = (c, 4) := by
  unfold Lib.decodeN
  repeat' split
  all_goals first | (exfalso; omega) | (apply Prod.ext <;> simp only <;> omega)
theorem dec_enc (c : Int) (h : valid c) (r : List UInt8) : Lib.decodeL (Lib.encodeRune c ++ r) = (c.toNat, (Lib.encodeRune c).length) ∧ ¬ (c.toNat = 65533 ∧ (Lib.encodeRune c).length = 1) := by
  unfold valid at h
  rw [Lib.decodeL_N]
  unfold Lib.encodeRune
  by_cases c1 : c ≤ 127
  · rw [Lib.encodeRuneZ_one (by omega) c1]
    have e0 := u8 c (by omega)
    simp only [List.map_cons, List.map_nil, List.cons_append, List.nil_append, List.getD_cons_zero, List.getD_cons_succ, List.length_cons, List.length_nil]
    rw [e0, dec1 _ _ _ _ _ (by omega)]
    exact ⟨rfl, by omega⟩
  · by_cases c2 : c ≤ 2047
    · rw [Lib.encodeRuneZ_two (by omega) c2]
      have e0 := u8 (192 + c / 64) (by omega)
      have e1 := u8 (128 + c % 64) (by omega)
      simp only [List.map_cons, List.map_nil, List.cons_append, List.nil_append, List.getD_cons_zero, List.getD_cons_succ, List.length_cons, List.length_nil]
      rw [e0, e1, dec2 _ c.toNat _ _ _ _ (by omega) (by omega) (by omega) (by omega)]
      exact ⟨rfl, by omega⟩
    · by_cases c3 : c ≤ 65535
      · rw [Lib.encodeRuneZ_three (by omega)]
        have e0 := u8 (224 + c / 4096) (by omega)
        have e1 := u8 (128 + c / 64 % 64) (by omega)
        have e2 := u8 (128 + c % 64) (by omega)
        simp only [List.map_cons, List.map_nil, List.cons_append, List.nil_append, List.getD_cons_zero, List.getD_cons_succ, List.length_cons, List.length_nil]
        rw [e0, e1, e2, dec3 _ c.toNat _ _ _ _ (by omega) (by omega) (by omega) (by omega) (by omega)]
        exact ⟨rfl, by omega⟩
      · rw [Lib.encodeRuneZ_four (by omega) (by omega)]
        have e0 := u8 (240 + c / 262144) (by omega)
        have e1 := u8 (128 + c / 4096 % 64) (by omega)
        have e2 := u8 (128 + c / 64 % 64) (by omega)
        have e3 := u8 (128 + c % 64) (by omega)
        simp only [List.map_cons, List.map_nil, List.cons_append, List.nil_append, List.getD_cons_zero, List.getD_cons_succ, List.length_cons, List.length_nil]
        rw [e0, e1, e2, e3, dec4 _ c.toNat _ _ _ _ (by omega) (by omega) (by omega) (by omega) (by omega) (by omega)]
        exact ⟨rfl, by omega⟩
theorem dec_valid (l : List UInt8) (hv : ¬ ((Lib.decodeL l).1 = 65533 ∧ (Lib.decodeL l).2 = 1)) : valid ((Lib.decodeL l).1 : Int) := by
  have k0 := (l.getD 0 0).toNat_lt
  have k1 := (l.getD 1 0).toNat_lt
  have k2 := (l.getD 2 0).toNat_lt
  have k3 := (l.getD 3 0).toNat_lt
  unfold valid
  rw [Lib.decodeL_N] at hv ⊢
  rcases Lib.decodeN_shape l.length (l.getD 0 0).toNat (l.getD 1 0).toNat (l.getD 2 0).toNat (l.getD 3 0).toNat with ⟨c, e⟩ | ⟨c1, c2, c3, cv, e⟩ | ⟨c1, c2, c3, c4, cv, cs, e⟩ | ⟨c1, c2, c3, c4, c5, cv, cw, e⟩ | e
  all_goals (rw [e] at hv ⊢; dsimp only at hv ⊢; omega)
theorem split_enc : ∀ (n : Nat) (l : List UInt8), l.length ≤ n → ∃ m rest, l = enc m ++ rest ∧ (∀ c ∈ m, valid c) ∧ (rest = [] ∨ (rest ≠ [] ∧ (Lib.decodeL rest).1 = 65533 ∧ (Lib.decodeL rest).2 = 1)) := by
  intro n
  induction n with
  | zero =>
    intro l hl
    exact ⟨[], [], List.eq_nil_of_length_eq_zero (by omega), by simp, .inl rfl⟩
  | succ n ih =>
    intro l hl
    by_cases he : l = []
    · exact ⟨[], [], he, by simp, .inl rfl⟩
    · by_cases hv : (Lib.decodeL l).1 = 65533 ∧ (Lib.decodeL l).2 = 1
      · exact ⟨[], l, rfl, by simp, .inr ⟨he, hv⟩⟩
      · have e := Lib.encode_decode l he hv
        have h1 := (rune_len ((Lib.decodeL l).1 : Int)).1
        have h2 : (Lib.encodeRune ((Lib.decodeL l).1 : Int)).length ≤ (Lib.decodeL l).2 := by rw [e, List.length_take]; omega
        obtain ⟨m, rest, a, b, c⟩ := ih (l.drop (Lib.decodeL l).2) (by rw [List.length_drop]; omega)
        refine ⟨((Lib.decodeL l).1 : Int) :: m, rest, ?_, ?_, c⟩
        · rw [enc_cons, e, List.append_assoc, ← a, List.take_append_drop]
        · intro x hx
          rcases List.mem_cons.1 hx with rfl | hx
          · exact dec_valid l hv
          · exact b x hx
theorem ext_data (s : ByteArray) (n : Nat) : (s.extract n s.size).data.toList = s.data.toList.drop n := by
  have hs : s.size = s.data.toList.length := by rw [Array.length_toList]; rfl
  rw [ByteArray.data_extract, Array.toList_extract]
  unfold List.extract
  exact List.take_of_length_le (by rw [List.length_drop]; omega)
theorem decode_f (s : ByteArray) (n : Nat) (h : n < s.size) : utf8_DecodeRuneInString.f (s.extract n s.size) = some (((Lib.decodeL (s.data.toList.drop n)).1 : Int), ((Lib.decodeL (s.data.toList.drop n)).2 : Int)) := by
  have hz : (s.extract n s.size).size = s.size - n := by simp [ByteArray.size_extract]
  have e : Lib.decodeGo (s.extract n s.size) = Lib.decodeL (s.data.toList.drop n) := by
    unfold Lib.decodeGo
    rw [if_neg (by omega), ← ext_data, ← Lib.decodeL_drop, List.drop_zero]
  unfold utf8_DecodeRuneInString.f
  rw [e]
theorem dec_step (s : ByteArray) (k n : Nat) (x : List Int) (hs : s.size ≤ 70000) (hn : n < s.size) (hx : x.length ≤ n) (hg : ¬ ((Lib.decodeL (s.data.toList.drop n)).1 = 65533 ∧ (Lib.decodeL (s.data.toList.drop n)).2 = 1)) :
    utf_Decode.l0 (k + 1) s x n = utf_Decode.l0 k s (x ++ [((Lib.decodeL (s.data.toList.drop n)).1 : Int)]) ((n + (Lib.decodeL (s.data.toList.drop n)).2 : Nat) : Int) := by
  have hd := decode_f s n hn
  have hr := Lib.decodeL_rune (s.data.toList.drop n)
  have hl : s.data.toList.length = s.size := by rw [Array.length_toList]; rfl
  have hw : (Lib.decodeL (s.data.toList.drop n)).2 ≤ s.size - n := by
    have h := Lib.decodeL_le (s.data.toList.drop n) (by intro h; have := congrArg List.length h; rw [List.length_drop, hl] at this; simp at this; omega)
    rw [List.length_drop, hl] at h
    exact h
  generalize Lib.decodeL (s.data.toList.drop n) = d at *
  have e1 : wrap64 ((d.1 : Int)) = d.1 := w_in (by omega)
  have e2 : wrap64 ((n : Int) + (d.2 : Int)) = ((n + d.2 : Nat) : Int) := by rw [w_in (by omega)]; omega
  rw [utf_Decode.l0, if_pos (by omega), if_pos (by omega), if_pos (by omega), Int.toNat_natCast, hd, Option.bind_some]
  show (if (d.1 : Int) = 65533 then (if (d.2 : Int) = 1 then some (([] : List Int), (n : Int), (40 : Int)) else (if x.length < 17592186044416 then utf_Decode.l0 k s (x ++ [wrap64 (d.1 : Int)]) (wrap64 ((n : Int) + (d.2 : Int))) else none)) else (if x.length < 17592186044416 then utf_Decode.l0 k s (x ++ [wrap64 (d.1 : Int)]) (wrap64 ((n : Int) + (d.2 : Int))) else none)) = _
  have hx' : x.length < 17592186044416 := by omega
  rw [e1, e2, if_pos hx']
  by_cases a : (d.1 : Int) = 65533
  · rw [if_pos a, if_neg (by omega)]
  · rw [if_neg a]
theorem dec_bad (s : ByteArray) (k n : Nat) (x : List Int) (hn : n < s.size) (hg : (Lib.decodeL (s.data.toList.drop n)).1 = 65533 ∧ (Lib.decodeL (s.data.toList.drop n)).2 = 1) :
    utf_Decode.l0 (k + 1) s x n = some ([], (n : Int), 40) := by
  have hd := decode_f s n hn
  rw [hg.1, hg.2] at hd
  rw [utf_Decode.l0, if_pos (by omega), if_pos (by omega), if_pos (by omega), Int.toNat_natCast, hd, Option.bind_some]
  rfl
theorem dec_run (s : ByteArray) (hs : s.size ≤ 70000) : ∀ (m : List Int) (k n : Nat) (x : List Int) (rest : List UInt8), (∀ c ∈ m, valid c) → s.data.toList.drop n = enc m ++ rest → n ≤ s.size → x.length ≤ n →
    utf_Decode.l0 (k + m.length) s x n = utf_Decode.l0 k s (x ++ m) ((n + (enc m).length : Nat) : Int) := by
  intro m
  induction m with
  | nil => intro k n x rest _ _ _ _; simp [enc]
  | cons c m ih =>
    intro k n x rest hv hd hn hx
    have hl : s.data.toList.length = s.size := by rw [Array.length_toList]; rfl
    have hlen := congrArg List.length hd
    rw [List.length_drop, hl, enc_cons, List.length_append, List.length_append] at hlen
    have h1 := rune_len c
    have vc := hv c (List.mem_cons_self ..)
    rw [enc_cons, List.append_assoc] at hd
    obtain ⟨d1, d2⟩ := dec_enc c vc (enc m ++ rest)
    rw [← hd] at d1
    have hc : ((c.toNat : Nat) : Int) = c := by unfold valid at vc; omega
    have st := dec_step s (k + m.length) n x hs (by omega) hx (by rw [d1]; exact d2)
    rw [d1] at st
    have st' : utf_Decode.l0 (k + (c :: m).length) s x n = utf_Decode.l0 (k + m.length) s (x ++ [c]) ((n + (Lib.encodeRune c).length : Nat) : Int) := by
      rw [show k + (c :: m).length = k + m.length + 1 from rfl, st]
      show utf_Decode.l0 (k + m.length) s (x ++ [((c.toNat : Nat) : Int)]) _ = _
      rw [hc]
    have hd2 : s.data.toList.drop (n + (Lib.encodeRune c).length) = enc m ++ rest := by
      rw [← List.drop_drop, hd, List.drop_left]
    rw [st', ih k _ (x ++ [c]) rest (fun y hy => hv y (List.mem_cons_of_mem _ hy)) hd2 (by omega) (by rw [List.length_append, List.length_singleton]; omega), List.append_assoc, enc_cons, List.length_append, Nat.add_assoc]
    rfl
theorem decode_all (s : ByteArray) (hs : s.size ≤ 70000) (K : Nat) (hK : 100000 ≤ K) (m : List Int) (hv : ∀ c ∈ m, valid c) (h : s.data.toList = enc m) : utf_Decode.f K s = some (m, 0, 0) := by
  have hl : s.data.toList.length = s.size := by rw [Array.length_toList]; rfl
  have hm := enc_len m
  have hz := congrArg List.length h
  have r := dec_run s hs m (K - m.length) 0 [] [] hv (by rw [List.drop_zero, List.append_nil, h]) (by omega) (by simp)
  unfold utf_Decode.f
  rw [show K - m.length + m.length = K by omega, Nat.zero_add, List.nil_append] at r
  show utf_Decode.l0 K s [] ((0 : Nat) : Int) = _
  rw [r]
  obtain ⟨q, hq⟩ : ∃ q, K - m.length = q + 1 := ⟨K - m.length - 1, by omega⟩
  rw [hq, utf_Decode.l0, if_neg (by omega)]
theorem decode_part (s : ByteArray) (hs : s.size ≤ 70000) (K : Nat) (hK : 100000 ≤ K) (m : List Int) (rest : List UInt8) (hv : ∀ c ∈ m, valid c) (h : s.data.toList = enc m ++ rest) (hr : rest ≠ [] ∧ (Lib.decodeL rest).1 = 65533 ∧ (Lib.decodeL rest).2 = 1) :
    utf_Decode.f K s = some ([], ((enc m).length : Int), 40) := by
  have hl : s.data.toList.length = s.size := by rw [Array.length_toList]; rfl
  have hm := enc_len m
  have hz := congrArg List.length h
  have hrl : 0 < rest.length := List.length_pos_iff.2 hr.1
  rw [List.length_append] at hz
  have r := dec_run s hs m (K - m.length) 0 [] rest hv (by rw [List.drop_zero, h]) (by omega) (by simp)
  unfold utf_Decode.f
  rw [show K - m.length + m.length = K by omega, Nat.zero_add, List.nil_append] at r
  show utf_Decode.l0 K s [] ((0 : Nat) : Int) = _
  rw [r]
  obtain ⟨q, hq⟩ : ∃ q, K - m.length = q + 1 := ⟨K - m.length - 1, by omega⟩
  have hd : s.data.toList.drop (enc m).length = rest := by rw [h, List.drop_left]
  rw [hq, dec_bad s q _ _ (by omega) (by rw [hd]; exact hr.2)]
theorem point_val (c : Int) : utf_point.f c = some (decide ((0 ≤ c ∧ c < 55296) ∨ (57343 < c ∧ c ≤ 1114111))) := by
  unfold utf_point.f
  by_cases h1 : 0 ≤ c <;> by_cases h2 : c < 55296 <;> by_cases h3 : 57343 < c <;> simp [h1, h2, h3] <;> omega
theorem w32_in {c : Int} (h : 0 ≤ c ∧ c ≤ 1114111) : wrap32 c = c := by unfold wrap32; omega
theorem drop_rd (l : List Int) (n : Nat) (h : n < l.length) : l.drop n = rd l (n : Int) :: l.drop (n + 1) := by
  rw [List.drop_eq_getElem_cons h]
  unfold rd
  rw [Int.toNat_natCast, List.getD_eq_getElem?_getD, List.getElem?_eq_getElem h]
  rfl
theorem enc_l0 (l : List Int) (hl : l.length ≤ 70000) : ∀ (d k n : Nat) (x : List UInt8), n + d = l.length → x.length ≤ 4 * n → d + 1 ≤ k →
    utf_Encode.l0 k l x (n : Int) = if (∀ c ∈ l.drop n, valid c) then some ((⟨(x ++ enc (l.drop n)).toArray⟩ : ByteArray), 0) else some ((⟨#[]⟩ : ByteArray), 40) := by
  intro d
  induction d with
  | zero =>
    intro k n x hd hx hk
    obtain ⟨k, rfl⟩ : ∃ m, k = m + 1 := ⟨k - 1, by omega⟩
    have e : l.drop n = [] := List.drop_eq_nil_of_le (by omega)
    rw [utf_Encode.l0, if_neg (by omega), e, if_pos (by simp)]
    simp [enc]
  | succ d ih =>
    intro k n x hd hx hk
    obtain ⟨k, rfl⟩ : ∃ m, k = m + 1 := ⟨k - 1, by omega⟩
    have hn1 : wrap64 ((n : Int) + 1) = ((n + 1 : Nat) : Int) := by rw [w_in (by omega)]; omega
    have hp := point_val (rd l (n : Int))
    have hx' : x.length < 140737488355320 := by omega
    rw [drop_rd l n (by omega)]
    by_cases v : valid (rd l (n : Int))
    · rw [decide_eq_true v] at hp
      have hlen := rune_len (rd l (n : Int))
      have hw : wrap32 (rd l (n : Int)) = rd l (n : Int) := w32_in (by unfold valid at v; omega)
      rw [utf_Encode.l0, if_pos (by omega), if_pos (by omega), hp, Option.bind_some, if_pos rfl, if_pos hx', hn1, hw, ih k (n + 1) _ (by omega) (by rw [List.length_append]; omega) (by omega)]
      by_cases g : ∀ c ∈ l.drop (n + 1), valid c
      · have g' : ∀ c ∈ rd l (n : Int) :: l.drop (n + 1), valid c := by
          intro c hc
          rcases List.mem_cons.1 hc with rfl | hc
          · exact v
          · exact g c hc
        rw [if_pos g, if_pos g', enc_cons, List.append_assoc]
      · rw [if_neg g, if_neg (fun g' => g (fun c hc => g' c (List.mem_cons_of_mem _ hc)))]
    · rw [decide_eq_false v] at hp
      rw [utf_Encode.l0, if_pos (by omega), if_pos (by omega), hp, Option.bind_some, if_neg (by decide), if_neg (fun g' => v (g' _ (List.mem_cons_self ..)))]
theorem encode_f (l : List Int) (hl : l.length ≤ 70000) (K : Nat) (hK : 100000 ≤ K) :
    utf_Encode.f K l = if (∀ c ∈ l, valid c) then some ((⟨(enc l).toArray⟩ : ByteArray), 0) else some ((⟨#[]⟩ : ByteArray), 40) := by
  have h := enc_l0 l hl l.length K 0 [] (by omega) (by simp) (by omega)
  rw [List.drop_zero, List.nil_append] at h
  exact h
end Go.Proofs.YtenhfmlkdcfbbaaDoor.LawE
