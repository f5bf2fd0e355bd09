/- For FurnishSays: texts as lists of characters, and what the program says. -/
import Derived.Lib.MapLaws
import Derived.Lib.RuneBytes
import Derived.Lib.TrimAscii
import Derived.Test.YtmcdcpejkldepaaDoorPFurnishSaysx5
namespace Go.Proofs.YtmcdcpejkldepaaDoor.PureFurnishSays
open Go.RowKit Go.Proofs.YtmcdcpejkldepaaDoor.PFurnishSays Go.Proofs.YtmcdcpejkldepaaDoorW.PrintWords Go.Proofs.YtmcdcpejkldepaaDoorW.PrintLast Go.Proofs.YtmcdcpejkldepaaDoorW.PrintMore
theorem w_in {e : Int} (h : -9223372036854775808 ≤ e ∧ e ≤ 9223372036854775807) : wrap64 e = e := by unfold wrap64; omega
theorem wakes_f : colophonlaw28_wakes.f 30 = some true := by decide +kernel
theorem wakes_k (k : Nat) (hk : 30 ≤ k) : colophonlaw28_wakes.f k = some true := at_rounds (g := fun k => colophonlaw28_wakes.f k) colophonlaw28_wakes.mono hk wakes_f

set_option linter.unusedVariables false
abbrev valid (c : Int) : Prop := (0 ≤ c ∧ c < 55296) ∨ (57343 < c ∧ c ≤ 1114111)
instance (m : List Int) : Decidable (∀ c ∈ m, valid c) := inferInstance
def enc (m : List Int) : List UInt8 := m.flatMap Lib.encodeRune
theorem enc_cons (c : Int) (m : List Int) : enc (c :: m) = Lib.encodeRune c ++ enc m := rfl
theorem u8 (x : Int) (h : 0 ≤ x ∧ x < 256) : (x.toNat.toUInt8).toNat = x.toNat := by
  show x.toNat % 256 = x.toNat
  omega
theorem rune_len (c : Int) : 1 ≤ (Lib.encodeRune c).length ∧ (Lib.encodeRune c).length ≤ 4 := by
  unfold Lib.encodeRune Lib.encodeRuneZ
  rw [List.length_map]
  repeat' split
  all_goals simp
theorem enc_len : ∀ m : List Int, m.length ≤ (enc m).length ∧ (enc m).length ≤ 4 * m.length
  | [] => by simp [enc]
  | c :: m => by
    have h := enc_len m
    have h1 := rune_len c
    rw [enc_cons, List.length_append, List.length_cons]
    omega
set_option maxHeartbeats 4000000 in
theorem dec1 (n c b1 b2 b3 : Nat) (h : c < 128) : Lib.decodeN n c b1 b2 b3 = (c, 1) := by
  unfold Lib.decodeN
  rw [if_pos h]
set_option maxHeartbeats 4000000 in
theorem dec2 (n c b0 b1 b2 b3 : Nat) (h : 128 ≤ c ∧ c < 2048) (h0 : b0 = 192 + c / 64) (h1 : b1 = 128 + c % 64) (hn : 2 ≤ n) : Lib.decodeN n b0 b1 b2 b3 = (c, 2) := by
  unfold Lib.decodeN
  repeat' split
  all_goals first | (exfalso; omega) | (apply Prod.ext <;> simp only <;> omega)
set_option maxHeartbeats 4000000 in
theorem dec3 (n c b0 b1 b2 b3 : Nat) (h : (2048 ≤ c ∧ c < 55296) ∨ (57343 < c ∧ c < 65536)) (h0 : b0 = 224 + c / 4096) (h1 : b1 = 128 + c / 64 % 64) (h2 : b2 = 128 + c % 64) (hn : 3 ≤ n) : Lib.decodeN n b0 b1 b2 b3 = (c, 3) := by
  unfold Lib.decodeN
  repeat' split
  all_goals first | (exfalso; omega) | (apply Prod.ext <;> simp only <;> omega)
set_option maxHeartbeats 4000000 in
theorem dec4 (n c b0 b1 b2 b3 : Nat) (h : 65536 ≤ c ∧ c ≤ 1114111) (h0 : b0 = 240 + c / 262144) (h1 : b1 = 128 + c / 4096 % 64) (h2 : b2 = 128 + c / 64 % 64) (h3 : b3 = 128 + c % 64) (hn : 4 ≤ n) : Lib.decodeN n b0 b1 b2 b3 = (c, 4) := by
  unfold Lib.decodeN
  repeat' split
  all_goals first | (exfalso; omega) | (apply Prod.ext <;> simp only <;> omega)
theorem dec_enc (c : Int) (h : valid c) (r : List UInt8) : Lib.decodeL (Lib.encodeRune c ++ r) = (c.toNat, (Lib.encodeRune c).length) ∧ ¬ (c.toNat = 65533 ∧ (Lib.encodeRune c).length = 1) := by
  unfold valid at h
  rw [Lib.decodeL_N]
  unfold Lib.encodeRune
  by_cases c1 : c ≤ 127
  · rw [Lib.encodeRuneZ_one (by omega) c1]
    have e0 := u8 c (by omega)
    simp only [List.map_cons, List.map_nil, List.cons_append, List.nil_append, List.getD_cons_zero, List.getD_cons_succ, List.length_cons, List.length_nil]
    rw [e0, dec1 _ _ _ _ _ (by omega)]
    exact ⟨rfl, by omega⟩
  · by_cases c2 : c ≤ 2047
    · rw [Lib.encodeRuneZ_two (by omega) c2]
      have e0 := u8 (192 + c / 64) (by omega)
      have e1 := u8 (128 + c % 64) (by omega)
      simp only [List.map_cons, List.map_nil, List.cons_append, List.nil_append, List.getD_cons_zero, List.getD_cons_succ, List.length_cons, List.length_nil]
      rw [e0, e1, dec2 _ c.toNat _ _ _ _ (by omega) (by omega) (by omega) (by omega)]
      exact ⟨rfl, by omega⟩
    · by_cases c3 : c ≤ 65535
      · rw [Lib.encodeRuneZ_three (by omega)]
        have e0 := u8 (224 + c / 4096) (by omega)
        have e1 := u8 (128 + c / 64 % 64) (by omega)
        have e2 := u8 (128 + c % 64) (by omega)
        simp only [List.map_cons, List.map_nil, List.cons_append, List.nil_append, List.getD_cons_zero, List.getD_cons_succ, List.length_cons, List.length_nil]
        rw [e0, e1, e2, dec3 _ c.toNat _ _ _ _ (by omega) (by omega) (by omega) (by omega) (by omega)]
        exact ⟨rfl, by omega⟩
      · rw [Lib.encodeRuneZ_four (by omega) (by omega)]
        have e0 := u8 (240 + c / 262144) (by omega)
        have e1 := u8 (128 + c / 4096 % 64) (by omega)
        have e2 := u8 (128 + c / 64 % 64) (by omega)
        have e3 := u8 (128 + c % 64) (by omega)
        simp only [List.map_cons, List.map_nil, List.cons_append, List.nil_append, List.getD_cons_zero, List.getD_cons_succ, List.length_cons, List.length_nil]
        rw [e0, e1, e2, e3, dec4 _ c.toNat _ _ _ _ (by omega) (by omega) (by omega) (by omega) (by omega) (by omega)]
        exact ⟨rfl, by omega⟩
theorem dec_valid (l : List UInt8) (hv : ¬ ((Lib.decodeL l).1 = 65533 ∧ (Lib.decodeL l).2 = 1)) : valid ((Lib.decodeL l).1 : Int) := by
  have k0 := (l.getD 0 0).toNat_lt
  have k1 := (l.getD 1 0).toNat_lt
  have k2 := (l.getD 2 0).toNat_lt
  have k3 := (l.getD 3 0).toNat_lt
  unfold valid
  rw [Lib.decodeL_N] at hv ⊢
  rcases Lib.decodeN_shape l.length (l.getD 0 0).toNat (l.getD 1 0).toNat (l.getD 2 0).toNat (l.getD 3 0).toNat with ⟨c, e⟩ | ⟨c1, c2, c3, cv, e⟩ | ⟨c1, c2, c3, c4, cv, cs, e⟩ | ⟨c1, c2, c3, c4, c5, cv, cw, e⟩ | e
  all_goals (rw [e] at hv ⊢; dsimp only at hv ⊢; omega)
theorem split_enc : ∀ (n : Nat) (l : List UInt8), l.length ≤ n → ∃ m rest, l = enc m ++ rest ∧ (∀ c ∈ m, valid c) ∧ (rest = [] ∨ (rest ≠ [] ∧ (Lib.decodeL rest).1 = 65533 ∧ (Lib.decodeL rest).2 = 1)) := by
  intro n
  induction n with
  | zero =>
    intro l hl
    exact ⟨[], [], List.eq_nil_of_length_eq_zero (by omega), by simp, .inl rfl⟩
  | succ n ih =>
    intro l hl
    by_cases he : l = []
    · exact ⟨[], [], he, by simp, .inl rfl⟩
    · by_cases hv : (Lib.decodeL l).1 = 65533 ∧ (Lib.decodeL l).2 = 1
      · exact ⟨[], l, rfl, by simp, .inr ⟨he, hv⟩⟩
      · have e := Lib.encode_decode l he hv
        have h1 := (rune_len ((Lib.decodeL l).1 : Int)).1
        have h2 : (Lib.encodeRune ((Lib.decodeL l).1 : Int)).length ≤ (Lib.decodeL l).2 := by rw [e, List.length_take]; omega
        obtain ⟨m, rest, a, b, c⟩ := ih (l.drop (Lib.decodeL l).2) (by rw [List.length_drop]; omega)
        refine ⟨((Lib.decodeL l).1 : Int) :: m, rest, ?_, ?_, c⟩
        · rw [enc_cons, e, List.append_assoc, ← a, List.take_append_drop]
        · intro x hx
          rcases List.mem_cons.1 hx with rfl | hx
          · exact dec_valid l hv
          · exact b x hx

theorem ext_data (s : ByteArray) (n : Nat) : (s.extract n s.size).data.toList = s.data.toList.drop n := by
  have hs : s.size = s.data.toList.length := by rw [Array.length_toList]; rfl
  rw [ByteArray.data_extract, Array.toList_extract]
  unfold List.extract
  exact List.take_of_length_le (by rw [List.length_drop]; omega)
theorem decode_f (s : ByteArray) (n : Nat) (h : n < s.size) : utf8_DecodeRuneInString.f (s.extract n s.size) = some (((Lib.decodeL (s.data.toList.drop n)).1 : Int), ((Lib.decodeL (s.data.toList.drop n)).2 : Int)) := by
  have hz : (s.extract n s.size).size = s.size - n := by simp [ByteArray.size_extract]
  have e : Lib.decodeGo (s.extract n s.size) = Lib.decodeL (s.data.toList.drop n) := by
    unfold Lib.decodeGo
    rw [if_neg (by omega), ← ext_data, ← Lib.decodeL_drop, List.drop_zero]
  unfold utf8_DecodeRuneInString.f
  rw [e]
theorem dec_step (s : ByteArray) (k n : Nat) (x : List Int) (hs : s.size ≤ 70000) (hn : n < s.size) (hx : x.length ≤ n) (hg : ¬ ((Lib.decodeL (s.data.toList.drop n)).1 = 65533 ∧ (Lib.decodeL (s.data.toList.drop n)).2 = 1)) :
    utf_Decode.l0 (k + 1) s x n = utf_Decode.l0 k s (x ++ [((Lib.decodeL (s.data.toList.drop n)).1 : Int)]) ((n + (Lib.decodeL (s.data.toList.drop n)).2 : Nat) : Int) := by
  have hd := decode_f s n hn
  have hr := Lib.decodeL_rune (s.data.toList.drop n)
  have hl : s.data.toList.length = s.size := by rw [Array.length_toList]; rfl
  have hw : (Lib.decodeL (s.data.toList.drop n)).2 ≤ s.size - n := by
    have h := Lib.decodeL_le (s.data.toList.drop n) (by intro h; have := congrArg List.length h; rw [List.length_drop, hl] at this; simp at this; omega)
    rw [List.length_drop, hl] at h
    exact h
  generalize Lib.decodeL (s.data.toList.drop n) = d at *
  have e1 : wrap64 ((d.1 : Int)) = d.1 := w_in (by omega)
  have e2 : wrap64 ((n : Int) + (d.2 : Int)) = ((n + d.2 : Nat) : Int) := by rw [w_in (by omega)]; omega
  rw [utf_Decode.l0, if_pos (by omega), if_pos (by omega), if_pos (by omega), Int.toNat_natCast, hd, Option.bind_some]
  show (if (d.1 : Int) = 65533 then (if (d.2 : Int) = 1 then some (([] : List Int), (n : Int), (40 : Int)) else (if x.length < 17592186044416 then utf_Decode.l0 k s (x ++ [wrap64 (d.1 : Int)]) (wrap64 ((n : Int) + (d.2 : Int))) else none)) else (if x.length < 17592186044416 then utf_Decode.l0 k s (x ++ [wrap64 (d.1 : Int)]) (wrap64 ((n : Int) + (d.2 : Int))) else none)) = _
  have hx' : x.length < 17592186044416 := by omega
  rw [e1, e2, if_pos hx']
  by_cases a : (d.1 : Int) = 65533
  · rw [if_pos a, if_neg (by omega)]
  · rw [if_neg a]
theorem dec_bad (s : ByteArray) (k n : Nat) (x : List Int) (hn : n < s.size) (hg : (Lib.decodeL (s.data.toList.drop n)).1 = 65533 ∧ (Lib.decodeL (s.data.toList.drop n)).2 = 1) :
    utf_Decode.l0 (k + 1) s x n = some ([], (n : Int), 40) := by
  have hd := decode_f s n hn
  rw [hg.1, hg.2] at hd
  rw [utf_Decode.l0, if_pos (by omega), if_pos (by omega), if_pos (by omega), Int.toNat_natCast, hd, Option.bind_some]
  rfl
theorem dec_run (s : ByteArray) (hs : s.size ≤ 70000) : ∀ (m : List Int) (k n : Nat) (x : List Int) (rest : List UInt8), (∀ c ∈ m, valid c) → s.data.toList.drop n = enc m ++ rest → n ≤ s.size → x.length ≤ n →
    utf_Decode.l0 (k + m.length) s x n = utf_Decode.l0 k s (x ++ m) ((n + (enc m).length : Nat) : Int) := by
  intro m
  induction m with
  | nil => intro k n x rest _ _ _ _; simp [enc]
  | cons c m ih =>
    intro k n x rest hv hd hn hx
    have hl : s.data.toList.length = s.size := by rw [Array.length_toList]; rfl
    have hlen := congrArg List.length hd
    rw [List.length_drop, hl, enc_cons, List.length_append, List.length_append] at hlen
    have h1 := rune_len c
    have vc := hv c (List.mem_cons_self ..)
    rw [enc_cons, List.append_assoc] at hd
    obtain ⟨d1, d2⟩ := dec_enc c vc (enc m ++ rest)
    rw [← hd] at d1
    have hc : ((c.toNat : Nat) : Int) = c := by unfold valid at vc; omega
    have st := dec_step s (k + m.length) n x hs (by omega) hx (by rw [d1]; exact d2)
    rw [d1] at st
    have st' : utf_Decode.l0 (k + (c :: m).length) s x n = utf_Decode.l0 (k + m.length) s (x ++ [c]) ((n + (Lib.encodeRune c).length : Nat) : Int) := by
      rw [show k + (c :: m).length = k + m.length + 1 from rfl, st]
      show utf_Decode.l0 (k + m.length) s (x ++ [((c.toNat : Nat) : Int)]) _ = _
      rw [hc]
    have hd2 : s.data.toList.drop (n + (Lib.encodeRune c).length) = enc m ++ rest := by
      rw [← List.drop_drop, hd, List.drop_left]
    rw [st', ih k _ (x ++ [c]) rest (fun y hy => hv y (List.mem_cons_of_mem _ hy)) hd2 (by omega) (by rw [List.length_append, List.length_singleton]; omega), List.append_assoc, enc_cons, List.length_append, Nat.add_assoc]
    rfl
theorem decode_all (s : ByteArray) (hs : s.size ≤ 70000) (K : Nat) (hK : 100000 ≤ K) (m : List Int) (hv : ∀ c ∈ m, valid c) (h : s.data.toList = enc m) : utf_Decode.f K s = some (m, 0, 0) := by
  have hl : s.data.toList.length = s.size := by rw [Array.length_toList]; rfl
  have hm := enc_len m
  have hz := congrArg List.length h
  have r := dec_run s hs m (K - m.length) 0 [] [] hv (by rw [List.drop_zero, List.append_nil, h]) (by omega) (by simp)
  unfold utf_Decode.f
  rw [show K - m.length + m.length = K by omega, Nat.zero_add, List.nil_append] at r
  show utf_Decode.l0 K s [] ((0 : Nat) : Int) = _
  rw [r]
  obtain ⟨q, hq⟩ : ∃ q, K - m.length = q + 1 := ⟨K - m.length - 1, by omega⟩
  rw [hq, utf_Decode.l0, if_neg (by omega)]
theorem decode_part (s : ByteArray) (hs : s.size ≤ 70000) (K : Nat) (hK : 100000 ≤ K) (m : List Int) (rest : List UInt8) (hv : ∀ c ∈ m, valid c) (h : s.data.toList = enc m ++ rest) (hr : rest ≠ [] ∧ (Lib.decodeL rest).1 = 65533 ∧ (Lib.decodeL rest).2 = 1) :
    utf_Decode.f K s = some ([], ((enc m).length : Int), 40) := by
  have hl : s.data.toList.length = s.size := by rw [Array.length_toList]; rfl
  have hm := enc_len m
  have hz := congrArg List.length h
  have hrl : 0 < rest.length := List.length_pos_iff.2 hr.1
  rw [List.length_append] at hz
  have r := dec_run s hs m (K - m.length) 0 [] rest hv (by rw [List.drop_zero, h]) (by omega) (by simp)
  unfold utf_Decode.f
  rw [show K - m.length + m.length = K by omega, Nat.zero_add, List.nil_append] at r
  show utf_Decode.l0 K s [] ((0 : Nat) : Int) = _
  rw [r]
  obtain ⟨q, hq⟩ : ∃ q, K - m.length = q + 1 := ⟨K - m.length - 1, by omega⟩
  have hd : s.data.toList.drop (enc m).length = rest := by rw [h, List.drop_left]
  rw [hq, dec_bad s q _ _ (by omega) (by rw [hd]; exact hr.2)]

theorem w64 {n : Int} (h : (Lit.int .i64 n).wf = true) : -9223372036854775808 ≤ n ∧ n ≤ 9223372036854775807 := by
  simp [Lit.wf] at h
  have h1 : IntKind.i64.min = -9223372036854775808 := by decide
  have h2 : IntKind.i64.max = 9223372036854775807 := by decide
  omega
theorem encode_run (c : Int) (h : valid c) : Utf8.encode c = ⟨(Lib.encodeRune c).toArray⟩ := by
  unfold valid at h
  have v : Utf8.valid c = true := by simp [Utf8.valid]; omega
  unfold Utf8.encode Lib.encodeRune
  by_cases c1 : c ≤ 127
  · rw [Lib.encodeRuneZ_one (by omega) c1]
    have e : c.toNat < 128 := by omega
    simp [v, e, Nat.toUInt8]
  · by_cases c2 : c ≤ 2047
    · rw [Lib.encodeRuneZ_two (by omega) c2]
      have e : ¬ c.toNat < 128 := by omega
      have e2 : c.toNat < 2048 := by omega
      have f1 : (192 + c / 64).toNat = 192 + c.toNat / 64 := by omega
      have f2 : (128 + c % 64).toNat = 128 + c.toNat % 64 := by omega
      simp [v, e, e2, Nat.toUInt8, f1, f2]
    · by_cases c3 : c ≤ 65535
      · rw [Lib.encodeRuneZ_three (by omega)]
        have e : ¬ c.toNat < 128 := by omega
        have e2 : ¬ c.toNat < 2048 := by omega
        have e3 : c.toNat < 65536 := by omega
        have f1 : (224 + c / 4096).toNat = 224 + c.toNat / 4096 := by omega
        have f2 : (128 + c / 64 % 64).toNat = 128 + c.toNat / 64 % 64 := by omega
        have f3 : (128 + c % 64).toNat = 128 + c.toNat % 64 := by omega
        simp [v, e, e2, e3, Nat.toUInt8, f1, f2, f3]
      · rw [Lib.encodeRuneZ_four (by omega) (by omega)]
        have e : ¬ c.toNat < 128 := by omega
        have e2 : ¬ c.toNat < 2048 := by omega
        have e3 : ¬ c.toNat < 65536 := by omega
        have f1 : (240 + c / 262144).toNat = 240 + c.toNat / 262144 := by omega
        have f2 : (128 + c / 4096 % 64).toNat = 128 + c.toNat / 4096 % 64 := by omega
        have f3 : (128 + c / 64 % 64).toNat = 128 + c.toNat / 64 % 64 := by omega
        have f4 : (128 + c % 64).toNat = 128 + c.toNat % 64 := by omega
        simp [v, e, e2, e3, Nat.toUInt8, f1, f2, f3, f4]
/-- The characters of a string that is written out of valid ones. -/
theorem runesFrom_enc (s : ByteArray) : ∀ (m : List Int) (f n : Nat), (∀ c ∈ m, valid c) → s.data.toList.drop n = enc m → m.length ≤ f → Furn.runesFrom s f n = m := by
  have hl : s.data.toList.length = s.size := by rw [Array.length_toList]; rfl
  intro m
  induction m with
  | nil =>
    intro f n _ hd _
    have hz := congrArg List.length hd
    rw [List.length_drop, hl] at hz
    have : (enc []).length = 0 := rfl
    exact Furn.runesFrom_end s f n (by omega)
  | cons c m ih =>
    intro f n hv hd hf
    rw [List.length_cons] at hf
    obtain ⟨f, rfl⟩ : ∃ q, f = q + 1 := ⟨f - 1, by omega⟩
    have vc := hv c (List.mem_cons_self ..)
    rw [enc_cons] at hd
    have hlen := congrArg List.length hd
    rw [List.length_drop, hl, List.length_append] at hlen
    have h1 := rune_len c
    have d := (dec_enc c vc (enc m)).1
    rw [← hd, Lib.decodeL_drop] at d
    have hd2 : s.data.toList.drop (n + (Lib.encodeRune c).length) = enc m := by rw [← List.drop_drop, hd, List.drop_left]
    rw [Furn.runesFrom, if_pos (by omega), d]
    show ((c.toNat : Nat) : Int) :: _ = _
    rw [ih f _ (fun y hy => hv y (List.mem_cons_of_mem _ hy)) hd2 (by omega)]
    have : ((c.toNat : Nat) : Int) = c := by unfold valid at vc; omega
    rw [this]
theorem runes_one (c : Int) (h : valid c) : Furn.runes (Utf8.encode c) = [c] := by
  have e : (Utf8.encode c).data.toList = enc [c] := by
    rw [encode_run c h]
    show Lib.encodeRune c = Lib.encodeRune c ++ []
    rw [List.append_nil]
  have hl : (Utf8.encode c).size = (Lib.encodeRune c).length := by rw [encode_run c h]; rfl
  have h1 := rune_len c
  unfold Furn.runes
  exact runesFrom_enc _ [c] _ 0 (fun x hx => by rw [List.mem_singleton] at hx; rw [hx]; exact h) (by rw [List.drop_zero, e]) (by rw [hl]; exact h1.1)
theorem head_not (c : Int) (h : valid c) (hc : c ≠ 123) (r : List UInt8) : Lib.encodeRune c ≠ 123 :: r := by
  intro e
  have d := (dec_enc c h []).1
  rw [List.append_nil, e, Lib.decodeL_ascii 123 r (by decide)] at d
  have d1 := congrArg Prod.fst d
  have : (123 : UInt8).toNat = 123 := rfl
  unfold valid at h
  simp only [this] at d1
  omega
theorem said_one (page pages : Int) (title : List Int) (c : Int) (h : valid c) (hc : c ≠ 123) : Furn.said page pages title (Utf8.encode c) = [c] := by
  have hn : ∀ r : List UInt8, ¬ (Utf8.encode c).toList = 123 :: r := fun r e => head_not c h hc r (by
    rw [Go.ByteArray.toList_eq, encode_run c h] at e
    exact e)
  unfold Furn.said
  rw [if_neg (hn _), if_neg (hn _), if_neg (hn _), if_neg (hn _), runes_one c h]

/-! ### a template as a list of characters -/
def sPage : List Int := [123, 112, 97, 103, 101, 125]
def sPages : List Int := [123, 112, 97, 103, 101, 115, 125]
def sTitle : List Int := [123, 116, 105, 116, 108, 101, 125]
/-- The sign at the front. -/
def sgn (m : List Int) : List Int :=
  if [123, 123] <+: m then [123, 123] else if sPage <+: m then sPage else if sPages <+: m then sPages else if sTitle <+: m then sTitle else []
theorem sgn_cases (m : List Int) : sgn m = [] ∨ ((sgn m = [123, 123] ∨ sgn m = sPage ∨ sgn m = sPages ∨ sgn m = sTitle) ∧ sgn m <+: m) := by
  unfold sgn
  by_cases h0 : [123, 123] <+: m
  · rw [if_pos h0]; exact .inr ⟨.inl rfl, h0⟩
  rw [if_neg h0]
  by_cases h1 : sPage <+: m
  · rw [if_pos h1]; exact .inr ⟨.inr (.inl rfl), h1⟩
  rw [if_neg h1]
  by_cases h2 : sPages <+: m
  · rw [if_pos h2]; exact .inr ⟨.inr (.inr (.inl rfl)), h2⟩
  rw [if_neg h2]
  by_cases h3 : sTitle <+: m
  · rw [if_pos h3]; exact .inr ⟨.inr (.inr (.inr rfl)), h3⟩
  rw [if_neg h3]
  exact .inl rfl
theorem rune_asc (x : Int) (h : 0 ≤ x ∧ x ≤ 127) : Lib.encodeRune x = [x.toNat.toUInt8] := by
  unfold Lib.encodeRune
  rw [Lib.encodeRuneZ_one h.1 h.2]
  rfl
theorem enc_asc : ∀ p : List Int, (∀ x ∈ p, 0 ≤ x ∧ x ≤ 127) → (enc p).length = p.length
  | [], _ => rfl
  | x :: p, h => by
    rw [enc_cons, rune_asc x (h x (List.mem_cons_self ..)), List.length_append, enc_asc p (fun y hy => h y (List.mem_cons_of_mem _ hy)), List.length_cons, List.length_cons]
    simp
    omega
theorem pre_enc : ∀ (p m : List Int), (∀ x ∈ p, 0 ≤ x ∧ x ≤ 127) → (∀ c ∈ m, valid c) → (enc p <+: enc m ↔ p <+: m)
  | [], m, _, _ => by simp [enc]
  | x :: p, [], hp, _ => by
    rw [enc_cons, rune_asc x (hp x (List.mem_cons_self ..))]
    simp [enc]
  | x :: p, c :: m, hp, hm => by
    have ih := pre_enc p m (fun y hy => hp y (List.mem_cons_of_mem _ hy)) (fun y hy => hm y (List.mem_cons_of_mem _ hy))
    have hx := hp x (List.mem_cons_self ..)
    have hc := hm c (List.mem_cons_self ..)
    rw [enc_cons, enc_cons, rune_asc x hx, List.singleton_append]
    by_cases e : x = c
    · subst e
      rw [rune_asc x hx, List.singleton_append, List.cons_prefix_cons, List.cons_prefix_cons, ih]
      simp
    · constructor
      · intro ⟨t, ht⟩
        exfalso
        have d := (dec_enc c hc (enc m)).1
        have hb : (x.toNat.toUInt8).toNat = x.toNat := u8 x (by omega)
        rw [← ht, List.cons_append, Lib.decodeL_ascii _ _ (by rw [hb]; omega), hb] at d
        have d1 := congrArg Prod.fst d
        unfold valid at hc
        simp only at d1
        omega
      · intro h
        rw [List.cons_prefix_cons] at h
        exact absurd h.1 e
theorem starts_pre (x b : ByteArray) : Furn.starts x b = true ↔ b.data.toList <+: x.data.toList := by
  have hx : x.data.toList.length = x.size := by rw [Array.length_toList]; rfl
  have hb : b.data.toList.length = b.size := by rw [Array.length_toList]; rfl
  have hE : (x.extract 0 b.size).data.toList = x.data.toList.take b.size := by
    rw [ByteArray.data_extract, Array.toList_extract]
    simp [List.extract]
  unfold Furn.starts
  rw [Bool.and_eq_true, decide_eq_true_iff, beq_iff_eq, Go.ByteArray.toList_eq, Go.ByteArray.toList_eq, hE, List.prefix_iff_eq_take, hb]
  constructor
  · intro h; exact h.2.symm
  · intro h
    refine ⟨?_, h.symm⟩
    have := congrArg List.length h
    rw [List.length_take, hb, hx] at this
    omega
theorem starts_enc (x b : ByteArray) (m p : List Int) (hb : b.data.toList = enc p) (hp : ∀ y ∈ p, 0 ≤ y ∧ y ≤ 127) (hv : ∀ c ∈ m, valid c) (h : x.data.toList = enc m) : Furn.starts x b = true ↔ p <+: m := by
  rw [starts_pre, hb, h, pre_enc p m hp hv]
theorem sgn_f (x : ByteArray) (m : List Int) (hv : ∀ c ∈ m, valid c) (h : x.data.toList = enc m) : Furn.signP x = ⟨(enc (sgn m)).toArray⟩ := by
  have s0 := starts_enc x ⟨#[123, 123]⟩ m [123, 123] (by decide +kernel) (by decide) hv h
  have s1 := starts_enc x ⟨#[123, 112, 97, 103, 101, 125]⟩ m sPage (by decide +kernel) (by decide) hv h
  have s2 := starts_enc x ⟨#[123, 112, 97, 103, 101, 115, 125]⟩ m sPages (by decide +kernel) (by decide) hv h
  have s3 := starts_enc x ⟨#[123, 116, 105, 116, 108, 101, 125]⟩ m sTitle (by decide +kernel) (by decide) hv h
  unfold Furn.signP sgn
  simp only [s0, s1, s2, s3]
  repeat' split
  all_goals decide +kernel
/-- Where the walk goes wrong, whether it does not, and the pieces; at a place, so many characters being passed over. -/
def toks : Nat → Nat → List Int → Int × Bool × List (List Int)
  | _, _, [] => (0, true, [])
  | at_, k + 1, c :: m => toks (at_ + (Lib.encodeRune c).length) k m
  | at_, 0, c :: m =>
    if c ≠ 123 then ((toks (at_ + (Lib.encodeRune c).length) 0 m).1, (toks (at_ + (Lib.encodeRune c).length) 0 m).2.1, [c] :: (toks (at_ + (Lib.encodeRune c).length) 0 m).2.2)
    else if sgn (c :: m) ≠ [] then ((toks (at_ + (Lib.encodeRune c).length) ((sgn (c :: m)).length - 1) m).1, (toks (at_ + (Lib.encodeRune c).length) ((sgn (c :: m)).length - 1) m).2.1, sgn (c :: m) :: (toks (at_ + (Lib.encodeRune c).length) ((sgn (c :: m)).length - 1) m).2.2)
    else ((at_ : Int), false, [])
theorem toks_nil (a k : Nat) : toks a k [] = (0, true, []) := by cases k <;> rfl
theorem sgn_asc (m : List Int) : ∀ x ∈ sgn m, 0 ≤ x ∧ x ≤ 127 := by
  rcases sgn_cases m with e | ⟨e | e | e | e, _⟩ <;> rw [e] <;> decide
theorem sgn_rest (c : Int) (m : List Int) : (sgn (c :: m)).length - 1 ≤ m.length ∧ ∀ y ∈ m.take ((sgn (c :: m)).length - 1), 0 ≤ y ∧ y ≤ 127 := by
  have ha := sgn_asc (c :: m)
  rcases sgn_cases (c :: m) with e | ⟨_, hp⟩
  · rw [e]; simp
  · generalize sgn (c :: m) = p at *
    cases p with
    | nil => simp
    | cons x p =>
      rw [List.cons_prefix_cons] at hp
      have hl := hp.2.length_le
      have ht := List.prefix_iff_eq_take.1 hp.2
      refine ⟨by simpa using hl, ?_⟩
      intro y hy
      have : y ∈ p := by
        rw [ht]
        simpa using hy
      exact ha y (List.mem_cons_of_mem _ this)
theorem walk_from (s : ByteArray) : ∀ (m : List Int) (fuel pos k skip : Nat) (acc : List ByteArray), (∀ c ∈ m, valid c) → s.data.toList.drop pos = enc m → m.length ≤ fuel →
    k ≤ m.length → (∀ c ∈ m.take k, 0 ≤ c ∧ c ≤ 127) → (skip = pos + k ∨ (k = 0 ∧ skip ≤ pos)) →
    Furn.walkFrom s fuel pos skip acc = ((toks pos k m).1, (toks pos k m).2.1, acc ++ (toks pos k m).2.2.map (fun p => (⟨(enc p).toArray⟩ : ByteArray))) := by
  have hl : s.data.toList.length = s.size := by rw [Array.length_toList]; rfl
  intro m
  induction m with
  | nil =>
    intro fuel pos k skip acc _ hd _ _ _ _
    have hz := congrArg List.length hd
    rw [List.length_drop, hl] at hz
    have : (enc []).length = 0 := rfl
    rw [Furn.walkFrom_end s fuel pos skip acc (by omega), toks_nil]
    simp
  | cons c m ih =>
    intro fuel pos k skip acc hv hd hf hk ha hs
    rw [List.length_cons] at hf hk
    obtain ⟨fuel, rfl⟩ : ∃ q, fuel = q + 1 := ⟨fuel - 1, by omega⟩
    have vc := hv c (List.mem_cons_self ..)
    have vm := fun y hy => hv y (List.mem_cons_of_mem c hy)
    have hd0 := hd
    rw [enc_cons] at hd
    have hlen := congrArg List.length hd
    rw [List.length_drop, hl, List.length_append] at hlen
    have h1 := rune_len c
    have d := (dec_enc c vc (enc m)).1
    rw [← hd, Lib.decodeL_drop] at d
    have hd2 : s.data.toList.drop (pos + (Lib.encodeRune c).length) = enc m := by rw [← List.drop_drop, hd, List.drop_left]
    rw [Furn.walkFrom, if_pos (by omega), d]
    cases k with
    | succ k =>
      have hc : 0 ≤ c ∧ c ≤ 127 := ha c (by simp)
      have hc1 : (Lib.encodeRune c).length = 1 := by rw [rune_asc c hc]; rfl
      rw [if_pos (by omega), toks]
      show Furn.walkFrom s fuel (pos + (Lib.encodeRune c).length) skip acc = _
      exact ih fuel _ k skip acc vm hd2 (by omega) (by omega) (fun y hy => ha y (by rw [List.take_succ_cons]; exact List.mem_cons_of_mem _ hy)) (.inl (by omega))
    | zero =>
      rw [if_neg (by omega), toks]
      have hcc : ((c.toNat : Nat) : Int) = c := by unfold valid at vc; omega
      by_cases h123 : c ≠ 123
      · rw [if_pos h123]
        rw [if_pos (show (c.toNat, (Lib.encodeRune c).length).1 ≠ 123 by show c.toNat ≠ 123; omega)]
        show Furn.walkFrom s fuel (pos + (Lib.encodeRune c).length) skip (acc ++ [Utf8.encode ((c.toNat : Nat) : Int)]) = _
        rw [ih fuel _ 0 skip _ vm hd2 (by omega) (by omega) (by simp) (.inr ⟨rfl, by omega⟩), hcc, encode_run c vc, List.append_assoc]
        have : (⟨(enc [c]).toArray⟩ : ByteArray) = ⟨(Lib.encodeRune c).toArray⟩ := by
          show (⟨(Lib.encodeRune c ++ []).toArray⟩ : ByteArray) = _
          rw [List.append_nil]
        simp only [List.map_cons, this]
        rfl
      · have e123 : c = 123 := by omega
        rw [if_neg h123]
        rw [if_neg (show ¬ (c.toNat, (Lib.encodeRune c).length).1 ≠ 123 by show ¬ c.toNat ≠ 123; omega)]
        have hS := sgn_f (s.extract pos s.size) (c :: m) hv (by rw [ext_data, hd0])
        have hZ : ((⟨(enc (sgn (c :: m))).toArray⟩ : ByteArray)).toList = enc (sgn (c :: m)) := by rw [Go.ByteArray.toList_eq]
        have hZ2 : ((⟨(enc (sgn (c :: m))).toArray⟩ : ByteArray)).size = (enc (sgn (c :: m))).length := rfl
        have hL := enc_asc _ (sgn_asc (c :: m))
        have hc1 : (Lib.encodeRune c).length = 1 := by rw [e123]; rfl
        rw [hS, hZ, hZ2, hL]
        by_cases hn : sgn (c :: m) ≠ []
        · have hp : 0 < (sgn (c :: m)).length := List.length_pos_iff.2 hn
          obtain ⟨r1, r2⟩ := sgn_rest c m
          rw [if_pos (by intro e; rw [e] at hL; simp at hL; omega), if_pos hn]
          show Furn.walkFrom s fuel (pos + (Lib.encodeRune c).length) (pos + (sgn (c :: m)).length) _ = _
          rw [ih fuel _ ((sgn (c :: m)).length - 1) _ _ vm hd2 (by omega) r1 r2 (.inl (by omega)), List.append_assoc]
          rfl
        · rw [if_neg (by intro h; apply hn; intro e; apply h; rw [e]; rfl), if_neg hn]
          simp
theorem walk_all (s : ByteArray) (m : List Int) (hv : ∀ c ∈ m, valid c) (h : s.data.toList = enc m) :
    Furn.walkF s = ((toks 0 0 m).1, (toks 0 0 m).2.1, (toks 0 0 m).2.2.map (fun p => (⟨(enc p).toArray⟩ : ByteArray))) := by
  have hl : s.data.toList.length = s.size := by rw [Array.length_toList]; rfl
  have h1 := (enc_len m).1
  have hz := congrArg List.length h
  unfold Furn.walkF
  rw [walk_from s m s.size 0 0 0 [] hv (by rw [List.drop_zero, h]) (by omega) (by omega) (by simp) (.inl rfl), List.nil_append]
/-- What a piece says. -/
def saidL (pg ps : Int) (title : List Int) (p : List Int) : List Int :=
  if p = [123, 123] then [123]
  else if p = sPage then Furn.runes ⟨(Lib.itoa pg).toArray⟩
  else if p = sPages then Furn.runes ⟨(Lib.itoa ps).toArray⟩
  else if p = sTitle then title
  else p
theorem toks_piece : ∀ (m : List Int) (a k : Nat), (∀ c ∈ m, valid c) → ∀ p ∈ (toks a k m).2.2, (∃ c, p = [c] ∧ c ≠ 123 ∧ valid c) ∨ p = [123, 123] ∨ p = sPage ∨ p = sPages ∨ p = sTitle := by
  intro m
  induction m with
  | nil => intro a k _ p hp; rw [toks_nil] at hp; simp at hp
  | cons c m ih =>
    intro a k hv p hp
    have vm := fun y hy => hv y (List.mem_cons_of_mem c hy)
    cases k with
    | succ k => rw [toks] at hp; exact ih _ _ vm p hp
    | zero =>
      rw [toks] at hp
      by_cases h123 : c ≠ 123
      · rw [if_pos h123] at hp
        rcases List.mem_cons.1 hp with rfl | hp
        · exact .inl ⟨c, rfl, h123, hv c (List.mem_cons_self ..)⟩
        · exact ih _ _ vm p hp
      · rw [if_neg h123] at hp
        by_cases hn : sgn (c :: m) ≠ []
        · rw [if_pos hn] at hp
          rcases List.mem_cons.1 hp with rfl | hp
          · rcases sgn_cases (c :: m) with e | ⟨e, _⟩
            · exact absurd e hn
            · exact .inr e
          · exact ih _ _ vm p hp
        · rw [if_neg hn] at hp
          simp at hp
theorem said_piece (pg ps : Int) (title : List Int) (p : List Int) (h : (∃ c, p = [c] ∧ c ≠ 123 ∧ valid c) ∨ p = [123, 123] ∨ p = sPage ∨ p = sPages ∨ p = sTitle) :
    Furn.said pg ps title ⟨(enc p).toArray⟩ = saidL pg ps title p := by
  have hT : ((⟨(enc p).toArray⟩ : ByteArray)).toList = enc p := by rw [Go.ByteArray.toList_eq]
  rcases h with ⟨c, rfl, hc, hv⟩ | rfl | rfl | rfl | rfl
  · have e : (⟨(enc [c]).toArray⟩ : ByteArray) = Utf8.encode c := by
      rw [encode_run c hv]
      show (⟨(Lib.encodeRune c ++ []).toArray⟩ : ByteArray) = _
      rw [List.append_nil]
    rw [e, said_one pg ps title c hv hc]
    unfold saidL
    rw [if_neg (by simp), if_neg (by simp [sPage]), if_neg (by simp [sPages]), if_neg (by simp [sTitle])]
  all_goals
    unfold Furn.said saidL
    rw [hT]
  · rw [if_pos (by decide +kernel), if_pos rfl]
  · rw [if_neg (by decide +kernel), if_pos (by decide +kernel), if_neg (by decide), if_pos rfl]
  · rw [if_neg (by decide +kernel), if_neg (by decide +kernel), if_pos (by decide +kernel), if_neg (by decide), if_neg (by decide), if_pos rfl]
  · rw [if_neg (by decide +kernel), if_neg (by decide +kernel), if_neg (by decide +kernel), if_pos (by decide +kernel), if_neg (by decide), if_neg (by decide), if_neg (by decide), if_pos rfl]
theorem said_all (pg ps : Int) (title : List Int) (l : List (List Int)) (h : ∀ p ∈ l, (∃ c, p = [c] ∧ c ≠ 123 ∧ valid c) ∨ p = [123, 123] ∨ p = sPage ∨ p = sPages ∨ p = sTitle) :
    (l.map (fun p => (⟨(enc p).toArray⟩ : ByteArray))).flatMap (Furn.said pg ps title) = l.flatMap (saidL pg ps title) := by
  induction l with
  | nil => rfl
  | cons p l ih =>
    rw [List.map_cons, List.flatMap_cons, List.flatMap_cons, ih (fun q hq => h q (List.mem_cons_of_mem _ hq)), said_piece pg ps title p (h p (List.mem_cons_self ..))]
/-! ### Check and Expand -/
theorem size_eq (s : ByteArray) : s.data.toList.length = s.size := by rw [Array.length_toList]; rfl
theorem check_long (s : ByteArray) (K : Nat) (h : 4096 < s.size) : furnish_Check.f K s = some (0, 2) := by
  unfold furnish_Check.f
  rw [if_pos (by omega)]
theorem check_part (s : ByteArray) (K : Nat) (hK : 100000 ≤ K) (h : s.size ≤ 4096) (m : List Int) (rest : List UInt8) (hv : ∀ c ∈ m, valid c) (hd : s.data.toList = enc m ++ rest) (hr : rest ≠ [] ∧ (Lib.decodeL rest).1 = 65533 ∧ (Lib.decodeL rest).2 = 1) :
    furnish_Check.f K s = some (((enc m).length : Int), 40) := by
  unfold furnish_Check.f
  rw [if_neg (by omega), decode_part s (by omega) K hK m rest hv hd hr, Option.bind_some]
  rfl
theorem check_all (s : ByteArray) (K : Nat) (hK : 100000 ≤ K) (h : s.size ≤ 4096) (m : List Int) (hv : ∀ c ∈ m, valid c) (hd : s.data.toList = enc m) :
    furnish_Check.f K s = if (toks 0 0 m).2.1 = true then some (0, 0) else some ((toks 0 0 m).1, 280) := by
  unfold furnish_Check.f
  rw [if_neg (by omega), decode_all s (by omega) K hK m hv hd, Option.bind_some, walk_all s m hv hd]
  rfl
theorem expand_gen (s : ByteArray) (K : Nat) (pg ps : Int) (title : List Int) (hp : -9223372036854775808 ≤ pg ∧ pg ≤ 9223372036854775807) (hq : -9223372036854775808 ≤ ps ∧ ps ≤ 9223372036854775807) (ht : title.length ≤ 100000) :
    furnish_Expand.f K s pg ps title = (furnish_Check.f K s).bind fun c => if c.2 = 0 then some ((Furn.walkF s).2.2.flatMap (Furn.said pg ps title), 0, 0) else some ([], c.1, c.2) := by
  unfold furnish_Expand.f
  rw [if_pos ⟨hp, hq, ht⟩]
theorem expand_bad (s : ByteArray) (K : Nat) (pg ps : Int) (title : List Int) (hp : -9223372036854775808 ≤ pg ∧ pg ≤ 9223372036854775807) (hq : -9223372036854775808 ≤ ps ∧ ps ≤ 9223372036854775807) (ht : title.length ≤ 100000)
    (a e : Int) (h : furnish_Check.f K s = some (a, e)) (he : e ≠ 0) : furnish_Expand.f K s pg ps title = some ([], a, e) := by
  rw [expand_gen s K pg ps title hp hq ht, h, Option.bind_some]
  exact if_neg he
theorem expand_ok (s : ByteArray) (K : Nat) (hK : 100000 ≤ K) (pg ps : Int) (title : List Int) (hp : -9223372036854775808 ≤ pg ∧ pg ≤ 9223372036854775807) (hq : -9223372036854775808 ≤ ps ∧ ps ≤ 9223372036854775807) (ht : title.length ≤ 100000)
    (h : s.size ≤ 4096) (m : List Int) (hv : ∀ c ∈ m, valid c) (hd : s.data.toList = enc m) (hT : (toks 0 0 m).2.1 = true) :
    furnish_Expand.f K s pg ps title = some ((toks 0 0 m).2.2.flatMap (saidL pg ps title), 0, 0) := by
  rw [expand_gen s K pg ps title hp hq ht, check_all s K hK h m hv hd, if_pos hT, Option.bind_some, walk_all s m hv hd]
  show some (((toks 0 0 m).2.2.map (fun p => (⟨(enc p).toArray⟩ : ByteArray))).flatMap (Furn.said pg ps title), (0 : Int), (0 : Int)) = _
  rw [said_all pg ps title _ (toks_piece m 0 0 hv)]
/-- A text: too long, broken, wrong in a bracket, or good. -/
theorem text_cases (s : ByteArray) (K : Nat) (hK : 100000 ≤ K) : (∃ a e, furnish_Check.f K s = some (a, e) ∧ e ≠ 0) ∨ (s.size ≤ 4096 ∧ ∃ m, (∀ c ∈ m, valid c) ∧ s.data.toList = enc m ∧ (toks 0 0 m).2.1 = true) := by
  by_cases h : s.size ≤ 4096
  · obtain ⟨m, rest, a, b, c⟩ := split_enc _ s.data.toList (Nat.le_refl _)
    rcases c with c | c
    · rw [c, List.append_nil] at a
      by_cases hT : (toks 0 0 m).2.1 = true
      · exact .inr ⟨h, m, b, a, hT⟩
      · refine .inl ⟨_, _, (check_all s K hK h m b a).trans (if_neg hT), by decide⟩
    · exact .inl ⟨_, _, check_part s K hK h m rest b a c, by decide⟩
  · exact .inl ⟨_, _, check_long s K (by omega), by decide⟩

end Go.Proofs.YtmcdcpejkldepaaDoor.PureFurnishSays
