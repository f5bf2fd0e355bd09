/- law21, the plain law: the program and the reference read UTF-8 alike. -/
import Derived.Lib.Bytes
import Derived.Test.YtenhfmlkdcfbbaaDoorPHyphenPointsx5
namespace Go.Proofs.YtenhfmlkdcfbbaaDoor.LawD
open Go.RowKit Go.Proofs.YtenhfmlkdcfbbaaDoor.PHyphenPoints Go.Proofs.YtenhfmlkdcfbbaaDoorW.PrintWords Go.Proofs.YtenhfmlkdcfbbaaDoorW.PrintLast Go.Proofs.YtenhfmlkdcfbbaaDoorW.PrintMore
set_option linter.unusedVariables false
theorem w_in {e : Int} (h : -9223372036854775808 ≤ e ∧ e ≤ 9223372036854775807) : wrap64 e = e := by unfold wrap64; omega
def gb (s : ByteArray) (i : Nat) : Nat := (s.get! i).toNat
theorem gb_lt (s : ByteArray) (i : Nat) : gb s i < 256 := UInt8.toNat_lt _
theorem bt_gb (s : ByteArray) (i : Nat) : bt s (i : Int) = (gb s i : Int) := by
  unfold bt gb
  rw [Int.toNat_natCast]
  have hs : s.size = s.data.size := rfl
  split
  · rename_i h
    have e : s.get! i = s[i]'h := by
      show s.data[i]! = s.data[i]
      rw [getElem!_pos]
    rw [e]
  · rename_i h
    have e : s.get! i = 0 := by
      show s.data[i]! = 0
      rw [getElem!_neg _ _ (by omega)]
      rfl
    rw [e]
    rfl
theorem get_ext (s : ByteArray) (pos k : Nat) : (s.extract pos s.size).get! k = s.get! (pos + k) := by
  have hd : (s.extract pos s.size).data = s.data.extract pos s.size := ByteArray.data_extract
  show (s.extract pos s.size).data[k]! = s.data[pos + k]!
  rw [hd]
  simp only [getElem!_def, Array.getElem?_extract]
  have hs : s.size = s.data.size := rfl
  by_cases h : k < min s.size s.data.size - pos
  · rw [if_pos h]
  · rw [if_neg h]
    have : s.data[pos + k]? = none := by
      apply Array.getElem?_eq_none
      rw [hs, Nat.min_self] at h
      omega
    rw [this]
def dec (s : ByteArray) (n : Nat) : Nat × Nat := Lib.decodeN (s.size - n) (gb s n) (gb s (n + 1)) (gb s (n + 2)) (gb s (n + 3))
theorem decode_f (s : ByteArray) (n : Nat) (h : n < s.size) : utf8_DecodeRuneInString.f (s.extract n s.size) = some (((dec s n).1 : Int), ((dec s n).2 : Int)) := by
  have hz : (s.extract n s.size).size = s.size - n := by simp [ByteArray.size_extract]
  have e : Lib.decodeGo (s.extract n s.size) = dec s n := by
    unfold Lib.decodeGo dec gb
    rw [if_neg (by omega), Lib.decode_at, hz]
    simp only [get_ext, Nat.sub_zero, Nat.add_zero, Nat.zero_add]
  unfold utf8_DecodeRuneInString.f
  rw [e]
def isN (c : Nat) : Prop := c < 55296 ∨ (57344 ≤ c ∧ c ≤ 1114111)
set_option maxHeartbeats 4000000 in
theorem dec_bad0 (s : ByteArray) (n : Nat) (h : (128 ≤ gb s n ∧ gb s n < 192) ∨ 248 ≤ gb s n) : dec s n = (65533, 1) := by
  have hb0 := gb_lt s n
  unfold dec Lib.decodeN
  repeat' split
  all_goals first | rfl | (exfalso; omega)
set_option maxHeartbeats 4000000 in
theorem dec_1 (s : ByteArray) (n : Nat) (h : gb s n < 128) : dec s n = (gb s n, 1) := by
  unfold dec Lib.decodeN
  rw [if_pos h]
set_option maxHeartbeats 4000000 in
theorem dec_2b (s : ByteArray) (n : Nat) (h : 192 ≤ gb s n ∧ gb s n < 224) (h1 : ¬ (n + 2 ≤ s.size ∧ 128 ≤ gb s (n + 1) ∧ gb s (n + 1) < 192 ∧ 194 ≤ gb s n)) : dec s n = (65533, 1) := by
  unfold dec Lib.decodeN
  repeat' split
  all_goals first | rfl | (exfalso; omega)
set_option maxHeartbeats 4000000 in
theorem dec_2g (s : ByteArray) (n : Nat) (h : 194 ≤ gb s n ∧ gb s n < 224) (h1 : n + 2 ≤ s.size ∧ 128 ≤ gb s (n + 1) ∧ gb s (n + 1) < 192) : dec s n = ((gb s n - 192) * 64 + gb s (n + 1) - 128, 2) := by
  unfold dec Lib.decodeN
  repeat' split
  all_goals first | (exfalso; omega) | (apply Prod.ext <;> simp only <;> omega)
def c3 (s : ByteArray) (n : Nat) : Nat := ((gb s n - 224) * 64 + gb s (n + 1) - 128) * 64 + gb s (n + 2) - 128
def c4 (s : ByteArray) (n : Nat) : Nat := (((gb s n - 240) * 64 + gb s (n + 1) - 128) * 64 + gb s (n + 2) - 128) * 64 + gb s (n + 3) - 128
set_option maxHeartbeats 8000000 in
theorem dec_3b (s : ByteArray) (n : Nat) (h : 224 ≤ gb s n ∧ gb s n < 240) (h1 : ¬ (n + 3 ≤ s.size ∧ 128 ≤ gb s (n + 1) ∧ gb s (n + 1) < 192 ∧ 128 ≤ gb s (n + 2) ∧ gb s (n + 2) < 192 ∧ 2048 ≤ c3 s n ∧ isN (c3 s n))) : dec s n = (65533, 1) := by
  unfold isN c3 at h1
  unfold dec Lib.decodeN
  repeat' split
  all_goals first | rfl | (exfalso; omega)
set_option maxHeartbeats 8000000 in
theorem dec_3g (s : ByteArray) (n : Nat) (h : 224 ≤ gb s n ∧ gb s n < 240) (h1 : n + 3 ≤ s.size ∧ 128 ≤ gb s (n + 1) ∧ gb s (n + 1) < 192 ∧ 128 ≤ gb s (n + 2) ∧ gb s (n + 2) < 192 ∧ 2048 ≤ c3 s n ∧ isN (c3 s n)) : dec s n = (c3 s n, 3) := by
  unfold isN c3 at h1
  unfold dec Lib.decodeN c3
  repeat' split
  all_goals first | (exfalso; omega) | (apply Prod.ext <;> simp only <;> omega)
set_option maxHeartbeats 8000000 in
theorem dec_4b (s : ByteArray) (n : Nat) (h : 240 ≤ gb s n ∧ gb s n < 248) (h1 : ¬ (n + 4 ≤ s.size ∧ 128 ≤ gb s (n + 1) ∧ gb s (n + 1) < 192 ∧ 128 ≤ gb s (n + 2) ∧ gb s (n + 2) < 192 ∧ 128 ≤ gb s (n + 3) ∧ gb s (n + 3) < 192 ∧ 65536 ≤ c4 s n ∧ isN (c4 s n))) : dec s n = (65533, 1) := by
  unfold isN c4 at h1
  unfold dec Lib.decodeN
  repeat' split
  all_goals first | rfl | (exfalso; omega)
set_option maxHeartbeats 8000000 in
theorem dec_4g (s : ByteArray) (n : Nat) (h : 240 ≤ gb s n ∧ gb s n < 248) (h1 : n + 4 ≤ s.size ∧ 128 ≤ gb s (n + 1) ∧ gb s (n + 1) < 192 ∧ 128 ≤ gb s (n + 2) ∧ gb s (n + 2) < 192 ∧ 128 ≤ gb s (n + 3) ∧ gb s (n + 3) < 192 ∧ 65536 ≤ c4 s n ∧ isN (c4 s n)) : dec s n = (c4 s n, 4) := by
  unfold isN c4 at h1
  unfold dec Lib.decodeN c4
  repeat' split
  all_goals first | (exfalso; omega) | (apply Prod.ext <;> simp only <;> omega)
def leadN (b : Nat) : Nat × Nat :=
  if b < 128 then (1, b) else if b < 192 then (0, 0) else if b < 224 then (2, b - 192) else if b < 240 then (3, b - 224) else if b < 248 then (4, b - 240) else (0, 0)
theorem lead_f (k b : Nat) (hb : b < 256) : colophonref04_lead.f (k + 2) (b : Int) = some (((leadN b).1 : Int), ((leadN b).2 : Int)) := by
  have h2 : wrap64 (b : Int) = b := w_in (by omega)
  unfold colophonref04_lead.f leadN
  rw [h2]
  by_cases h1 : b < 128
  · rw [if_pos (by omega), if_pos h1]
    rfl
  · rw [if_neg (by omega), if_neg h1]
    by_cases h3 : b < 192
    · rw [if_neg (by omega), if_pos h3, colophonref04_lead.j0, if_neg (by decide), if_neg (by omega), colophonref04_lead.j1, if_neg (by decide), if_neg (by omega)]
      rfl
    · rw [if_pos (by omega), if_neg h3, colophonref04_lead.j0, h2]
      by_cases h4 : b < 224
      · rw [if_pos (decide_eq_true (by omega)), if_pos h4, w_in (by omega)]
        simp only [Option.some.injEq, Prod.mk.injEq]
        exact ⟨rfl, by omega⟩
      · rw [if_neg (by simp; omega), if_neg h4, if_pos (by omega), colophonref04_lead.j1, h2]
        by_cases h5 : b < 240
        · rw [if_pos (decide_eq_true (by omega)), if_pos h5, w_in (by omega)]
          simp only [Option.some.injEq, Prod.mk.injEq]
          exact ⟨rfl, by omega⟩
        · rw [if_neg (by simp; omega), if_neg h5, if_pos (by omega)]
          by_cases h6 : b < 248
          · rw [if_pos (by omega), if_pos h6, w_in (by omega)]
            simp only [Option.some.injEq, Prod.mk.injEq]
            exact ⟨rfl, by omega⟩
          · rw [if_neg (by omega), if_neg h6]
            rfl
theorem is_f (c : Nat) : ∃ b, colophonref04_Is.f (c : Int) = some b ∧ (b = true ↔ isN c) := by
  unfold colophonref04_Is.f isN
  rw [if_pos (by omega)]
  by_cases h1 : c ≤ 1114111
  · rw [if_pos (by omega)]
    by_cases h2 : c < 55296
    · rw [if_pos (by omega)]
      exact ⟨_, rfl, by simp; omega⟩
    · rw [if_neg (by omega)]
      exact ⟨_, rfl, by simp; omega⟩
  · rw [if_neg (by omega)]
    exact ⟨_, rfl, by simp; omega⟩
def oneL (c : Nat) : List Int :=
  if c < 128 then [(c : Int)] else if c < 2048 then [192 + (c / 64 : Nat), 128 + (c % 64 : Nat)]
  else if c < 65536 then [224 + (c / 4096 : Nat), 128 + (c / 64 % 64 : Nat), 128 + (c % 64 : Nat)]
  else [240 + (c / 262144 : Nat), 128 + (c / 4096 % 64 : Nat), 128 + (c / 64 % 64 : Nat), 128 + (c % 64 : Nat)]
theorem tdiv_n (a b : Nat) : Int.tdiv (a : Int) (b : Int) = ((a / b : Nat) : Int) := rfl
theorem tmod_n (a b : Nat) : Int.tmod (a : Int) (b : Int) = ((a % b : Nat) : Int) := rfl
theorem one_f (c : Nat) (hc : c < 4194304) : colophonref04_one.f (c : Int) = some (strOfNums (oneL c)) := by
  have t1 : Int.tdiv (c : Int) 64 = ((c / 64 : Nat) : Int) := tdiv_n c 64
  have t2 : Int.tdiv (c : Int) 4096 = ((c / 4096 : Nat) : Int) := tdiv_n c 4096
  have t3 : Int.tdiv (c : Int) 262144 = ((c / 262144 : Nat) : Int) := tdiv_n c 262144
  have m1 : Int.tmod (c : Int) 64 = ((c % 64 : Nat) : Int) := tmod_n c 64
  have m2 : Int.tmod ((c / 64 : Nat) : Int) 64 = ((c / 64 % 64 : Nat) : Int) := tmod_n _ 64
  have m3 : Int.tmod ((c / 4096 : Nat) : Int) 64 = ((c / 4096 % 64 : Nat) : Int) := tmod_n _ 64
  unfold colophonref04_one.f oneL
  rw [t1, t2, t3, m1, w_in (e := ((c / 64 : Nat) : Int)) (by omega), w_in (e := ((c / 4096 : Nat) : Int)) (by omega), w_in (e := ((c / 262144 : Nat) : Int)) (by omega), m2, m3]
  by_cases h1 : c < 128
  · rw [if_pos (by omega), if_pos h1, Int.emod_eq_of_lt (by omega) (by omega)]
  · rw [if_neg (by omega), if_neg h1]
    by_cases h2 : c < 2048
    · rw [if_pos (by omega), if_pos h2, w_in (by omega), w_in (by omega), Int.emod_eq_of_lt (by omega) (by omega), Int.emod_eq_of_lt (by omega) (by omega)]
    · rw [if_neg (by omega), if_neg h2]
      by_cases h3 : c < 65536
      · rw [if_pos (by omega), if_pos h3, w_in (by omega), w_in (by omega), w_in (by omega), Int.emod_eq_of_lt (by omega) (by omega), Int.emod_eq_of_lt (by omega) (by omega), Int.emod_eq_of_lt (by omega) (by omega)]
      · rw [if_neg (by omega), if_neg h3, w_in (by omega), w_in (by omega), w_in (by omega), w_in (by omega), Int.emod_eq_of_lt (by omega) (by omega), Int.emod_eq_of_lt (by omega) (by omega), Int.emod_eq_of_lt (by omega) (by omega), Int.emod_eq_of_lt (by omega) (by omega)]
def cutL (s : ByteArray) (n : Nat) : Nat → List UInt8
  | 0 => []
  | w + 1 => s.get! n :: cutL s (n + 1) w
theorem cutL_length (s : ByteArray) : ∀ (w n : Nat), (cutL s n w).length = w := by
  intro w
  induction w with
  | zero => intro n; rfl
  | succ w ih => intro n; simp [cutL, ih]
theorem cut_eq (s : ByteArray) : ∀ (w n : Nat), n + w ≤ s.size → (s.extract n (n + w)).toList = cutL s n w := by
  intro w n h
  have hs : s.size = s.data.size := rfl
  rw [Lib.toList_data]
  apply List.ext_getElem
  · rw [cutL_length, Array.length_toList, ByteArray.data_extract, Array.size_extract]
    omega
  · intro i h1 h2
    have hc : ∀ (w n i : Nat) (h : i < (cutL s n w).length), (cutL s n w)[i] = s.get! (n + i) := by
      intro w
      induction w with
      | zero => intro n i h; simp [cutL] at h
      | succ w ih =>
        intro n i h
        cases i with
        | zero => rfl
        | succ i => simp only [cutL, List.getElem_cons_succ]; rw [ih]; congr 1; omega
    rw [hc]
    rw [cutL_length] at h2
    simp only [ByteArray.data_extract, Array.getElem_toList, Array.getElem_extract]
    show s.data[n + i] = s.data[n + i]!
    rw [getElem!_pos]
theorem u8_of (x : Int) (b : UInt8) (h : x = (b.toNat : Int)) : UInt8.ofNat x.toNat = b := by
  subst h
  simp
theorem l1_step (k : Nat) (s : ByteArray) (x : List Int) (n w c i : Nat) (hs : s.size ≤ 65536) (hi : i < w) (h : n + i < s.size) (hc : c < 1048576) :
    colophonref04_Decode.l1 (k + 1) s x n w c i = if gb s (n + i) < 128 ∨ 191 < gb s (n + i) then some ([], (n : Int), 40) else colophonref04_Decode.l1 k s x n w ((c * 64 + gb s (n + i) - 128 : Nat) : Int) ((i + 1 : Nat) : Int) := by
  have hb := gb_lt s (n + i)
  have e1 : wrap64 ((n : Int) + (i : Int)) = ((n + i : Nat) : Int) := by rw [w_in (by omega)]; omega
  rw [colophonref04_Decode.l1, e1, bt_gb, if_pos (by omega), if_pos (by omega), if_pos (by omega)]
  by_cases h1 : gb s (n + i) < 128
  · rw [if_pos (by omega), if_pos (.inl h1)]
  · rw [if_neg (by omega)]
    by_cases h2 : 191 < gb s (n + i)
    · rw [if_pos (by omega), if_pos (.inr h2)]
    · rw [if_neg (by omega), if_neg (by omega)]
      have e2 : wrap64 (wrap64 (wrap64 ((c : Int) * 64) + wrap64 (gb s (n + i) : Int)) - 128) = ((c * 64 + gb s (n + i) - 128 : Nat) : Int) := by
        rw [w_in (e := (c : Int) * 64) (by omega), w_in (e := (gb s (n + i) : Int)) (by omega), w_in (e := (c : Int) * 64 + _) (by omega), w_in (by omega)]
        omega
      have e3 : wrap64 ((i : Int) + 1) = ((i + 1 : Nat) : Int) := by rw [w_in (by omega)]; omega
      rw [e2, e3]
theorem l1_end (k : Nat) (s : ByteArray) (x : List Int) (n w c : Nat) (hs : s.size ≤ 65536) (h : n + w ≤ s.size) (hc : c < 4194304) (hx : x.length ≤ 65536) :
    (isN c ∧ Lib.bytesOf (oneL c) = cutL s n w → colophonref04_Decode.l1 (k + 1) s x n w c w = colophonref04_Decode.l0 k s (x ++ [(c : Int)]) ((n + w : Nat) : Int)) ∧
    (¬ (isN c ∧ Lib.bytesOf (oneL c) = cutL s n w) → colophonref04_Decode.l1 (k + 1) s x n w c w = some ([], (n : Int), 40)) := by
  obtain ⟨b, hb, hbi⟩ := is_f c
  have e1 : wrap64 ((n : Int) + (w : Int)) = ((n + w : Nat) : Int) := by rw [w_in (by omega)]; omega
  have c1 : (0 : Int) ≤ (n : Int) := by omega
  have c2 : (n : Int) ≤ ((n + w : Nat) : Int) := by omega
  have c3 : ((n + w : Nat) : Int) ≤ (s.size : Int) := by omega
  have c4 : x.length < 17592186044416 := by omega
  rw [colophonref04_Decode.l1, if_neg (by omega), hb, Option.bind_some, e1, one_f c hc, Option.bind_some, if_pos c1, if_pos c2, if_pos c3, Int.toNat_natCast, Int.toNat_natCast, cut_eq s w n h, Lib.strOfNums_toList, if_pos c4]
  constructor
  · intro ⟨h1, h2⟩
    rw [if_pos (hbi.2 h1), if_pos h2]
  · intro hn
    by_cases h1 : b = true
    · rw [if_pos h1, if_neg (fun h2 => hn ⟨hbi.1 h1, h2⟩)]
    · rw [if_neg h1]
theorem one_len (c : Nat) : (Lib.bytesOf (oneL c)).length = if c < 128 then 1 else if c < 2048 then 2 else if c < 65536 then 3 else 4 := by
  rw [Lib.bytesOf_length]
  unfold oneL
  repeat' split
  all_goals rfl
theorem one_ne (c w : Nat) (s : ByteArray) (n : Nat) (h : (if c < 128 then 1 else if c < 2048 then 2 else if c < 65536 then 3 else 4) ≠ w) : Lib.bytesOf (oneL c) ≠ cutL s n w := by
  intro e
  have := congrArg List.length e
  rw [one_len, cutL_length] at this
  exact h this
theorem j1_f (k : Nat) (s : ByteArray) (x : List Int) (n w c : Nat) (b : Bool) :
    colophonref04_Decode.j1 (k + 1) s x n w c b = if b = true then some ([], (n : Int), 40) else colophonref04_Decode.l1 k s x n w c 1 := by rw [colophonref04_Decode.j1]
theorem l0_f (k : Nat) (s : ByteArray) (x : List Int) (n w c : Nat) (hs : s.size ≤ 65536) (h : n < s.size) (hl : leadN (gb s n) = (w, c)) (hw : w ≤ 4) :
    colophonref04_Decode.l0 (k + 8) s x n = if w = 0 ∨ s.size < n + w then some ([], (n : Int), 40) else colophonref04_Decode.l1 (k + 6) s x n w c ((1 : Nat) : Int) := by
  have e1 : wrap64 ((n : Int) + (w : Int)) = ((n + w : Nat) : Int) := by rw [w_in (by omega)]; omega
  rw [colophonref04_Decode.l0, if_pos (by omega), if_pos (by omega), bt_gb, lead_f (k + 5) _ (gb_lt s n), Option.bind_some, hl]
  show (if (w : Int) = 0 then colophonref04_Decode.j1 (k + 7) s x n w c true else colophonref04_Decode.j1 (k + 7) s x n w c (decide (wrap64 ((n : Int) + (w : Int)) > (s.size : Int)))) = _
  rw [e1, j1_f, j1_f, if_pos rfl]
  by_cases h1 : w = 0
  · rw [if_pos (by omega), if_pos (.inl h1)]
  · rw [if_neg (by omega)]
    by_cases h2 : s.size < n + w
    · rw [if_pos (decide_eq_true (by omega)), if_pos (.inr h2)]
    · have e3 : ((1 : Nat) : Int) = 1 := rfl
      rw [if_neg (by simp; omega), if_neg (by omega), e3]
def bad (s : ByteArray) (n : Nat) : Prop := dec s n = (65533, 1)
theorem one1 (s : ByteArray) (n c : Nat) (hc : c < 128) (h : c = gb s n) : Lib.bytesOf (oneL c) = cutL s n 1 := by
  unfold oneL
  rw [if_pos hc]
  simp only [Lib.bytesOf, List.map_cons, List.map_nil, cutL]
  rw [u8_of (c : Int) (s.get! n) (by unfold gb at h; omega)]
theorem one2 (s : ByteArray) (n c : Nat) (hc : ¬ c < 128) (hc2 : c < 2048) (h0 : 192 + c / 64 = gb s n) (h1 : 128 + c % 64 = gb s (n + 1)) : Lib.bytesOf (oneL c) = cutL s n 2 := by
  unfold oneL
  rw [if_neg hc, if_pos hc2]
  simp only [Lib.bytesOf, List.map_cons, List.map_nil, cutL]
  rw [u8_of _ (s.get! n) (by unfold gb at h0; omega), u8_of _ (s.get! (n + 1)) (by unfold gb at h1; omega)]
theorem one3 (s : ByteArray) (n c : Nat) (hc : ¬ c < 2048) (hc2 : c < 65536) (h0 : 224 + c / 4096 = gb s n) (h1 : 128 + c / 64 % 64 = gb s (n + 1)) (h2 : 128 + c % 64 = gb s (n + 2)) :
    Lib.bytesOf (oneL c) = cutL s n 3 := by
  unfold oneL
  rw [if_neg (by omega), if_neg hc, if_pos hc2]
  simp only [Lib.bytesOf, List.map_cons, List.map_nil, cutL]
  rw [u8_of _ (s.get! n) (by unfold gb at h0; omega), u8_of _ (s.get! (n + 1)) (by unfold gb at h1; omega), u8_of _ (s.get! (n + 1 + 1)) (by have h2' : _ = (s.get! (n + 1 + 1)).toNat := h2; omega)]
theorem one4 (s : ByteArray) (n c : Nat) (hc : ¬ c < 65536) (h0 : 240 + c / 262144 = gb s n) (h1 : 128 + c / 4096 % 64 = gb s (n + 1)) (h2 : 128 + c / 64 % 64 = gb s (n + 2)) (h3 : 128 + c % 64 = gb s (n + 3)) :
    Lib.bytesOf (oneL c) = cutL s n 4 := by
  unfold oneL
  rw [if_neg (by omega), if_neg (by omega), if_neg hc]
  simp only [Lib.bytesOf, List.map_cons, List.map_nil, cutL]
  rw [u8_of _ (s.get! n) (by unfold gb at h0; omega), u8_of _ (s.get! (n + 1)) (by unfold gb at h1; omega), u8_of _ (s.get! (n + 1 + 1)) (by have h2' : _ = (s.get! (n + 1 + 1)).toNat := h2; omega), u8_of _ (s.get! (n + 1 + 1 + 1)) (by have h3' : _ = (s.get! (n + 1 + 1 + 1)).toNat := h3; omega)]
def Told (k : Nat) (s : ByteArray) (x : List Int) (n : Nat) (v : Option (List Int × Int × Int)) : Prop :=
  (dec s n = (65533, 1) ∧ v = some ([], (n : Int), 40)) ∨
    (dec s n ≠ (65533, 1) ∧ 1 ≤ (dec s n).2 ∧ n + (dec s n).2 ≤ s.size ∧ (dec s n).1 < 4194304 ∧ ∃ k', k ≤ k' ∧ v = colophonref04_Decode.l0 k' s (x ++ [((dec s n).1 : Int)]) ((n + (dec s n).2 : Nat) : Int))
set_option maxHeartbeats 4000000 in
theorem told_end (k : Nat) (s : ByteArray) (x : List Int) (n w c : Nat) (hs : s.size ≤ 65536) (h : n + w ≤ s.size) (hc : c < 4194304) (hx : x.length ≤ 65536) (hw : 1 ≤ w)
    (hG : isN c ∧ Lib.bytesOf (oneL c) = cutL s n w → dec s n = (c, w) ∧ ¬ (c = 65533 ∧ w = 1)) (hB : ¬ (isN c ∧ Lib.bytesOf (oneL c) = cutL s n w) → dec s n = (65533, 1)) :
    Told k s x n (colophonref04_Decode.l1 (k + 1) s x n w c w) := by
  obtain ⟨q1, q2⟩ := l1_end k s x n w c hs h hc hx
  by_cases hg : isN c ∧ Lib.bytesOf (oneL c) = cutL s n w
  · obtain ⟨e, hne⟩ := hG hg
    refine .inr ?_
    rw [e]
    exact ⟨fun e => hne (by simpa using e), hw, h, hc, k, Nat.le_refl _, q1 hg⟩
  · exact .inl ⟨hB hg, q2 hg⟩
theorem not_one (s : ByteArray) (n c w : Nat) (h : (if c < 128 then 1 else if c < 2048 then 2 else if c < 65536 then 3 else 4) ≠ w) : ¬ (isN c ∧ Lib.bytesOf (oneL c) = cutL s n w) := fun hg => one_ne c w s n h hg.2
set_option maxHeartbeats 8000000 in
theorem ref_step (k : Nat) (s : ByteArray) (x : List Int) (n : Nat) (hs : s.size ≤ 65536) (h : n < s.size) (hx : x.length ≤ 65536) : Told k s x n (colophonref04_Decode.l0 (k + 8) s x n) := by
  have up : ∀ {k' v}, k ≤ k' → Told k' s x n v → Told k s x n v := by
    intro k' v hk ht
    rcases ht with ht | ⟨h1, h2, h3, h4, k2, h5, h6⟩
    · exact .inl ht
    · exact .inr ⟨h1, h2, h3, h4, k2, by omega, h6⟩
  by_cases p1 : gb s n < 128
  · rw [l0_f k s x n 1 (gb s n) hs h (by unfold leadN; rw [if_pos p1]) (by omega), if_neg (by omega)]
    exact up (k' := k + 5) (by omega) (told_end (k + 5) s x n 1 _ hs (by omega) (by omega) hx (by omega) (fun _ => ⟨dec_1 s n p1, by omega⟩) (fun hn => absurd ⟨show isN (gb s n) from .inl (by omega), one1 s n _ p1 rfl⟩ hn))
  by_cases p2 : gb s n < 192
  · rw [l0_f k s x n 0 0 hs h (by unfold leadN; rw [if_neg p1, if_pos p2]) (by omega), if_pos (.inl rfl)]
    exact .inl ⟨dec_bad0 s n (by omega), rfl⟩
  by_cases p3 : gb s n < 224
  · rw [l0_f k s x n 2 (gb s n - 192) hs h (by unfold leadN; rw [if_neg p1, if_neg p2, if_pos p3]) (by omega)]
    by_cases q : s.size < n + 2
    · rw [if_pos (.inr q)]
      exact .inl ⟨dec_2b s n (by omega) (by omega), rfl⟩
    rw [if_neg (by omega), l1_step (k + 5) s x n 2 _ 1 hs (by omega) (by omega) (by omega)]
    by_cases r1 : gb s (n + 1) < 128 ∨ 191 < gb s (n + 1)
    · rw [if_pos r1]
      exact .inl ⟨dec_2b s n (by omega) (by omega), rfl⟩
    rw [if_neg r1]
    refine up (k' := k + 4) (by omega) (told_end (k + 4) s x n 2 _ hs (by omega) (by omega) hx (by omega) (fun hg => ?_) (fun hn => ?_))
    · by_cases r2 : 194 ≤ gb s n
      · exact ⟨dec_2g s n ⟨r2, p3⟩ (by omega), by omega⟩
      · exact absurd hg (not_one s n _ 2 (by rw [if_pos (by omega)]; omega))
    · by_cases r2 : 194 ≤ gb s n
      · exact absurd ⟨show isN _ from .inl (by omega), one2 s n _ (by omega) (by omega) (by omega) (by omega)⟩ hn
      · exact dec_2b s n (by omega) (by omega)
  by_cases p4 : gb s n < 240
  · rw [l0_f k s x n 3 (gb s n - 224) hs h (by unfold leadN; rw [if_neg p1, if_neg p2, if_neg p3, if_pos p4]) (by omega)]
    by_cases q : s.size < n + 3
    · rw [if_pos (.inr q)]
      exact .inl ⟨dec_3b s n (by omega) (fun hh => by omega), rfl⟩
    rw [if_neg (by omega), l1_step (k + 5) s x n 3 _ 1 hs (by omega) (by omega) (by omega)]
    by_cases r1 : gb s (n + 1) < 128 ∨ 191 < gb s (n + 1)
    · rw [if_pos r1]
      exact .inl ⟨dec_3b s n (by omega) (fun hh => by omega), rfl⟩
    rw [if_neg r1, l1_step (k + 4) s x n 3 _ 2 hs (by omega) (by omega) (by omega)]
    by_cases r2 : gb s (n + 2) < 128 ∨ 191 < gb s (n + 2)
    · rw [if_pos r2]
      exact .inl ⟨dec_3b s n (by omega) (fun hh => by omega), rfl⟩
    rw [if_neg r2]
    have hc : ((gb s n - 224) * 64 + gb s (n + 1) - 128) * 64 + gb s (n + 2) - 128 = c3 s n := rfl
    have hl : c3 s n < 65536 := by unfold c3; omega
    rw [hc]
    refine up (k' := k + 3) (by omega) (told_end (k + 3) s x n 3 _ hs (by omega) (by omega) hx (by omega) (fun hg => ?_) (fun hn => ?_))
    · by_cases r3 : 2048 ≤ c3 s n
      · exact ⟨dec_3g s n (by omega) ⟨by omega, by omega, by omega, by omega, by omega, r3, hg.1⟩, by omega⟩
      · exact absurd hg (not_one s n _ 3 (by split <;> (first | omega | (rw [if_pos (by omega)]; omega))))
    · refine dec_3b s n (by omega) (fun hh => hn ⟨hh.2.2.2.2.2.2, ?_⟩)
      have hh' := hh.2.2.2.2.2.1
      refine one3 s n _ (by omega) hl ?_ ?_ ?_ <;> unfold c3 <;> omega
  by_cases p5 : gb s n < 248
  · rw [l0_f k s x n 4 (gb s n - 240) hs h (by unfold leadN; rw [if_neg p1, if_neg p2, if_neg p3, if_neg p4, if_pos p5]) (by omega)]
    by_cases q : s.size < n + 4
    · rw [if_pos (.inr q)]
      exact .inl ⟨dec_4b s n (by omega) (fun hh => by omega), rfl⟩
    rw [if_neg (by omega), l1_step (k + 5) s x n 4 _ 1 hs (by omega) (by omega) (by omega)]
    by_cases r1 : gb s (n + 1) < 128 ∨ 191 < gb s (n + 1)
    · rw [if_pos r1]
      exact .inl ⟨dec_4b s n (by omega) (fun hh => by omega), rfl⟩
    rw [if_neg r1, l1_step (k + 4) s x n 4 _ 2 hs (by omega) (by omega) (by omega)]
    by_cases r2 : gb s (n + 2) < 128 ∨ 191 < gb s (n + 2)
    · rw [if_pos r2]
      exact .inl ⟨dec_4b s n (by omega) (fun hh => by omega), rfl⟩
    rw [if_neg r2, l1_step (k + 3) s x n 4 _ 3 hs (by omega) (by omega) (by omega)]
    by_cases r3 : gb s (n + 3) < 128 ∨ 191 < gb s (n + 3)
    · rw [if_pos r3]
      exact .inl ⟨dec_4b s n (by omega) (fun hh => by omega), rfl⟩
    rw [if_neg r3]
    have hc : (((gb s n - 240) * 64 + gb s (n + 1) - 128) * 64 + gb s (n + 2) - 128) * 64 + gb s (n + 3) - 128 = c4 s n := rfl
    have hl : c4 s n < 4194304 := by unfold c4; omega
    rw [hc]
    refine up (k' := k + 2) (by omega) (told_end (k + 2) s x n 4 _ hs (by omega) hl hx (by omega) (fun hg => ?_) (fun hn => ?_))
    · by_cases r4 : 65536 ≤ c4 s n
      · exact ⟨dec_4g s n (by omega) ⟨by omega, by omega, by omega, by omega, by omega, by omega, by omega, r4, hg.1⟩, by omega⟩
      · exact absurd hg (not_one s n _ 4 (by repeat' split
                                             all_goals omega))
    · refine dec_4b s n (by omega) (fun hh => hn ⟨hh.2.2.2.2.2.2.2.2, ?_⟩)
      have hh' := hh.2.2.2.2.2.2.2.1
      refine one4 s n _ (by omega) ?_ ?_ ?_ ?_ <;> unfold c4 <;> omega
  · rw [l0_f k s x n 0 0 hs h (by unfold leadN; rw [if_neg p1, if_neg p2, if_neg p3, if_neg p4, if_neg p5]) (by omega), if_pos (.inl rfl)]
    exact .inl ⟨dec_bad0 s n (by omega), rfl⟩
theorem prod_ne {a : Nat × Nat} (h : a ≠ (65533, 1)) : ¬ ((a.1 : Int) = 65533 ∧ (a.2 : Int) = 1) := by
  obtain ⟨p, q⟩ := a
  intro ⟨h1, h2⟩
  have q1 : p = 65533 := Int.ofNat.inj h1
  have q2 : q = 1 := Int.ofNat.inj h2
  exact h (by rw [q1, q2])
theorem prod_eq {a : Nat × Nat} (h : a = (65533, 1)) : (a.1 : Int) = 65533 ∧ (a.2 : Int) = 1 := by
  subst h
  exact ⟨rfl, rfl⟩
theorem prog_err (k n : Nat) (s : ByteArray) (x : List Int) (hlt : n < s.size) (h : dec s n = (65533, 1)) : utf_Decode.l0 (k + 1) s x n = some ([], (n : Int), 40) := by
  obtain ⟨g1, g2⟩ := prod_eq h
  have c1 : (n : Int) < (s.size : Int) := by omega
  have c2 : (0 : Int) ≤ (n : Int) := by omega
  have c3 : (n : Int) ≤ (s.size : Int) := by omega
  rw [utf_Decode.l0, if_pos c1, if_pos c2, if_pos c3, Int.toNat_natCast, decode_f s n hlt, Option.bind_some, if_pos g1, if_pos g2]
theorem prog_step (k n : Nat) (s : ByteArray) (x : List Int) (hs : s.size ≤ 65536) (hlt : n < s.size) (hx : x.length ≤ 65536) (h : dec s n ≠ (65533, 1)) (h3 : n + (dec s n).2 ≤ s.size) (h4 : (dec s n).1 < 4194304) :
    utf_Decode.l0 (k + 1) s x n = utf_Decode.l0 k s (x ++ [((dec s n).1 : Int)]) ((n + (dec s n).2 : Nat) : Int) := by
  have g := prod_ne h
  have c1 : (n : Int) < (s.size : Int) := by omega
  have c2 : (0 : Int) ≤ (n : Int) := by omega
  have c3 : (n : Int) ≤ (s.size : Int) := by omega
  have c4 : x.length < 17592186044416 := by omega
  have e1 : wrap64 ((dec s n).1 : Int) = ((dec s n).1 : Int) := w_in (by omega)
  have e2 : wrap64 ((n : Int) + ((dec s n).2 : Int)) = ((n + (dec s n).2 : Nat) : Int) := by rw [w_in (by omega)]; omega
  rw [utf_Decode.l0, if_pos c1, if_pos c2, if_pos c3, Int.toNat_natCast, decode_f s n hlt, Option.bind_some]
  simp only [e1, e2, if_pos c4]
  by_cases g1 : ((dec s n).1 : Int) = 65533
  · by_cases g2 : ((dec s n).2 : Int) = 1
    · exact absurd ⟨g1, g2⟩ g
    · rw [if_pos g1, if_neg g2]
  · rw [if_neg g1]
theorem ends (k n : Nat) (s : ByteArray) (x : List Int) (h : n = s.size) : utf_Decode.l0 (k + 1) s x n = some (x, 0, 0) ∧ colophonref04_Decode.l0 (k + 1) s x n = some (x, 0, 0) := by
  have c1 : ¬ (n : Int) < (s.size : Int) := by omega
  constructor
  · rw [utf_Decode.l0, if_neg c1]
  · rw [colophonref04_Decode.l0, if_neg c1]
theorem both (s : ByteArray) (hs : s.size ≤ 65536) : ∀ (d k1 k2 n : Nat) (x : List Int), s.size - n = d → n ≤ s.size → x.length ≤ n → d < k1 → 8 * d + 1 ≤ k2 →
    ∃ r, utf_Decode.l0 k1 s x n = some r ∧ colophonref04_Decode.l0 k2 s x n = some r ∧ r.1.length ≤ s.size := by
  intro d
  induction d using Nat.strongRecOn with
  | ind d ih =>
    intro k1 k2 n x hd hn hx hk1 hk2
    obtain ⟨k1, rfl⟩ : ∃ m, k1 = m + 1 := ⟨k1 - 1, by omega⟩
    by_cases hlt : n < s.size
    · obtain ⟨k2, rfl⟩ : ∃ m, k2 = m + 8 := ⟨k2 - 8, by omega⟩
      rcases ref_step k2 s x n hs hlt (by omega) with ⟨h1, h2⟩ | ⟨h1, h2, h3, h4, k', h5, h6⟩
      · exact ⟨_, prog_err k1 n s x hlt h1, h2, Nat.zero_le _⟩
      · have hl : (x ++ [((dec s n).1 : Int)]).length ≤ n + (dec s n).2 := by rw [List.length_append, List.length_singleton]; omega
        obtain ⟨r, q1, q2, q3⟩ := ih (s.size - (n + (dec s n).2)) (by omega) k1 k' (n + (dec s n).2) (x ++ [((dec s n).1 : Int)]) rfl (by omega) hl (by omega) (by omega)
        exact ⟨r, (prog_step k1 n s x hs hlt (by omega) h1 h3 h4).trans q1, h6.trans q2, q3⟩
    · obtain ⟨k2, rfl⟩ : ∃ m, k2 = m + 1 := ⟨k2 - 1, by omega⟩
      obtain ⟨e1, e2⟩ := ends k1 n s x (by omega)
      obtain ⟨_, e3⟩ := ends k2 n s x (by omega)
      exact ⟨_, e1, e3, by show x.length ≤ s.size; omega⟩
end Go.Proofs.YtenhfmlkdcfbbaaDoor.LawD
