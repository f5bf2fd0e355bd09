/- For UtfDecodes: what the decoder hands back, by the first byte. -/
import Derived.Lib.Bytes
import Derived.Test.YtgehocejaipacaaDoorPUtfDecodesx4
namespace Go.Proofs.YtgehocejaipacaaDoor.PureUtfDecodes
open Go.RowKit Go.Proofs.YtgehocejaipacaaDoor.PUtfDecodes Go.Proofs.YtgehocejaipacaaDoorW.PrintWords Go.Proofs.YtgehocejaipacaaDoorW.PrintLast Go.Proofs.YtgehocejaipacaaDoorW.PrintMore
theorem w_in {e : Int} (h : -9223372036854775808 ≤ e ∧ e ≤ 9223372036854775807) : wrap64 e = e := by unfold wrap64; omega
theorem wakes_f : colophonlaw04_wakes.f 5 = some true := by decide +kernel

theorem wakes_k (k : Nat) (hk : 5 ≤ k) : colophonlaw04_wakes.f k = some true := at_rounds (g := fun k => colophonlaw04_wakes.f k) colophonlaw04_wakes.mono hk wakes_f
/-- A byte as a natural number (0 past the end). -/
def gb (s : ByteArray) (i : Nat) : Nat := (s.get! i).toNat
theorem gb_lt (s : ByteArray) (i : Nat) : gb s i < 256 := UInt8.toNat_lt _
theorem bt_gb (s : ByteArray) (i : Nat) : bt s (i : Int) = (gb s i : Int) := by
  unfold bt gb
  rw [Int.toNat_natCast]
  have hs : s.size = s.data.size := rfl
  split
  · rename_i h
    have e : s.get! i = s[i]'h := by
      show s.data[i]! = s.data[i]
      rw [getElem!_pos]
    rw [e]
  · rename_i h
    have e : s.get! i = 0 := by
      show s.data[i]! = 0
      rw [getElem!_neg _ _ (by omega)]
      rfl
    rw [e]
    rfl
theorem get_ext (s : ByteArray) (pos k : Nat) : (s.extract pos s.size).get! k = s.get! (pos + k) := by
  have hd : (s.extract pos s.size).data = s.data.extract pos s.size := ByteArray.data_extract
  show (s.extract pos s.size).data[k]! = s.data[pos + k]!
  rw [hd]
  simp only [getElem!_def, Array.getElem?_extract]
  have hs : s.size = s.data.size := rfl
  by_cases h : k < min s.size s.data.size - pos
  · rw [if_pos h]
  · rw [if_neg h]
    have : s.data[pos + k]? = none := by
      apply Array.getElem?_eq_none
      rw [hs, Nat.min_self] at h
      omega
    rw [this]
/-- What the program's decoder hands back at place n. -/
def dec (s : ByteArray) (n : Nat) : Nat × Nat := Lib.decodeN (s.size - n) (gb s n) (gb s (n + 1)) (gb s (n + 2)) (gb s (n + 3))
theorem decode_f (s : ByteArray) (n : Nat) (h : n < s.size) : utf8_DecodeRuneInString.f (s.extract n s.size) = some (((dec s n).1 : Int), ((dec s n).2 : Int)) := by
  have hz : (s.extract n s.size).size = s.size - n := by simp [ByteArray.size_extract]
  have e : Lib.decodeGo (s.extract n s.size) = dec s n := by
    unfold Lib.decodeGo dec gb
    rw [if_neg (by omega), Lib.decode_at, hz]
    simp only [get_ext, Nat.sub_zero, Nat.add_zero, Nat.zero_add]
  unfold utf8_DecodeRuneInString.f
  rw [e]
def isN (c : Nat) : Prop := c < 55296 ∨ (57344 ≤ c ∧ c ≤ 1114111)
set_option maxHeartbeats 4000000 in
theorem dec_bad0 (s : ByteArray) (n : Nat) (h : (128 ≤ gb s n ∧ gb s n < 192) ∨ 248 ≤ gb s n) : dec s n = (65533, 1) := by
  have hb0 := gb_lt s n
  unfold dec Lib.decodeN
  repeat' split
  all_goals first | rfl | (exfalso; omega)
set_option maxHeartbeats 4000000 in
theorem dec_1 (s : ByteArray) (n : Nat) (h : gb s n < 128) : dec s n = (gb s n, 1) := by
  unfold dec Lib.decodeN
  rw [if_pos h]
set_option maxHeartbeats 4000000 in
theorem dec_2b (s : ByteArray) (n : Nat) (h : 192 ≤ gb s n ∧ gb s n < 224) (h1 : ¬ (n + 2 ≤ s.size ∧ 128 ≤ gb s (n + 1) ∧ gb s (n + 1) < 192 ∧ 194 ≤ gb s n)) : dec s n = (65533, 1) := by
  unfold dec Lib.decodeN
  repeat' split
  all_goals first | rfl | (exfalso; omega)
set_option maxHeartbeats 4000000 in
theorem dec_2g (s : ByteArray) (n : Nat) (h : 194 ≤ gb s n ∧ gb s n < 224) (h1 : n + 2 ≤ s.size ∧ 128 ≤ gb s (n + 1) ∧ gb s (n + 1) < 192) : dec s n = ((gb s n - 192) * 64 + gb s (n + 1) - 128, 2) := by
  unfold dec Lib.decodeN
  repeat' split
  all_goals first | (exfalso; omega) | (apply Prod.ext <;> simp only <;> omega)
def c3 (s : ByteArray) (n : Nat) : Nat := ((gb s n - 224) * 64 + gb s (n + 1) - 128) * 64 + gb s (n + 2) - 128
def c4 (s : ByteArray) (n : Nat) : Nat := (((gb s n - 240) * 64 + gb s (n + 1) - 128) * 64 + gb s (n + 2) - 128) * 64 + gb s (n + 3) - 128
set_option maxHeartbeats 8000000 in
theorem dec_3b (s : ByteArray) (n : Nat) (h : 224 ≤ gb s n ∧ gb s n < 240) (h1 : ¬ (n + 3 ≤ s.size ∧ 128 ≤ gb s (n + 1) ∧ gb s (n + 1) < 192 ∧ 128 ≤ gb s (n + 2) ∧ gb s (n + 2) < 192 ∧ 2048 ≤ c3 s n ∧ isN (c3 s n))) : dec s n = (65533, 1) := by
  unfold isN c3 at h1
  unfold dec Lib.decodeN
  repeat' split
  all_goals first | rfl | (exfalso; omega)
set_option maxHeartbeats 8000000 in
theorem dec_3g (s : ByteArray) (n : Nat) (h : 224 ≤ gb s n ∧ gb s n < 240) (h1 : n + 3 ≤ s.size ∧ 128 ≤ gb s (n + 1) ∧ gb s (n + 1) < 192 ∧ 128 ≤ gb s (n + 2) ∧ gb s (n + 2) < 192 ∧ 2048 ≤ c3 s n ∧ isN (c3 s n)) : dec s n = (c3 s n, 3) := by
  unfold isN c3 at h1
  unfold dec Lib.decodeN c3
  repeat' split
  all_goals first | (exfalso; omega) | (apply Prod.ext <;> simp only <;> omega)
set_option maxHeartbeats 8000000 in
theorem dec_4b (s : ByteArray) (n : Nat) (h : 240 ≤ gb s n ∧ gb s n < 248) (h1 : ¬ (n + 4 ≤ s.size ∧ 128 ≤ gb s (n + 1) ∧ gb s (n + 1) < 192 ∧ 128 ≤ gb s (n + 2) ∧ gb s (n + 2) < 192 ∧ 128 ≤ gb s (n + 3) ∧ gb s (n + 3) < 192 ∧ 65536 ≤ c4 s n ∧ isN (c4 s n))) : dec s n = (65533, 1) := by
  unfold isN c4 at h1
  unfold dec Lib.decodeN
  repeat' split
  all_goals first | rfl | (exfalso; omega)
set_option maxHeartbeats 8000000 in
theorem dec_4g (s : ByteArray) (n : Nat) (h : 240 ≤ gb s n ∧ gb s n < 248) (h1 : n + 4 ≤ s.size ∧ 128 ≤ gb s (n + 1) ∧ gb s (n + 1) < 192 ∧ 128 ≤ gb s (n + 2) ∧ gb s (n + 2) < 192 ∧ 128 ≤ gb s (n + 3) ∧ gb s (n + 3) < 192 ∧ 65536 ≤ c4 s n ∧ isN (c4 s n)) : dec s n = (c4 s n, 4) := by
  unfold isN c4 at h1
  unfold dec Lib.decodeN c4
  repeat' split
  all_goals first | (exfalso; omega) | (apply Prod.ext <;> simp only <;> omega)

end Go.Proofs.YtgehocejaipacaaDoor.PureUtfDecodes
