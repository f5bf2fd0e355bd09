/- The plain law of UtfWides: UTF-16 is written and read as the reference says, for all lists and all strings. -/
import Derived.Laws.BitsLemmas
import Derived.Test.YtgehocejaipacaaDoorPUtfWidesx5
namespace Go.Proofs.YtgehocejaipacaaDoor.PureUtfWides
open Go.RowKit Go.Proofs.YtgehocejaipacaaDoor.PUtfWides Go.Proofs.YtgehocejaipacaaDoorW.PrintWords Go.Proofs.YtgehocejaipacaaDoorW.PrintLast Go.Proofs.YtgehocejaipacaaDoorW.PrintMore
theorem w_in {e : Int} (h : -9223372036854775808 ≤ e ∧ e ≤ 9223372036854775807) : wrap64 e = e := by unfold wrap64; omega
theorem wakes_f : colophonlaw04_wakes.f 5 = some true := by decide +kernel

theorem wakes_k (k : Nat) (hk : 5 ≤ k) : colophonlaw04_wakes.f k = some true := at_rounds (g := fun k => colophonlaw04_wakes.f k) colophonlaw04_wakes.mono hk wakes_f
theorem ints_f (l : List Int) : colophonkeep_Ints.f l 4096 = some (l.take 4096) := by
  unfold colophonkeep_Ints.f
  by_cases h : (l.length : Int) > 4096
  · rw [if_pos h, if_pos (by omega), if_pos (by omega)]
    simp only [Option.bind_some, List.nil_append, List.length_nil]
    rw [if_pos (by rw [List.length_take]; omega)]
    rfl
  · rw [if_neg h]
    simp only [Option.bind_some, List.nil_append, List.length_nil]
    rw [if_pos (by omega), List.take_of_length_le (by omega)]

theorem is_f (c : Int) : colophonref04_Is.f c = utf_point.f c := by
  unfold colophonref04_Is.f utf_point.f
  simp only [ge_iff_le]
  by_cases h1 : 0 ≤ c
  · by_cases h2 : c ≤ 1114111
    · by_cases h3 : c < 55296
      · simp [h1, h2, h3]
      · by_cases h4 : 57343 < c <;> simp [h1, h2, h3, h4]
    · have h3 : ¬ c < 55296 := by omega
      have h4 : 57343 < c := by omega
      simp [h1, h2, h3, h4]
  · have h3 : ¬ 57343 < c := by omega
    simp [h1, h3]
theorem point_val (c : Int) : utf_point.f c = some (decide ((0 ≤ c ∧ c < 55296) ∨ (57343 < c ∧ c ≤ 1114111))) := by
  unfold utf_point.f
  by_cases h1 : 0 ≤ c <;> by_cases h2 : c < 55296 <;> by_cases h3 : 57343 < c <;> simp [h1, h2, h3] <;> omega
theorem i64_wraps (n : Int) (h0 : 0 ≤ n) (h1 : n < 2 ^ 30) : IntKind.i64.wrap n = n := by
  rw [IntKind.wrap_i64]
  have : (2 : Int) ^ 30 = 1073741824 := by decide
  omega
theorem and1023 (x : Int) (h0 : 0 ≤ x) (h1 : x < 1073741824) : Go.bits .and .i64 x 1023 = x % 1024 :=
  bits_mask .i64 30 (by decide) i64_wraps 10 (by decide) x h0 h1
theorem or256 (x y : Int) (h0 : 0 ≤ x) (h1 : x < 256) (h2 : 0 ≤ y) (h3 : y < 256) : Go.bits .or .i64 (x * 256) y = x * 256 + y :=
  bits_join .i64 30 (by decide) i64_wraps 8 (x * 256) y (by omega) (by omega) (by omega) h2 (by omega) (by omega)
theorem bytes_str (xs : List Int) (h : ∀ x ∈ xs, 0 ≤ x ∧ x < 256) : bytesOf (strOfNums xs) = xs := by
  unfold bytesOf
  rw [strOfNums_data, List.map_map]
  refine (List.map_congr_left (g := id) (fun x hx => ?_)).trans (List.map_id xs)
  have := h x hx
  simp only [Function.comp, UInt8.toNat_ofNat', id]
  omega
theorem bytes_append (a b : ByteArray) : bytesOf (a ++ b) = bytesOf a ++ bytesOf b := by
  simp [bytesOf, ByteArray.data_append]
/-- The bytes of a code point. -/
def wl (c : Int) : List Int := if c < 65536 then [c / 256 % 256, c % 256] else
  [(55296 + (c - 65536) / 1024) / 256 % 256, (55296 + (c - 65536) / 1024) % 256, (56320 + (c - 65536) % 1024) / 256 % 256, (56320 + (c - 65536) % 1024) % 256]
theorem unit_one (c : Int) (h0 : 0 ≤ c) (h1 : c ≤ 2000000) : ∃ s, colophonref04_unit.f c = some s ∧ bytesOf s = [c / 256 % 256, c % 256] ∧ s.size = 2 := by
  have e1 : wrap64 (Int.tdiv c 256) = c / 256 := by rw [Int.tdiv_eq_ediv_of_nonneg h0]; exact w_in (by omega)
  have e2 : Int.tmod c 256 % 256 = c % 256 := by rw [Int.tmod_eq_emod_of_nonneg h0]; omega
  refine ⟨_, rfl, ?_, ?_⟩
  · rw [e1, e2]
    refine bytes_str _ (fun x hx => ?_)
    simp at hx
    omega
  · rw [strOfNums_size]; rfl
theorem units_f (c : Int) (h0 : 0 ≤ c) (h1 : c ≤ 1114111) : ∃ s, colophonref04_Units.f c = some s ∧ bytesOf s = wl c ∧ s.size ≤ 4 := by
  unfold colophonref04_Units.f wl
  by_cases h : c < 65536
  · obtain ⟨s, a1, a2, a3⟩ := unit_one c h0 (by omega)
    rw [if_pos h, if_pos h, a1]
    exact ⟨s, rfl, a2, by omega⟩
  · have e0 : wrap64 (c - 65536) = c - 65536 := w_in (by omega)
    have e1 : wrap64 (Int.tdiv (c - 65536) 1024) = (c - 65536) / 1024 := by rw [Int.tdiv_eq_ediv_of_nonneg (by omega)]; exact w_in (by omega)
    have e2 : Int.tmod (c - 65536) 1024 = (c - 65536) % 1024 := Int.tmod_eq_emod_of_nonneg (by omega)
    have e3 : wrap64 (55296 + (c - 65536) / 1024) = 55296 + (c - 65536) / 1024 := w_in (by omega)
    have e4 : wrap64 (56320 + (c - 65536) % 1024) = 56320 + (c - 65536) % 1024 := w_in (by omega)
    obtain ⟨s, a1, a2, a3⟩ := unit_one (55296 + (c - 65536) / 1024) (by omega) (by omega)
    obtain ⟨t, b1, b2, b3⟩ := unit_one (56320 + (c - 65536) % 1024) (by omega) (by omega)
    rw [if_neg h, if_neg h, e0, e1, e2, e3, e4, a1, b1, Option.bind_some, Option.bind_some, if_pos (by omega)]
    refine ⟨s ++ t, rfl, ?_, ?_⟩
    · rw [bytes_append, a2, b2]; rfl
    · rw [ByteArray.size_append]; omega
theorem wl_len (c : Int) : (wl c).length ≤ 4 := by unfold wl; split <;> simp
theorem wide_step (l : List Int) (k n : Nat) (x : List Int) (hn : n < l.length) (hl : l.length ≤ 4096) (hx : x.length ≤ 20000) (h0 : 0 ≤ rd l (n : Int)) (h1 : rd l (n : Int) ≤ 1114111) (hp : utf_point.f (rd l (n : Int)) = some true) :
    utf_Wide.l0 (k + 1) x l (l.length : Int) (n : Int) = utf_Wide.l0 k (x ++ wl (rd l (n : Int))) l (l.length : Int) ((n + 1 : Nat) : Int) := by
  have hn1 : wrap64 ((n : Int) + 1) = ((n + 1 : Nat) : Int) := by rw [w_in (by omega)]; omega
  rw [utf_Wide.l0, if_pos (by omega), if_pos (by omega), if_pos (by omega), hp, Option.bind_some, if_pos rfl, hn1]
  generalize rd l (n : Int) = c at h0 h1
  unfold wl
  by_cases h : c < 65536
  · rw [if_pos h, if_pos h, Option.bind_some, if_pos (by simp; omega)]
  · have e0 : wrap64 (c - 65536) = c - 65536 := w_in (by omega)
    have e3 : wrap64 (55296 + (c - 65536) / 1024) = 55296 + (c - 65536) / 1024 := w_in (by omega)
    have e4 : wrap64 (56320 + (c - 65536) % 1024) = 56320 + (c - 65536) % 1024 := w_in (by omega)
    rw [if_neg h, if_neg h, Option.bind_some, if_pos (by simp; omega), e0, and1023 _ (by omega) (by omega), e3, e4]
theorem wide_l0 (l : List Int) (hl : l.length ≤ 4096) : ∀ (d k n : Nat) (x : List Int), n + d = l.length → x.length ≤ 4 * n + 2 → d + 1 ≤ k →
    ∃ r, utf_Wide.l0 k x l (l.length : Int) (n : Int) = some r ∧ colophonref04_Wide.l0 k l x (n : Int) = some r := by
  intro d
  induction d with
  | zero =>
    intro k n x hd hx hk
    obtain ⟨k, rfl⟩ : ∃ m, k = m + 1 := ⟨k - 1, by omega⟩
    refine ⟨(strOfNums x, 0), ?_, ?_⟩
    · rw [utf_Wide.l0, if_neg (by omega)]
    · rw [colophonref04_Wide.l0, if_neg (by omega)]
  | succ d ih =>
    intro k n x hd hx hk
    obtain ⟨k, rfl⟩ : ∃ m, k = m + 1 := ⟨k - 1, by omega⟩
    have hn1 : wrap64 ((n : Int) + 1) = ((n + 1 : Nat) : Int) := by rw [w_in (by omega)]; omega
    have hpv := point_val (rd l (n : Int))
    by_cases v : (0 ≤ rd l (n : Int) ∧ rd l (n : Int) < 55296) ∨ (57343 < rd l (n : Int) ∧ rd l (n : Int) ≤ 1114111)
    · rw [decide_eq_true v] at hpv
      obtain ⟨s, a1, a2, a3⟩ := units_f (rd l (n : Int)) (by omega) (by omega)
      have hr : colophonref04_Wide.l0 (k + 1) l x (n : Int) = colophonref04_Wide.l0 k l (x ++ wl (rd l (n : Int))) ((n + 1 : Nat) : Int) := by
        rw [colophonref04_Wide.l0, if_pos (by omega), if_pos (by omega), is_f, hpv, Option.bind_some, if_pos rfl, a1, Option.bind_some, if_pos (by omega), a2, hn1]
      rw [wide_step l k n x (by omega) hl (by omega) (by omega) (by omega) hpv, hr]
      have := wl_len (rd l (n : Int))
      exact ih k (n + 1) _ (by omega) (by rw [List.length_append]; omega) (by omega)
    · rw [decide_eq_false v] at hpv
      refine ⟨((⟨#[]⟩ : ByteArray), 40), ?_, ?_⟩
      · rw [utf_Wide.l0, if_pos (by omega), if_pos (by omega), if_pos (by omega), hpv, Option.bind_some, if_neg (by decide)]
      · rw [colophonref04_Wide.l0, if_pos (by omega), if_pos (by omega), is_f, hpv, Option.bind_some, if_neg (by decide)]
theorem unit_f (s : ByteArray) (n : Int) (h0 : 0 ≤ n) (h1 : n ≤ 100000) : utf_unit.f s n = some (if n + 2 > (s.size : Int) then -1 else bt s n * 256 + bt s (n + 1)) := by
  have a1 := bt_range s n
  have a2 := bt_range s (n + 1)
  have e1 : wrap64 (n + 2) = n + 2 := w_in (by omega)
  have e2 : wrap64 (n + 1) = n + 1 := w_in (by omega)
  have e3 : wrap64 (bt s n) = bt s n := w_in (by omega)
  have e4 : wrap64 (bt s n * 256) = bt s n * 256 := w_in (by omega)
  have e5 : wrap64 (bt s (n + 1)) = bt s (n + 1) := w_in (by omega)
  unfold utf_unit.f
  rw [e1]
  by_cases h : n + 2 > (s.size : Int)
  · rw [if_pos h, if_pos h]
  · rw [if_neg h, if_neg h, if_pos h0, if_pos (by omega), e2, if_pos (by omega), if_pos (by omega), e3, e4, e5, or256 _ _ (by omega) (by omega) (by omega) (by omega)]
theorem narrow_l0 (s : ByteArray) (hs : s.size ≤ 65536) : ∀ (d k : Nat) (n : Int) (x : List Int), 0 ≤ n → n ≤ 70000 → (s.size : Int) - n ≤ d → (x.length : Int) ≤ n → 3 * d + 4 ≤ k →
    ∃ r, utf_Narrow.l0 k s x n = some r ∧ colophonref04_Narrow.l0 k s x n = some r ∧ r.1.length ≤ 70004 := by
  intro d
  induction d with
  | zero =>
    intro k n x h0 hn hd hx hk
    obtain ⟨k, rfl⟩ : ∃ m, k = m + 1 := ⟨k - 1, by omega⟩
    refine ⟨(x, 0, 0), ?_, ?_, by show x.length ≤ 70004; omega⟩
    · rw [utf_Narrow.l0, if_neg (by omega)]
    · rw [colophonref04_Narrow.l0, if_neg (by omega)]
  | succ d ih =>
    intro k n x h0 hn hd hx hk
    obtain ⟨k, rfl⟩ : ∃ m, k = m + 3 := ⟨k - 3, by omega⟩
    by_cases hsz : n < (s.size : Int)
    · have e1 : wrap64 (n + 2) = n + 2 := w_in (by omega)
      have hxl : x.length < 17592186044416 := by omega
      have bad : ∃ r, (some (([] : List Int), n, (40 : Int)) : Option (List Int × Int × Int)) = some r ∧ (some (([] : List Int), n, (40 : Int)) : Option (List Int × Int × Int)) = some r ∧ r.1.length ≤ 70004 := ⟨_, rfl, rfl, by show (0 : Nat) ≤ 70004; omega⟩
      by_cases a : n + 2 > (s.size : Int)
      · have hu : utf_Narrow.l0 (k + 3) s x n = some (([] : List Int), n, 40) := by
          rw [utf_Narrow.l0, if_pos hsz, unit_f s n h0 (by omega), Option.bind_some, if_pos a, if_neg (by omega), utf_Narrow.j1, if_neg (by decide), point_val, Option.bind_some, if_neg (by simp)]
        have hr : colophonref04_Narrow.l0 (k + 3) s x n = some (([] : List Int), n, 40) := by
          rw [colophonref04_Narrow.l0, if_pos hsz, e1, if_pos a]
        rw [hu, hr]
        exact bad
      · have b1 := bt_range s n
        have b2 := bt_range s (n + 1)
        have e2 : wrap64 (n + 1) = n + 1 := w_in (by omega)
        have e3 : wrap64 (bt s n) = bt s n := w_in (by omega)
        have e4 : wrap64 (bt s n * 256) = bt s n * 256 := w_in (by omega)
        have e5 : wrap64 (bt s (n + 1)) = bt s (n + 1) := w_in (by omega)
        have e6 : wrap64 (bt s n * 256 + bt s (n + 1)) = bt s n * 256 + bt s (n + 1) := w_in (by omega)
        obtain ⟨c, hc⟩ : ∃ c, bt s n * 256 + bt s (n + 1) = c := ⟨_, rfl⟩
        have hu : utf_Narrow.l0 (k + 3) s x n = if 55296 ≤ c then utf_Narrow.j1 (k + 2) s x n c 2 (decide (c < 56320)) else utf_Narrow.j1 (k + 2) s x n c 2 false := by
          rw [utf_Narrow.l0, if_pos hsz, unit_f s n h0 (by omega), Option.bind_some, if_neg a, hc]
        have hr : colophonref04_Narrow.l0 (k + 3) s x n = if c ≥ 55296 then colophonref04_Narrow.j2 (k + 2) s x n c 2 (decide (c ≤ 56319)) else colophonref04_Narrow.j2 (k + 2) s x n c 2 false := by
          rw [colophonref04_Narrow.l0, if_pos hsz, e1, if_neg a, if_pos h0, e2, if_pos (by omega), if_pos (by omega), e3, e4, e5, e6, hc]
        have hplain : ∃ r, utf_Narrow.j1 (k + 2) s x n c 2 false = some r ∧ colophonref04_Narrow.j2 (k + 2) s x n c 2 false = some r ∧ r.1.length ≤ 70004 := by
          have p1 : utf_Narrow.j1 (k + 2) s x n c 2 false = (utf_point.f c).bind fun t176 => (if t176 = true then (if x.length < 17592186044416 then (utf_Narrow.l0 (k + 1) s (x ++ [c]) (wrap64 (n + 2))) else (none)) else (some (([] : List Int), n, 40))) := by
            rw [utf_Narrow.j1, if_neg (by decide)]
          have p2 : colophonref04_Narrow.j2 (k + 2) s x n c 2 false = (colophonref04_Is.f c).bind fun t184 => (if t184 = true then (if x.length < 17592186044416 then (colophonref04_Narrow.l0 (k + 1) s (x ++ [c]) (wrap64 (n + 2))) else (none)) else (some (([] : List Int), n, 40))) := by
            rw [colophonref04_Narrow.j2, if_neg (by decide)]
          rw [p1, p2, is_f, point_val, Option.bind_some, Option.bind_some]
          by_cases v : (0 ≤ c ∧ c < 55296) ∨ (57343 < c ∧ c ≤ 1114111)
          · rw [decide_eq_true v, if_pos rfl, if_pos rfl, if_pos hxl, if_pos hxl, e1]
            exact ih (k + 1) (n + 2) _ (by omega) (by omega) (by omega) (by simp; omega) (by omega)
          · rw [decide_eq_false v, if_neg (by decide), if_neg (by decide)]
            exact bad
        rw [hu, hr]
        by_cases g1 : 55296 ≤ c
        · rw [if_pos g1, if_pos (show c ≥ 55296 from g1)]
          by_cases g2 : c < 56320
          · have f1 : wrap64 (n + 4) = n + 4 := w_in (by omega)
            rw [decide_eq_true g2, decide_eq_true (show c ≤ 56319 by omega)]
            have p1 : utf_Narrow.j1 (k + 2) s x n c 2 true = (utf_unit.f s (n + 2)).bind fun t171 => (if t171 < 56320 then (utf_Narrow.j2 (k + 1) s x n c t171 true) else (utf_Narrow.j2 (k + 1) s x n c t171 (decide (t171 ≥ 57344)))) := by
              rw [utf_Narrow.j1, if_pos rfl, e1]
            by_cases q : n + 4 > (s.size : Int)
            · have p2 : colophonref04_Narrow.j2 (k + 2) s x n c 2 true = some (([] : List Int), n, 40) := by
                rw [colophonref04_Narrow.j2, if_pos rfl, f1, if_pos q]
              rw [p1, p2, unit_f s (n + 2) (by omega) (by omega), Option.bind_some, if_pos (show n + 2 + 2 > (s.size : Int) by omega), if_pos (show (-1 : Int) < 56320 by omega), utf_Narrow.j2, if_pos rfl]
              exact bad
            · have f2 : wrap64 (n + 3) = n + 3 := w_in (by omega)
              have d1 := bt_range s (n + 2)
              have d2 := bt_range s (n + 3)
              have f3 : wrap64 (bt s (n + 2)) = bt s (n + 2) := w_in (by omega)
              have f4 : wrap64 (bt s (n + 2) * 256) = bt s (n + 2) * 256 := w_in (by omega)
              have f5 : wrap64 (bt s (n + 3)) = bt s (n + 3) := w_in (by omega)
              have f6 : wrap64 (bt s (n + 2) * 256 + bt s (n + 3)) = bt s (n + 2) * 256 + bt s (n + 3) := w_in (by omega)
              have f7 : n + 2 + 1 = n + 3 := by omega
              obtain ⟨v, hv⟩ : ∃ v, bt s (n + 2) * 256 + bt s (n + 3) = v := ⟨_, rfl⟩
              have p2 : colophonref04_Narrow.j2 (k + 2) s x n c 2 true = if v < 56320 then colophonref04_Narrow.j3 (k + 1) s x n c v true else colophonref04_Narrow.j3 (k + 1) s x n c v (decide (v > 57343)) := by
                rw [colophonref04_Narrow.j2, if_pos rfl, f1, if_neg q, e1, f2, if_pos (show 0 ≤ n + 2 by omega), if_pos (show n + 2 < (s.size : Int) by omega), if_pos (show 0 ≤ n + 3 by omega), if_pos (show n + 3 < (s.size : Int) by omega), f3, f4, f5, f6, hv]
              rw [p1, p2, unit_f s (n + 2) (by omega) (by omega), Option.bind_some, if_neg (show ¬ n + 2 + 2 > (s.size : Int) by omega), f7, hv]
              have hb : ∀ b : Bool, ∃ r, utf_Narrow.j2 (k + 1) s x n c v b = some r ∧ colophonref04_Narrow.j3 (k + 1) s x n c v b = some r ∧ r.1.length ≤ 70004 := by
                intro b
                cases b with
                | true =>
                  rw [utf_Narrow.j2, if_pos rfl, colophonref04_Narrow.j3, if_pos rfl]
                  exact bad
                | false =>
                  have p1 : utf_Narrow.j2 (k + 1) s x n c v false = (utf_point.f (wrap64 (wrap64 (wrap64 (65536 + wrap64 (wrap64 (c - 55296) * 1024)) + v) - 56320))).bind fun t172 => (if t172 = true then (if x.length < 17592186044416 then (utf_Narrow.l0 k s (x ++ [wrap64 (wrap64 (wrap64 (65536 + wrap64 (wrap64 (c - 55296) * 1024)) + v) - 56320)]) (wrap64 (n + 4))) else (none)) else (some (([] : List Int), n, 40))) := by
                    rw [utf_Narrow.j2, if_neg (by decide)]
                  have p2 : colophonref04_Narrow.j3 (k + 1) s x n c v false = (colophonref04_Is.f (wrap64 (wrap64 (wrap64 (65536 + wrap64 (wrap64 (c - 55296) * 1024)) + v) - 56320))).bind fun t180 => (if t180 = true then (if x.length < 17592186044416 then (colophonref04_Narrow.l0 k s (x ++ [wrap64 (wrap64 (wrap64 (65536 + wrap64 (wrap64 (c - 55296) * 1024)) + v) - 56320)]) (wrap64 (n + 4))) else (none)) else (some (([] : List Int), n, 40))) := by
                    rw [colophonref04_Narrow.j3, if_neg (by decide)]
                  rw [p1, p2, f1]
                  generalize wrap64 (wrap64 (wrap64 (65536 + wrap64 (wrap64 (c - 55296) * 1024)) + v) - 56320) = E
                  rw [is_f, point_val, Option.bind_some, Option.bind_some]
                  by_cases w : (0 ≤ E ∧ E < 55296) ∨ (57343 < E ∧ E ≤ 1114111)
                  · rw [decide_eq_true w, if_pos rfl, if_pos rfl, if_pos hxl, if_pos hxl]
                    exact ih k (n + 4) _ (by omega) (by omega) (by omega) (by simp; omega) (by omega)
                  · rw [decide_eq_false w, if_neg (by decide), if_neg (by decide)]
                    exact bad
              by_cases t : v < 56320
              · rw [if_pos t, if_pos t]
                exact hb true
              · rw [if_neg t, if_neg t]
                by_cases t2 : v ≥ 57344
                · rw [decide_eq_true t2, decide_eq_true (show v > 57343 by omega)]
                  exact hb true
                · rw [decide_eq_false t2, decide_eq_false (show ¬ v > 57343 by omega)]
                  exact hb false
          · rw [decide_eq_false g2, decide_eq_false (show ¬ c ≤ 56319 by omega)]
            exact hplain
        · rw [if_neg g1, if_neg (show ¬ c ≥ 55296 from g1)]
          exact hplain
    · refine ⟨(x, 0, 0), ?_, ?_, by show x.length ≤ 70004; omega⟩
      · rw [utf_Narrow.l0, if_neg hsz]
      · rw [colophonref04_Narrow.l0, if_neg hsz]
theorem prefix_f (s : ByteArray) : strings_HasPrefix.f s (⟨#[254, 255]⟩ : ByteArray) = some (decide (2 ≤ s.size ∧ bt s 0 = 254 ∧ bt s 1 = 255)) := by
  have e2 : ((⟨#[254, 255]⟩ : ByteArray).size : Int) = 2 := rfl
  have e3 : ((2 : Int)).toNat = 2 := rfl
  unfold strings_HasPrefix.f stringslite_HasPrefix.f
  rw [e2, e3]
  by_cases h : (s.size : Int) ≥ 2
  · rw [if_pos h, if_pos (by omega), if_pos (by omega), Option.bind_some]
    congr 1
    rw [Go.ByteArray.toList_eq, Go.ByteArray.toList_eq]
    obtain ⟨⟨L⟩⟩ := s
    match L, h with
    | [], h => simp [ByteArray.size] at h
    | [p], h => simp [ByteArray.size] at h
    | p :: q :: r, _ =>
      have hz2 : (⟨⟨p :: q :: r⟩⟩ : ByteArray).size = r.length + 2 := rfl
      have b0 : bt ⟨⟨p :: q :: r⟩⟩ 0 = p.toNat := (bt_at ⟨⟨p :: q :: r⟩⟩ 0 (by rw [hz2]; exact Nat.succ_pos _)).symm
      have b1 : bt ⟨⟨p :: q :: r⟩⟩ 1 = q.toNat := (bt_at ⟨⟨p :: q :: r⟩⟩ 1 (by rw [hz2]; exact Nat.succ_lt_succ (Nat.succ_pos _))).symm
      have hx : ((⟨⟨p :: q :: r⟩⟩ : ByteArray).extract 0 2).data.toList = [p, q] := by simp [ByteArray.data_extract]
      rw [hx, b0, b1]
      have hz : 2 ≤ (⟨⟨p :: q :: r⟩⟩ : ByteArray).size := by simp [ByteArray.size]
      by_cases g : p = 254 ∧ q = 255
      · obtain ⟨rfl, rfl⟩ := g
        rw [decide_eq_true ⟨hz, rfl, rfl⟩]
        rfl
      · have h1 : ¬ (2 ≤ (⟨⟨p :: q :: r⟩⟩ : ByteArray).size ∧ (p.toNat : Int) = 254 ∧ (q.toNat : Int) = 255) := by
          rintro ⟨_, c1, c2⟩
          refine g ⟨?_, ?_⟩
          · apply UInt8.toNat_inj.1
            show p.toNat = 254
            omega
          · apply UInt8.toNat_inj.1
            show q.toNat = 255
            omega
        rw [decide_eq_false h1]
        refine beq_eq_false_iff_ne.2 (fun e => g ?_)
        have e' : [p, q] = [254, 255] := e
        simpa using e'
  · rw [if_neg h, decide_eq_false (by omega)]
    rfl
theorem narrow_f (K : Nat) (hK : 300000 ≤ K) (s : ByteArray) (hs : s.size ≤ 65536) : ∃ r, utf_Narrow.f K s = some r ∧ colophonref04_Narrow.f K s = some r ∧ r.1.length ≤ 70004 := by
  obtain ⟨K, rfl⟩ : ∃ m, K = m + 1 := ⟨K - 1, by omega⟩
  have bad : ∃ r, (some (([] : List Int), (0 : Int), (40 : Int)) : Option (List Int × Int × Int)) = some r ∧ (some (([] : List Int), (0 : Int), (40 : Int)) : Option (List Int × Int × Int)) = some r ∧ r.1.length ≤ 70004 := ⟨_, rfl, rfl, by show (0 : Nat) ≤ 70004; omega⟩
  unfold utf_Narrow.f colophonref04_Narrow.f
  rw [prefix_f, Option.bind_some]
  by_cases h : (s.size : Int) < 2
  · rw [if_pos h, decide_eq_false (by omega), if_neg (by decide), colophonref04_Narrow.j0, if_pos rfl]
    exact bad
  · rw [if_neg h, if_pos (show 0 < (s.size : Int) by omega)]
    by_cases a : bt s 0 = 254
    · rw [if_pos a, if_pos (show 1 < (s.size : Int) by omega)]
      by_cases b : bt s 1 = 255
      · obtain ⟨r, r1, r2, r3⟩ := narrow_l0 s hs 65536 K 2 [] (by omega) (by omega) (by omega) (by simp) (by omega)
        obtain ⟨r', q1, q2, q3⟩ := narrow_l0 s hs 65536 (K + 1) 2 [] (by omega) (by omega) (by omega) (by simp) (by omega)
        have hrr : r' = r := by
          have := utf_Narrow.mono_l K
          have h5 := at_rounds (g := fun k => colophonref04_Narrow.l0 k s [] 2) (fun k => (colophonref04_Narrow.mono_l k).2.1 s [] 2) (Nat.le_succ K) r2
          rw [q2] at h5
          injection h5
        subst hrr
        rw [decide_eq_true ⟨by omega, a, b⟩, if_pos rfl, b, bne_self_eq_false, colophonref04_Narrow.j0, if_neg (by decide), q1, r2]
        exact ⟨_, rfl, rfl, r3⟩
      · rw [decide_eq_false (fun q => b q.2.2), if_neg (by decide), bne_iff_ne.2 b, colophonref04_Narrow.j0, if_pos rfl]
        exact bad
    · rw [if_neg a, decide_eq_false (fun q => a q.2.1), if_neg (by decide), colophonref04_Narrow.j0, if_pos rfl]
      exact bad
theorem same_l0 (m : List Int) (hm : m.length ≤ 70004) : ∀ (d k : Nat) (i : Int), 0 ≤ i → (m.length : Int) - i = d → d + 1 ≤ k → colophonkeep_Same.l0 k m m i = some true := by
  intro d
  induction d with
  | zero =>
    intro k i h0 hd hk
    obtain ⟨k, rfl⟩ : ∃ q, k = q + 1 := ⟨k - 1, by omega⟩
    rw [colophonkeep_Same.l0, if_neg (by omega)]
  | succ d ih =>
    intro k i h0 hd hk
    obtain ⟨k, rfl⟩ : ∃ q, k = q + 1 := ⟨k - 1, by omega⟩
    have hi : wrap64 (i + 1) = i + 1 := w_in (by omega)
    rw [colophonkeep_Same.l0, if_pos (by omega), if_pos h0, if_pos (by omega), if_pos rfl, hi]
    exact ih k (i + 1) (by omega) (by omega) (by omega)
theorem pureK (K : Nat) (hK : 300000 ≤ K) (l : List Int) (s : ByteArray) : colophonlaw04_UtfWides.f K l s = some true := by
  unfold colophonlaw04_UtfWides.f
  by_cases h : (s.size : Int) > 65536
  · rw [if_pos h, wakes_k K (by omega)]
    rfl
  · have hm : (l.take 4096).length ≤ 4096 := by rw [List.length_take]; omega
    rw [if_neg h, ints_f, Option.bind_some]
    generalize l.take 4096 = m at hm
    obtain ⟨r, r1, r2⟩ := wide_l0 m hm m.length K 0 [254, 255] (by omega) (by simp) (by omega)
    obtain ⟨q, q1, q2, q3⟩ := narrow_f K hK s (by omega)
    have w1 : utf_Wide.f K m = some r := r1
    have w2 : colophonref04_Wide.f K m = some r := r2
    have w3 : colophonkeep_Same.f K q.1 q.1 = some true := by
      unfold colophonkeep_Same.f
      rw [if_pos rfl]
      exact same_l0 q.1 q3 q.1.length K 0 (by omega) (by omega) (by omega)
    simp only [w1, w2, q1, q2, w3, Option.bind_some, if_true, wakes_k K (by omega)]
theorem pure (l : List Int) (s : ByteArray) : ∃ k, colophonlaw04_UtfWides.f k l s = some true := ⟨300000, pureK 300000 (Nat.le_refl _) l s⟩

end Go.Proofs.YtgehocejaipacaaDoor.PureUtfWides
