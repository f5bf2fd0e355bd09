/- The plain law of UtfBack: what is written, either way, is read as it was, and what is read is written as it was. -/
import Derived.Laws.BitsLemmas
import Derived.Test.YtgehocejaipacaaDoorPUtfBackx4
import Derived.Test.YtgehocejaipacaaDoorPureUtfBackD
namespace Go.Proofs.YtgehocejaipacaaDoor.PureUtfBack
open Go.RowKit Go.Proofs.YtgehocejaipacaaDoor.PUtfBack Go.Proofs.YtgehocejaipacaaDoorW.PrintWords Go.Proofs.YtgehocejaipacaaDoorW.PrintLast Go.Proofs.YtgehocejaipacaaDoorW.PrintMore
theorem wakes_k (k : Nat) (hk : 5 ≤ k) : colophonlaw04_wakes.f k = some true := at_rounds (g := fun k => colophonlaw04_wakes.f k) colophonlaw04_wakes.mono hk wakes_f
theorem ints_f (l : List Int) : colophonkeep_Ints.f l 4096 = some (l.take 4096) := by
  unfold colophonkeep_Ints.f
  by_cases h : (l.length : Int) > 4096
  · rw [if_pos h, if_pos (by omega), if_pos (by omega)]
    simp only [Option.bind_some, List.nil_append, List.length_nil]
    rw [if_pos (by rw [List.length_take]; omega)]
    rfl
  · rw [if_neg h]
    simp only [Option.bind_some, List.nil_append, List.length_nil]
    rw [if_pos (by omega), List.take_of_length_le (by omega)]

theorem i64_wraps (n : Int) (h0 : 0 ≤ n) (h1 : n < 2 ^ 30) : IntKind.i64.wrap n = n := by
  rw [IntKind.wrap_i64]
  have : (2 : Int) ^ 30 = 1073741824 := by decide
  omega
theorem and1023 (x : Int) (h0 : 0 ≤ x) (h1 : x < 1073741824) : Go.bits .and .i64 x 1023 = x % 1024 :=
  bits_mask .i64 30 (by decide) i64_wraps 10 (by decide) x h0 h1
theorem or256 (x y : Int) (h0 : 0 ≤ x) (h1 : x < 256) (h2 : 0 ≤ y) (h3 : y < 256) : Go.bits .or .i64 (x * 256) y = x * 256 + y :=
  bits_join .i64 30 (by decide) i64_wraps 8 (x * 256) y (by omega) (by omega) (by omega) h2 (by omega) (by omega)
theorem bytes_str (xs : List Int) (h : ∀ x ∈ xs, 0 ≤ x ∧ x < 256) : bytesOf (strOfNums xs) = xs := by
  unfold bytesOf
  rw [strOfNums_data, List.map_map]
  refine (List.map_congr_left (g := id) (fun x hx => ?_)).trans (List.map_id xs)
  have := h x hx
  simp only [Function.comp, UInt8.toNat_ofNat', id]
  omega
theorem bytes_append (a b : ByteArray) : bytesOf (a ++ b) = bytesOf a ++ bytesOf b := by
  simp [bytesOf, ByteArray.data_append]
/-- The bytes of a code point. -/
def wl (c : Int) : List Int := if c < 65536 then [c / 256 % 256, c % 256] else
  [(55296 + (c - 65536) / 1024) / 256 % 256, (55296 + (c - 65536) / 1024) % 256, (56320 + (c - 65536) % 1024) / 256 % 256, (56320 + (c - 65536) % 1024) % 256]
theorem unit_f (s : ByteArray) (n : Int) (h0 : 0 ≤ n) (h1 : n ≤ 100000) : utf_unit.f s n = some (if n + 2 > (s.size : Int) then -1 else bt s n * 256 + bt s (n + 1)) := by
  have a1 := bt_range s n
  have a2 := bt_range s (n + 1)
  have e1 : wrap64 (n + 2) = n + 2 := w_in (by omega)
  have e2 : wrap64 (n + 1) = n + 1 := w_in (by omega)
  have e3 : wrap64 (bt s n) = bt s n := w_in (by omega)
  have e4 : wrap64 (bt s n * 256) = bt s n * 256 := w_in (by omega)
  have e5 : wrap64 (bt s (n + 1)) = bt s (n + 1) := w_in (by omega)
  unfold utf_unit.f
  rw [e1]
  by_cases h : n + 2 > (s.size : Int)
  · rw [if_pos h, if_pos h]
  · rw [if_neg h, if_neg h, if_pos h0, if_pos (by omega), e2, if_pos (by omega), if_pos (by omega), e3, e4, e5, or256 _ _ (by omega) (by omega) (by omega) (by omega)]

theorem prefix_f (s : ByteArray) : strings_HasPrefix.f s (⟨#[254, 255]⟩ : ByteArray) = some (decide (2 ≤ s.size ∧ bt s 0 = 254 ∧ bt s 1 = 255)) := by
  have e2 : ((⟨#[254, 255]⟩ : ByteArray).size : Int) = 2 := rfl
  have e3 : ((2 : Int)).toNat = 2 := rfl
  unfold strings_HasPrefix.f stringslite_HasPrefix.f
  rw [e2, e3]
  by_cases h : (s.size : Int) ≥ 2
  · rw [if_pos h, if_pos (by omega), if_pos (by omega), Option.bind_some]
    congr 1
    rw [Go.ByteArray.toList_eq, Go.ByteArray.toList_eq]
    obtain ⟨⟨L⟩⟩ := s
    match L, h with
    | [], h => simp [ByteArray.size] at h
    | [p], h => simp [ByteArray.size] at h
    | p :: q :: r, _ =>
      have hz2 : (⟨⟨p :: q :: r⟩⟩ : ByteArray).size = r.length + 2 := rfl
      have b0 : bt ⟨⟨p :: q :: r⟩⟩ 0 = p.toNat := (bt_at ⟨⟨p :: q :: r⟩⟩ 0 (by rw [hz2]; exact Nat.succ_pos _)).symm
      have b1 : bt ⟨⟨p :: q :: r⟩⟩ 1 = q.toNat := (bt_at ⟨⟨p :: q :: r⟩⟩ 1 (by rw [hz2]; exact Nat.succ_lt_succ (Nat.succ_pos _))).symm
      have hx : ((⟨⟨p :: q :: r⟩⟩ : ByteArray).extract 0 2).data.toList = [p, q] := by simp [ByteArray.data_extract]
      rw [hx, b0, b1]
      have hz : 2 ≤ (⟨⟨p :: q :: r⟩⟩ : ByteArray).size := by simp [ByteArray.size]
      by_cases g : p = 254 ∧ q = 255
      · obtain ⟨rfl, rfl⟩ := g
        rw [decide_eq_true ⟨hz, rfl, rfl⟩]
        rfl
      · have h1 : ¬ (2 ≤ (⟨⟨p :: q :: r⟩⟩ : ByteArray).size ∧ (p.toNat : Int) = 254 ∧ (q.toNat : Int) = 255) := by
          rintro ⟨_, c1, c2⟩
          refine g ⟨?_, ?_⟩
          · apply UInt8.toNat_inj.1
            show p.toNat = 254
            omega
          · apply UInt8.toNat_inj.1
            show q.toNat = 255
            omega
        rw [decide_eq_false h1]
        refine beq_eq_false_iff_ne.2 (fun e => g ?_)
        have e' : [p, q] = [254, 255] := e
        simpa using e'
  · rw [if_neg h, decide_eq_false (by omega)]
    rfl

theorem same_l0 (m : List Int) (hm : m.length ≤ 70004) : ∀ (d k : Nat) (i : Int), 0 ≤ i → (m.length : Int) - i = d → d + 1 ≤ k → colophonkeep_Same.l0 k m m i = some true := by
  intro d
  induction d with
  | zero =>
    intro k i h0 hd hk
    obtain ⟨k, rfl⟩ : ∃ q, k = q + 1 := ⟨k - 1, by omega⟩
    rw [colophonkeep_Same.l0, if_neg (by omega)]
  | succ d ih =>
    intro k i h0 hd hk
    obtain ⟨k, rfl⟩ : ∃ q, k = q + 1 := ⟨k - 1, by omega⟩
    have hi : wrap64 (i + 1) = i + 1 := w_in (by omega)
    rw [colophonkeep_Same.l0, if_pos (by omega), if_pos h0, if_pos (by omega), if_pos rfl, hi]
    exact ih k (i + 1) (by omega) (by omega) (by omega)

theorem wl_len (c : Int) : 2 ≤ (wl c).length ∧ (wl c).length ≤ 4 := by unfold wl; split <;> simp
def wls (m : List Int) : List Int := m.flatMap wl
theorem wls_cons (c : Int) (m : List Int) : wls (c :: m) = wl c ++ wls m := rfl
theorem wls_len : ∀ m : List Int, (wls m).length ≤ 4 * m.length
  | [] => by simp [wls]
  | c :: m => by
    have h := wls_len m
    have h1 := wl_len c
    rw [wls_cons, List.length_append, List.length_cons]
    omega
theorem wl_range (c : Int) : ∀ x ∈ wl c, 0 ≤ x ∧ x < 256 := by
  intro x hx
  unfold wl at hx
  split at hx
  · simp at hx
    omega
  · simp at hx
    omega
theorem wls_range (m : List Int) : ∀ x ∈ wls m, 0 ≤ x ∧ x < 256 := by
  intro x hx
  obtain ⟨c, _, h⟩ := List.mem_flatMap.1 hx
  exact wl_range c x h
theorem wide_l0 (l : List Int) (hl : l.length ≤ 4096) : ∀ (d k n : Nat) (x : List Int), n + d = l.length → x.length ≤ 4 * n + 2 → d + 1 ≤ k →
    utf_Wide.l0 k x l (l.length : Int) (n : Int) = if (∀ c ∈ l.drop n, valid c) then some (strOfNums (x ++ wls (l.drop n)), 0) else some ((⟨#[]⟩ : ByteArray), 40) := by
  intro d
  induction d with
  | zero =>
    intro k n x hd hx hk
    obtain ⟨k, rfl⟩ : ∃ m, k = m + 1 := ⟨k - 1, by omega⟩
    have e : l.drop n = [] := List.drop_eq_nil_of_le (by omega)
    rw [utf_Wide.l0, if_neg (by omega), e, if_pos (by simp)]
    simp [wls]
  | succ d ih =>
    intro k n x hd hx hk
    obtain ⟨k, rfl⟩ : ∃ m, k = m + 1 := ⟨k - 1, by omega⟩
    have hn1 : wrap64 ((n : Int) + 1) = ((n + 1 : Nat) : Int) := by rw [w_in (by omega)]; omega
    have hp := point_val (rd l (n : Int))
    rw [drop_rd l n (by omega)]
    by_cases v : valid (rd l (n : Int))
    · rw [decide_eq_true v] at hp
      have hlen := wl_len (rd l (n : Int))
      have st : utf_Wide.l0 (k + 1) x l (l.length : Int) (n : Int) = utf_Wide.l0 k (x ++ wl (rd l (n : Int))) l (l.length : Int) ((n + 1 : Nat) : Int) := by
        rw [utf_Wide.l0, if_pos (by omega), if_pos (by omega), if_pos (by omega), hp, Option.bind_some, if_pos rfl, hn1]
        generalize rd l (n : Int) = c at v
        unfold valid at v
        have hx2 : ∀ y : List Int, y.length ≤ 4 → x.length + y.length < 140737488355328 := fun y hy => by omega
        unfold wl
        by_cases h : c < 65536
        · rw [if_pos h, if_pos h, Option.bind_some, if_pos (hx2 _ (by simp))]
        · have e0 : wrap64 (c - 65536) = c - 65536 := w_in (by omega)
          have e3 : wrap64 (55296 + (c - 65536) / 1024) = 55296 + (c - 65536) / 1024 := w_in (by omega)
          have e4 : wrap64 (56320 + (c - 65536) % 1024) = 56320 + (c - 65536) % 1024 := w_in (by omega)
          rw [if_neg h, if_neg h, Option.bind_some, if_pos (hx2 _ (by simp)), e0, and1023 _ (by omega) (by omega), e3, e4]
      rw [st, ih k (n + 1) _ (by omega) (by rw [List.length_append]; omega) (by omega)]
      by_cases g : ∀ c ∈ l.drop (n + 1), valid c
      · have g' : ∀ c ∈ rd l (n : Int) :: l.drop (n + 1), valid c := by
          intro c hc
          rcases List.mem_cons.1 hc with rfl | hc
          · exact v
          · exact g c hc
        rw [if_pos g, if_pos g', wls_cons, List.append_assoc]
      · rw [if_neg g, if_neg (fun g' => g (fun c hc => g' c (List.mem_cons_of_mem _ hc)))]
    · rw [decide_eq_false v] at hp
      rw [utf_Wide.l0, if_pos (by omega), if_pos (by omega), if_pos (by omega), hp, Option.bind_some, if_neg (by decide), if_neg (fun g' => v (g' _ (List.mem_cons_self ..)))]
theorem wide_f (l : List Int) (hl : l.length ≤ 4096) (K : Nat) (hK : 100000 ≤ K) :
    utf_Wide.f K l = if (∀ c ∈ l, valid c) then some (strOfNums ([254, 255] ++ wls l), 0) else some ((⟨#[]⟩ : ByteArray), 40) := by
  have h := wide_l0 l hl l.length K 0 [254, 255] (by omega) (by simp) (by omega)
  rw [List.drop_zero] at h
  exact h
theorem take1 (l : List Int) (n : Nat) (a : Int) (t : List Int) (h : l.drop n = a :: t) : n < l.length ∧ rd l (n : Int) = a ∧ l.drop (n + 1) = t := by
  have hn : n < l.length := by
    have := congrArg List.length h
    rw [List.length_drop, List.length_cons] at this
    omega
  rw [drop_rd l n hn] at h
  exact ⟨hn, (List.cons.inj h).1, (List.cons.inj h).2⟩
theorem near (n d : Nat) (h : n ≤ 70000) (hd : d ≤ 4) : wrap64 ((n : Int) + (d : Int)) = ((n + d : Nat) : Int) := by rw [w_in (by omega)]; omega
theorem nar_run (s : ByteArray) (hs : s.size ≤ 70000) : ∀ (m : List Int) (k n : Nat) (x : List Int), (∀ c ∈ m, valid c) → (bytesOf s).drop n = wls m → n ≤ s.size → x.length ≤ n → 3 * m.length + 1 ≤ k →
    utf_Narrow.l0 k s x n = some (x ++ m, 0, 0) := by
  intro m
  induction m with
  | nil =>
    intro k n x _ hd hn _ hk
    obtain ⟨k, rfl⟩ : ∃ q, k = q + 1 := ⟨k - 1, by omega⟩
    have := congrArg List.length hd
    rw [List.length_drop, bytesOf_length] at this
    have hz : (wls []).length = 0 := rfl
    rw [utf_Narrow.l0, if_neg (by omega), List.append_nil]
  | cons c m ih =>
    intro k n x hv hd hn hx hk
    rw [List.length_cons] at hk
    obtain ⟨k, rfl⟩ : ∃ q, k = q + 3 := ⟨k - 3, by omega⟩
    have vc := hv c (List.mem_cons_self ..)
    have hv' : ∀ y ∈ m, valid y := fun y hy => hv y (List.mem_cons_of_mem _ hy)
    have hp := point_val c
    rw [decide_eq_true vc] at hp
    have hx' : x.length < 17592186044416 := by omega
    have hx1 : (x ++ [c]).length ≤ n + 1 := by rw [List.length_append, List.length_singleton]; exact Nat.succ_le_succ hx
    have hk0 : 3 * m.length + 1 ≤ k := by omega
    have hk1 : 3 * m.length + 1 ≤ k + 1 := by omega
    have hn7 : n ≤ 70000 := by omega
    clear hk
    have hsz := bytesOf_length s
    rw [wls_cons] at hd
    unfold valid at vc
    by_cases h : c < 65536
    · have ew : wl c = [c / 256 % 256, c % 256] := by unfold wl; rw [if_pos h]
      rw [ew] at hd
      simp only [List.cons_append, List.nil_append] at hd
      obtain ⟨a1, a2, a3⟩ := take1 _ _ _ _ hd
      obtain ⟨b1, b2, b3⟩ := take1 _ _ _ _ a3
      have hlt : (n : Int) < (s.size : Int) := by clear ih hd a2 a3 b2 b3; omega
      have hle2 : ¬ ((n : Int) + 2 > (s.size : Int)) := by clear ih hd a2 a3 b2 b3; omega
      have hn8 : (n : Int) ≤ 100000 := by clear ih hd a2 a3 b1 b2 b3 a1; omega
      rw [rd_bytesOf] at a2 b2
      rw [show ((n + 1 : Nat) : Int) = (n : Int) + 1 by omega] at b2
      have e1 : wrap64 ((n : Int) + 2) = ((n + 2 : Nat) : Int) := near n 2 hn7 (by decide)
      have ec : c / 256 % 256 * 256 + c % 256 = c := by omega
      have b4 : (bytesOf s).drop (n + 2) = wls m := b3
      have hn2 : n + 2 ≤ s.size := by rw [← hsz]; exact b1
      have st := ih (k + 1) (n + 2) (x ++ [c]) hv' b4 hn2 (Nat.le_trans hx1 (Nat.le_succ _)) hk1
      rw [List.append_assoc] at st
      have hj : utf_Narrow.j1 (k + 2) s x n c 2 false = some (x ++ c :: m, 0, 0) := by
        rw [utf_Narrow.j1, if_neg (by decide), hp, Option.bind_some, if_pos rfl, if_pos hx', e1, st]
        rfl
      rw [utf_Narrow.l0, if_pos hlt, unit_f s n (Int.natCast_nonneg n) hn8, Option.bind_some, if_neg hle2, a2, b2, ec]
      by_cases g : 55296 ≤ c
      · rw [if_pos g, decide_eq_false (show ¬ c < 56320 by omega)]
        exact hj
      · rw [if_neg g]
        exact hj
    · have ew : wl c = [(55296 + (c - 65536) / 1024) / 256 % 256, (55296 + (c - 65536) / 1024) % 256, (56320 + (c - 65536) % 1024) / 256 % 256, (56320 + (c - 65536) % 1024) % 256] := by unfold wl; rw [if_neg h]
      rw [ew] at hd
      simp only [List.cons_append, List.nil_append] at hd
      obtain ⟨a1, a2, a3⟩ := take1 _ _ _ _ hd
      obtain ⟨b1, b2, b3⟩ := take1 _ _ _ _ a3
      obtain ⟨c1, c2, c3⟩ := take1 _ _ _ _ b3
      obtain ⟨d1, d2, d3⟩ := take1 _ _ _ _ c3
      have hlt : (n : Int) < (s.size : Int) := by clear ih hd a2 a3 b2 b3 c2 c3 d2 d3; omega
      have hle2 : ¬ ((n : Int) + 2 > (s.size : Int)) := by clear ih hd a2 a3 b2 b3 c2 c3 d2 d3; omega
      have hle4 : ¬ ((n : Int) + 2 + 2 > (s.size : Int)) := by clear ih hd a2 a3 b2 b3 c2 c3 d2 d3; omega
      have hn8 : (n : Int) ≤ 100000 := by clear ih hd a2 a3 b2 b3 c2 c3 d2 d3 a1 b1 c1 d1; omega
      have hn9 : (0 : Int) ≤ (n : Int) + 2 := by clear ih hd a2 a3 b2 b3 c2 c3 d2 d3 a1 b1 c1 d1; omega
      have hn10 : (n : Int) + 2 ≤ 100000 := by clear ih hd a2 a3 b2 b3 c2 c3 d2 d3 a1 b1 c1 d1; omega
      rw [rd_bytesOf] at a2 b2 c2 d2
      obtain ⟨u, hu⟩ : ∃ u, 55296 + (c - 65536) / 1024 = u := ⟨_, rfl⟩
      obtain ⟨v, hw⟩ : ∃ v, 56320 + (c - 65536) % 1024 = v := ⟨_, rfl⟩
      rw [hu] at a2 b2
      rw [hw] at c2 d2
      rw [show ((n + 1 : Nat) : Int) = (n : Int) + 1 by omega] at b2
      rw [show ((n + 1 + 1 : Nat) : Int) = (n : Int) + 2 by omega] at c2
      rw [show ((n + 1 + 1 + 1 : Nat) : Int) = (n : Int) + 2 + 1 by omega] at d2
      have b4 : (bytesOf s).drop (n + 4) = wls m := d3
      have hn2 : n + 4 ≤ s.size := by rw [← hsz]; exact d1
      have st := ih k (n + 4) (x ++ [c]) hv' b4 hn2 (Nat.le_trans hx1 (Nat.add_le_add_left (by decide) n)) hk0
      rw [List.append_assoc] at st
      have hu1 : 55296 ≤ u ∧ u < 56320 := by omega
      have hv1 : 56320 ≤ v ∧ v < 57344 := by omega
      have eu : u / 256 % 256 * 256 + u % 256 = u := by omega
      have ev : v / 256 % 256 * 256 + v % 256 = v := by omega
      have e1 : wrap64 ((n : Int) + 2) = (n : Int) + 2 := near n 2 hn7 (by decide)
      have e4 : wrap64 ((n : Int) + 4) = ((n + 4 : Nat) : Int) := near n 4 hn7 (by decide)
      have f1 : wrap64 (u - 55296) = u - 55296 := w_in (by omega)
      have f2 : wrap64 ((u - 55296) * 1024) = (u - 55296) * 1024 := w_in (by omega)
      have f3 : wrap64 (65536 + (u - 55296) * 1024) = 65536 + (u - 55296) * 1024 := w_in (by omega)
      have f4 : wrap64 (65536 + (u - 55296) * 1024 + v) = 65536 + (u - 55296) * 1024 + v := w_in (by omega)
      have f5 : wrap64 (65536 + (u - 55296) * 1024 + v - 56320) = c := by rw [w_in (by omega)]; omega
      rw [utf_Narrow.l0, if_pos hlt, unit_f s n (Int.natCast_nonneg n) hn8, Option.bind_some, if_neg hle2, a2, b2, eu, if_pos hu1.1, decide_eq_true hu1.2, utf_Narrow.j1, if_pos rfl, e1, unit_f s _ hn9 hn10, Option.bind_some,
        if_neg hle4, c2, d2, ev, if_neg (show ¬ v < 56320 by omega), decide_eq_false (show ¬ v ≥ 57344 by omega), utf_Narrow.j2, if_neg (by decide), f1, f2, f3, f4, f5, hp, Option.bind_some, if_pos rfl, if_pos hx', e4, st]
      rfl
theorem narrow_f (m : List Int) (hm : m.length ≤ 4096) (hv : ∀ c ∈ m, valid c) (K : Nat) (hK : 100000 ≤ K) : utf_Narrow.f K (strOfNums ([254, 255] ++ wls m)) = some (m, 0, 0) := by
  have hb : bytesOf (strOfNums ([254, 255] ++ wls m)) = [254, 255] ++ wls m := bytes_str _ (fun x hx => by
    rcases List.mem_append.1 hx with h | h
    · simp at h; omega
    · exact wls_range m x h)
  have hz := strOfNums_size ([254, 255] ++ wls m)
  have hl := wls_len m
  rw [List.length_append] at hz
  have hz2 : ([254, 255] : List Int).length = 2 := rfl
  generalize strOfNums ([254, 255] ++ wls m) = s at hb hz
  have p0 : bt s 0 = 254 := by rw [← rd_bytesOf, hb]; rfl
  have p1 : bt s 1 = 255 := by rw [← rd_bytesOf, hb]; rfl
  unfold utf_Narrow.f
  rw [prefix_f, decide_eq_true ⟨by omega, p0, p1⟩, Option.bind_some, if_pos rfl]
  have h := nar_run s (by omega) m K 2 [] hv (by rw [hb]; rfl) (by omega) (by simp) (by omega)
  exact h

theorem same_f (m : List Int) (hm : m.length ≤ 70004) (K : Nat) (hK : 100000 ≤ K) : colophonkeep_Same.f K m m = some true := by
  unfold colophonkeep_Same.f
  rw [if_pos rfl]
  exact same_l0 m hm m.length K 0 (by omega) (by omega) (by omega)
theorem j0_f (s : ByteArray) (hs : s.size ≤ 65536) (K : Nat) (hK : 200000 ≤ K) : colophonlaw04_UtfBack.j0 K s = some true := by
  obtain ⟨K, rfl⟩ : ∃ q, K = q + 1 := ⟨K - 1, by omega⟩
  have hl : s.data.toList.length = s.size := by rw [Array.length_toList]; rfl
  obtain ⟨m, rest, a, b, c⟩ := split_enc _ s.data.toList (Nat.le_refl _)
  have hm := enc_len m
  have hz := congrArg List.length a
  rw [List.length_append, hl] at hz
  have hw := wakes_k K (by omega)
  rw [colophonlaw04_UtfBack.j0]
  rcases c with rfl | c
  · rw [List.append_nil] at a
    have he : (⟨(enc m).toArray⟩ : ByteArray).toList = s.toList := by rw [Go.ByteArray.toList_eq, Go.ByteArray.toList_eq, a]
    rw [decode_all s (by omega) K (by omega) m b a, Option.bind_some, if_pos rfl, encode_f m (by omega) K (by omega), if_pos b, Option.bind_some, if_pos rfl, if_pos he, hw]
    rfl
  · have hr : 0 < rest.length := List.length_pos_iff.2 c.1
    have hcut : (s.extract 0 (enc m).length).data.toList = enc m := by
      rw [ByteArray.data_extract, Array.toList_extract]
      unfold List.extract
      rw [List.drop_zero, Nat.sub_zero, a, List.take_left]
    have hcz : (s.extract 0 (enc m).length).size ≤ 70000 := by
      have : (s.extract 0 (enc m).length).size = (s.extract 0 (enc m).length).data.toList.length := by rw [Array.length_toList]; rfl
      rw [this, hcut]
      omega
    have hmm : mx 0 (mn ((enc m).length : Int) (s.size : Int)) = ((enc m).length : Int) := by unfold mx mn; omega
    rw [decode_part s (by omega) K (by omega) m rest b a c, Option.bind_some, if_neg (by show ¬ ((40 : Int) = 0); decide)]
    show (if 0 ≤ mx 0 (mn ((enc m).length : Int) (s.size : Int)) then _ else _) = _
    rw [hmm, if_pos (by omega), if_pos (by omega), Int.toNat_natCast, decode_all _ hcz K (by omega) m b hcut, Option.bind_some]
    show (if ((enc m).length : Int) ≥ 0 then (if ((enc m).length : Int) < (s.size : Int) then (if ((([] : List Int).length : Nat) : Int) = 0 then (if (0 : Int) = 0 then (if (m.length : Int) ≤ ((enc m).length : Int) then _ else _) else _) else _) else _) else _) = _
    rw [if_pos (by omega), if_pos (by omega), if_pos (show ((([] : List Int).length : Nat) : Int) = 0 from rfl), if_pos (show (0 : Int) = 0 from rfl), if_pos (by omega), hw]
    rfl
theorem pureK (K : Nat) (hK : 300000 ≤ K) (l : List Int) (s : ByteArray) : colophonlaw04_UtfBack.f K l s = some true := by
  unfold colophonlaw04_UtfBack.f
  by_cases h : (s.size : Int) > 65536
  · rw [if_pos h, wakes_k K (by omega)]
    rfl
  · have hm : (l.take 4096).length ≤ 4096 := by rw [List.length_take]; omega
    have hj := j0_f s (by omega) K (by omega)
    rw [if_neg h, ints_f, Option.bind_some]
    generalize l.take 4096 = m at hm
    rw [encode_f m (by omega) K (by omega), wide_f m hm K (by omega)]
    by_cases g : ∀ c ∈ m, valid c
    · have hl := enc_len m
      rw [if_pos g, if_pos g, Option.bind_some, Option.bind_some, if_pos rfl, if_pos rfl]
      show ((utf_Decode.f K (⟨(enc m).toArray⟩ : ByteArray)).bind fun bt172 => ((utf_Narrow.f K (strOfNums ([254, 255] ++ wls m))).bind fun bt177 => _)) = _
      have hsz : (⟨(enc m).toArray⟩ : ByteArray).size = (enc m).length := rfl
      rw [decode_all _ (by omega) K (by omega) m g rfl, narrow_f m hm g K (by omega), Option.bind_some, Option.bind_some]
      show (if (0 : Int) = 0 then (if (0 : Int) = 0 then ((colophonkeep_Same.f K m m).bind fun t182 => (if t182 = true then ((colophonkeep_Same.f K m m).bind fun t183 => (if t183 = true then colophonlaw04_UtfBack.j0 K s else some false)) else some false)) else some false) else some false) = _
      rw [if_pos rfl, if_pos rfl, same_f m (by omega) K (by omega), Option.bind_some, if_pos rfl, Option.bind_some, if_pos rfl, hj]
    · rw [if_neg g, if_neg g, Option.bind_some, Option.bind_some, if_pos rfl, if_neg (by show ¬ ((40 : Int) = 0); decide), hj]
theorem pure (l : List Int) (s : ByteArray) : ∃ k, colophonlaw04_UtfBack.f k l s = some true := ⟨300000, pureK 300000 (Nat.le_refl _) l s⟩

end Go.Proofs.YtgehocejaipacaaDoor.PureUtfBack
