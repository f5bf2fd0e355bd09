/- For StyleLast: what is large, copies, and what fits an element. -/
import Derived.Test.YtpembifnjlekdaaPStyleLastx5
import Derived.Test.YtpembifnjlekdaaPStyleLastx7
namespace Go.Proofs.Ytpembifnjlekdaa.PureStyleLast
open Go.RowKit Go.Proofs.Ytpembifnjlekdaa Go.Proofs.Ytpembifnjlekdaa.PStyleLast Go.Proofs.YtpembifnjlekdaaW.PrintWords Go.Proofs.YtpembifnjlekdaaW.PrintLast Go.Proofs.YtpembifnjlekdaaW.PrintMore
theorem w_in {e : Int} (h : -9223372036854775808 ≤ e ∧ e ≤ 9223372036854775807) : wrap64 e = e := by unfold wrap64; omega
/-! ### what the reader gives -/
def OK78 (x : S78) : Prop := x.f0.size ≤ 140737488351232 ∧ x.f1.size ≤ 140737488351232 ∧ (x.f2.length * 16 ≤ 140737488351232 ∧ ∀ s ∈ x.f2, s.size ≤ 140737488351232) ∧ True
def OK45 (x : S45) : Prop := x.f0.length * 64 ≤ 140737488351232 ∧ ∀ p ∈ x.f0, OK78 p
def OK47 (x : S47) : Prop := (Lit.int .i64 x.f0).wf = true ∧ (Lit.int .i64 x.f1).wf = true
def OK41 (x : S41) : Prop := (x.f0.length * 24 ≤ 140737488351232 ∧ ∀ s ∈ x.f0, OK45 s) ∧ (x.f1.length * 16 ≤ 140737488351232 ∧ ∀ d ∈ x.f1, OK47 d)
def OKL (l : List S41) : Prop := l.length * 48 ≤ 140737488351232 ∧ ∀ x ∈ l, OK41 x
def OK56 (x : S56) : Prop := x.f0.size ≤ 140737488351232 ∧ x.f1.size ≤ 140737488351232 ∧ (x.f2.length * 16 ≤ 140737488351232 ∧ ∀ s ∈ x.f2, s.size ≤ 140737488351232)
def OKP (l : List S56) : Prop := l.length * 56 ≤ 140737488351232 ∧ ∀ x ∈ l, OK56 x
theorem getD_mem {α : Type} (l : List α) (j : Nat) (d : α) (h : j < l.length) : l.getD j d ∈ l := by
  rw [List.getD_eq_getElem?_getD, List.getElem?_eq_getElem h]
  exact List.getElem_mem h
theorem mem78 {l : List S78} {j : Nat} (h : j < l.length) : rd_T78 l (j : Int) ∈ l := getD_mem l j z78 h
theorem mem41 {l : List S41} {j : Nat} (h : j < l.length) : rd_T41 l (j : Int) ∈ l := getD_mem l j z41 h
theorem mem45 {l : List S45} {j : Nat} (h : j < l.length) : rd_T45 l (j : Int) ∈ l := getD_mem l j z45 h
theorem mem56 {l : List S56} {j : Nat} (h : j < l.length) : rd_T56 l (j : Int) ∈ l := getD_mem l j z56 h
theorem memB {l : List ByteArray} {j : Nat} (h : j < l.length) : rdOf ByteArray.empty l (j : Int) ∈ l := getD_mem l j ByteArray.empty h
theorem dropG {α : Type} (l : List α) (j : Nat) (d : α) (h : j < l.length) : l.drop j = l.getD j d :: l.drop (j + 1) := by
  rw [List.drop_eq_getElem_cons h]
  simp [List.getD_eq_getElem?_getD, h]
theorem drop78 {l : List S78} {j : Nat} (h : j < l.length) : l.drop j = rd_T78 l (j : Int) :: l.drop (j + 1) := dropG l j z78 h
theorem drop41 {l : List S41} {j : Nat} (h : j < l.length) : l.drop j = rd_T41 l (j : Int) :: l.drop (j + 1) := dropG l j z41 h
theorem drop45 {l : List S45} {j : Nat} (h : j < l.length) : l.drop j = rd_T45 l (j : Int) :: l.drop (j + 1) := dropG l j z45 h
theorem drop56 {l : List S56} {j : Nat} (h : j < l.length) : l.drop j = rd_T56 l (j : Int) :: l.drop (j + 1) := dropG l j z56 h
theorem dropB {l : List ByteArray} {j : Nat} (h : j < l.length) : l.drop j = rdOf ByteArray.empty l (j : Int) :: l.drop (j + 1) := dropG l j ByteArray.empty h
theorem casN (j : Nat) (h : j ≤ 4611686018427387904) : wrap64 ((j : Int) + 1) = ((j + 1 : Nat) : Int) := by rw [w_in (by omega)]; omega
/-! ### what is large -/
theorem size_l1 (ps : List S78) (hok : ∀ p ∈ ps, OK78 p) (i : Nat) (hi : i < ps.length) (hL : ps.length ≤ 140737488351232) : ∀ (d j : Nat) (n : Int), j + d = min (rd_T78 ps (i : Int)).f2.length 40 → 0 ≤ n → n + (d : Int) * 1407374883513 ≤ 4000000000000000 →
    ∃ n', n ≤ n' ∧ n' ≤ n + (d : Int) * 1407374883513 ∧ ∀ k, colophonlaw19_size.l1 (k + (d + 1)) n (i : Int) (j : Int) ps = colophonlaw19_size.l0 k n' ((i + 1 : Nat) : Int) ps := by
  have hp := hok _ (mem78 hi)
  intro d
  induction d with
  | zero =>
    intro j n hj h0 hn
    refine ⟨n, Int.le_refl _, by omega, fun k => ?_⟩
    rw [colophonlaw19_size.l1, if_pos (by omega), if_pos (by omega), casN i (by omega)]
    by_cases c : (j : Int) < ((rd_T78 ps (i : Int)).f2.length : Int)
    · rw [if_pos c, if_neg (by omega)]
    · rw [if_neg c]
  | succ d ih =>
    intro j n hj h0 hn
    have hjl : j < (rd_T78 ps (i : Int)).f2.length := by omega
    have hs := hp.2.2.1.2 _ (memB hjl)
    obtain ⟨z, hz⟩ : ∃ z, ((rdOf ByteArray.empty (rd_T78 ps (i : Int)).f2 (j : Int)).size : Int) / 100 = z := ⟨_, rfl⟩
    have hq : 0 ≤ z ∧ z ≤ 1407374883513 := by omega
    obtain ⟨n', h1, h2, h3⟩ := ih (j + 1) (n + z) (by omega) (by omega) (by omega)
    refine ⟨n', by omega, by omega, fun k => ?_⟩
    rw [show k + (d + 1 + 1) = (k + (d + 1)) + 1 by omega, colophonlaw19_size.l1, if_pos (by omega), if_pos (by omega), if_pos (by omega), if_pos (by omega), if_pos (by omega), hz, w_in (e := z) (by omega), w_in (e := n + z) (by omega), casN j (by omega)]
    exact h3 k
theorem size_l0 (ps : List S78) (hok : ∀ p ∈ ps, OK78 p) (hL : ps.length ≤ 140737488351232) : ∀ (c k i : Nat) (n : Int), i ≤ ps.length → 0 ≤ n → n ≤ 2000000000000000 → (3001 : Int) ≤ n + (c : Int) → 50 * c + 3 ≤ k →
    ∃ t, colophonlaw19_size.l0 k n (i : Int) ps = some t ∧ n ≤ t ∧ t ≤ 2000000000000000 ∧ (t ≤ 3000 → n + ((ps.length : Int) - (i : Int)) ≤ t ∧ ∀ p ∈ ps.drop i, (p.f2.length : Int) ≤ t) := by
  intro c
  induction c with
  | zero =>
    intro k i n hi h0 hn hc hk
    obtain ⟨k, rfl⟩ : ∃ q, k = q + 2 := ⟨k - 2, by omega⟩
    refine ⟨n, ?_, Int.le_refl _, hn, fun h => by omega⟩
    rw [colophonlaw19_size.l0]
    by_cases c1 : (i : Int) < (ps.length : Int)
    · rw [if_pos c1, colophonlaw19_size.j1, if_neg (by rw [decide_eq_true_eq]; omega)]
    · rw [if_neg c1, colophonlaw19_size.j1, if_neg (by decide)]
  | succ c ih =>
    intro k i n hi h0 hn hc hk
    obtain ⟨k, rfl⟩ : ∃ q, k = q + 2 := ⟨k - 2, by omega⟩
    rw [colophonlaw19_size.l0]
    by_cases c1 : (i : Int) < (ps.length : Int)
    · rw [if_pos c1, colophonlaw19_size.j1]
      by_cases c2 : n ≤ 3000
      · have hi' : i < ps.length := by omega
        have hp := hok _ (mem78 hi')
        have hcl : ((rd_T78 ps (i : Int)).f2.length : Int) ≤ 140737488351232 := by have := hp.2.2.1.1; omega
        obtain ⟨a, ha⟩ : ∃ z, ((rd_T78 ps (i : Int)).f0.size : Int) / 100 = z := ⟨_, rfl⟩
        obtain ⟨b, hb⟩ : ∃ z, ((rd_T78 ps (i : Int)).f1.size : Int) / 100 = z := ⟨_, rfl⟩
        have hA : 0 ≤ a ∧ a ≤ 1407374883513 := by have := hp.1; omega
        have hB : 0 ≤ b ∧ b ≤ 1407374883513 := by have := hp.2.1; omega
        rw [if_pos (by rw [decide_eq_true_eq]; exact c2), if_pos (by omega), if_pos c1, ha, hb, w_in (e := a) (by omega), w_in (e := b) (by omega)]
        obtain ⟨cl, hcl'⟩ : ∃ z, ((rd_T78 ps (i : Int)).f2.length : Int) = z := ⟨_, rfl⟩
        rw [hcl'] at hcl ⊢
        rw [w_in (e := 1 + cl) (by omega), w_in (e := 1 + cl + a) (by omega), w_in (e := 1 + cl + a + b) (by omega), w_in (e := n + (1 + cl + a + b)) (by omega)]
        obtain ⟨n', h1, h2, h3⟩ := size_l1 ps hok i hi' hL (min (rd_T78 ps (i : Int)).f2.length 40) 0 (n + (1 + cl + a + b)) (by omega) (by omega) (by omega)
        obtain ⟨k', rfl⟩ : ∃ q, k = q + (min (rd_T78 ps (i : Int)).f2.length 40 + 1) := ⟨k - (min (rd_T78 ps (i : Int)).f2.length 40 + 1), by omega⟩
        have h3' := h3 k'
        rw [show ((0 : Nat) : Int) = 0 from rfl] at h3'
        rw [h3']
        obtain ⟨t, t1, t2, t3, t4⟩ := ih k' (i + 1) n' (by omega) (by omega) (by omega) (by omega) (by omega)
        refine ⟨t, t1, by omega, t3, fun h => ?_⟩
        obtain ⟨u1, u2⟩ := t4 h
        refine ⟨by omega, fun p hp => ?_⟩
        rw [drop78 hi', List.mem_cons] at hp
        rcases hp with rfl | hp
        · omega
        · exact u2 p hp
      · rw [if_neg (by rw [decide_eq_true_eq]; exact c2)]
        exact ⟨n, rfl, Int.le_refl _, hn, fun h => absurd h c2⟩
    · rw [if_neg c1, colophonlaw19_size.j1, if_neg (by decide)]
      refine ⟨n, rfl, Int.le_refl _, hn, fun h => ⟨by omega, fun p hp => ?_⟩⟩
      rw [List.drop_eq_nil_of_le (by omega)] at hp
      simp at hp
def G45 (s : S45) : Prop := s.f0.length ≤ 3000 ∧ ∀ p ∈ s.f0, p.f2.length ≤ 3000
def G41 (x : S41) : Prop := x.f1.length ≤ 3000 ∧ x.f0.length ≤ 3000 ∧ ∀ s ∈ x.f0, G45 s
theorem size_f (ps : List S78) (hok : ∀ p ∈ ps, OK78 p) (hL : ps.length ≤ 140737488351232) (K : Nat) (hK : 200000 ≤ K) : ∃ t, colophonlaw19_size.f K ps = some t ∧ 0 ≤ t ∧ t ≤ 2000000000000000 ∧ (t ≤ 3000 → G45 ⟨ps⟩) := by
  obtain ⟨t, t1, t2, t3, t4⟩ := size_l0 ps hok hL 3001 K 0 0 (Nat.zero_le _) (by omega) (by omega) (by omega) (by omega)
  refine ⟨t, t1, t2, t3, fun h => ⟨?_, fun p hp => ?_⟩⟩
  · have := (t4 h).1
    show ps.length ≤ 3000
    omega
  · have := (t4 h).2 p hp
    omega
theorem large_both (l : List S41) (hok : OKL l) : ∀ c : Nat,
    (∀ (k i : Nat) (n : Int), i ≤ l.length → 0 ≤ n → n ≤ 3000000000000000 → (3001 : Int) ≤ n + (c : Int) → 200000 + 4 * c + 3 ≤ k → ∃ t, colophonlaw19_Large.l0 k l n (i : Int) = some t ∧ (t = false → n ≤ 3000 ∧ ∀ x ∈ l.drop i, G41 x)) ∧
    (∀ (k i j : Nat) (n : Int), i < l.length → j ≤ (rd_T41 l (i : Int)).f0.length → 0 ≤ n → n ≤ 3000000000000000 → (3001 : Int) ≤ n + (c : Int) → 200000 + 4 * c + 4 ≤ k → ∃ t, colophonlaw19_Large.l1 k l n (i : Int) (j : Int) = some t ∧ (t = false → n + (((rd_T41 l (i : Int)).f0.length : Int) - (j : Int)) ≤ 3000 ∧ (∀ s ∈ (rd_T41 l (i : Int)).f0.drop j, G45 s) ∧ ∀ x ∈ l.drop (i + 1), G41 x)) := by
  have hLl := hok.1
  intro c
  induction c with
  | zero =>
    have A : ∀ (k i : Nat) (n : Int), i ≤ l.length → 0 ≤ n → n ≤ 3000000000000000 → (3001 : Int) ≤ n + ((0 : Nat) : Int) → 200000 + 4 * 0 + 3 ≤ k → ∃ t, colophonlaw19_Large.l0 k l n (i : Int) = some t ∧ (t = false → n ≤ 3000 ∧ ∀ x ∈ l.drop i, G41 x) := by
      intro k i n hi h0 hn hc hk
      obtain ⟨k, rfl⟩ : ∃ q, k = q + 2 := ⟨k - 2, by omega⟩
      have e : decide (n > 3000) = true := decide_eq_true (by omega)
      refine ⟨true, ?_, fun h => by simp at h⟩
      rw [colophonlaw19_Large.l0]
      by_cases c1 : (i : Int) < (l.length : Int)
      · rw [if_pos c1, colophonlaw19_Large.j1, if_neg (by rw [decide_eq_true_eq]; omega), e]
      · rw [if_neg c1, colophonlaw19_Large.j1, if_neg (by decide), e]
    refine ⟨A, fun k i j n hi hj h0 hn hc hk => ?_⟩
    obtain ⟨k, rfl⟩ : ∃ q, k = q + 1 := ⟨k - 1, by omega⟩
    obtain ⟨t, t1, t2⟩ := A k (i + 1) n (by omega) h0 hn hc (by omega)
    refine ⟨t, ?_, fun h => by have := (t2 h).1; omega⟩
    rw [colophonlaw19_Large.l1, if_pos (by omega), if_pos (by omega), casN i (by omega)]
    by_cases c1 : (j : Int) < ((rd_T41 l (i : Int)).f0.length : Int)
    · rw [if_pos c1, if_neg (by omega)]
      exact t1
    · rw [if_neg c1]
      exact t1
  | succ c ih =>
    obtain ⟨_, ihB⟩ := ih
    have A : ∀ (k i : Nat) (n : Int), i ≤ l.length → 0 ≤ n → n ≤ 3000000000000000 → (3001 : Int) ≤ n + ((c + 1 : Nat) : Int) → 200000 + 4 * (c + 1) + 3 ≤ k → ∃ t, colophonlaw19_Large.l0 k l n (i : Int) = some t ∧ (t = false → n ≤ 3000 ∧ ∀ x ∈ l.drop i, G41 x) := by
      intro k i n hi h0 hn hc hk
      obtain ⟨k, rfl⟩ : ∃ q, k = q + 2 := ⟨k - 2, by omega⟩
      rw [colophonlaw19_Large.l0]
      by_cases c1 : (i : Int) < (l.length : Int)
      · rw [if_pos c1, colophonlaw19_Large.j1]
        by_cases c2 : n ≤ 3000
        · have hi' : i < l.length := by omega
          have hx := hok.2 _ (mem41 hi')
          have hdl := hx.2.1
          rw [if_pos (by rw [decide_eq_true_eq]; exact c2), if_pos (by omega), if_pos c1, w_in (e := 1 + _) (by omega), w_in (e := n + (1 + _)) (by omega)]
          obtain ⟨t, t1, t2⟩ := ihB k i 0 (n + (1 + ((rd_T41 l (i : Int)).f1.length : Int))) hi' (Nat.zero_le _) (by omega) (by omega) (by omega) (by omega)
          refine ⟨t, t1, fun h => ?_⟩
          obtain ⟨u1, u2, u3⟩ := t2 h
          refine ⟨c2, fun x hx => ?_⟩
          rw [drop41 hi', List.mem_cons] at hx
          rcases hx with rfl | hx
          · exact ⟨by omega, by omega, u2⟩
          · exact u3 x hx
        · have e : decide (n > 3000) = true := decide_eq_true (by omega)
          rw [if_neg (by rw [decide_eq_true_eq]; exact c2), e]
          exact ⟨true, rfl, fun h => by simp at h⟩
      · rw [if_neg c1, colophonlaw19_Large.j1, if_neg (by decide)]
        refine ⟨_, rfl, fun h => ⟨by rw [decide_eq_false_iff_not] at h; omega, fun x hx => ?_⟩⟩
        rw [List.drop_eq_nil_of_le (by omega)] at hx
        simp at hx
    refine ⟨A, fun k i j n hi hj h0 hn hc hk => ?_⟩
    obtain ⟨k, rfl⟩ : ∃ q, k = q + 1 := ⟨k - 1, by omega⟩
    obtain ⟨t, t1, t2⟩ := A k (i + 1) n (by omega) h0 hn hc (by omega)
    have hx := hok.2 _ (mem41 hi)
    rw [colophonlaw19_Large.l1, if_pos (by omega), if_pos (by omega), casN i (by omega)]
    by_cases c1 : (j : Int) < ((rd_T41 l (i : Int)).f0.length : Int)
    · rw [if_pos c1]
      have hj' : j < (rd_T41 l (i : Int)).f0.length := by omega
      by_cases c2 : n ≤ 3000
      · have hs := hx.1.2 _ (mem45 hj')
        obtain ⟨u, u1, u2, u3, u4⟩ := size_f (rd_T45 (rd_T41 l (i : Int)).f0 (j : Int)).f0 hs.2 (by have := hs.1; omega) k (by omega)
        rw [if_pos c2, if_pos (by omega), u1, Option.bind_some, w_in (e := 1 + u) (by omega), w_in (e := n + (1 + u)) (by omega), casN j (by have := hx.1.1; omega)]
        obtain ⟨v, v1, v2⟩ := ihB k i (j + 1) (n + (1 + u)) hi (by omega) (by omega) (by omega) (by omega) (by omega)
        refine ⟨v, v1, fun h => ?_⟩
        obtain ⟨w1, w2, w3⟩ := v2 h
        refine ⟨by omega, fun s hs => ?_, w3⟩
        rw [drop45 hj', List.mem_cons] at hs
        rcases hs with rfl | hs
        · exact u4 (by omega)
        · exact w2 s hs
      · rw [if_neg c2]
        exact ⟨t, t1, fun h => absurd (t2 h).1 c2⟩
    · rw [if_neg c1]
      refine ⟨t, t1, fun h => ⟨by have := (t2 h).1; omega, fun s hs => ?_, (t2 h).2⟩⟩
      rw [List.drop_eq_nil_of_le (by omega)] at hs
      simp at hs
theorem wide_l0 (l : List S56) (hok : OKP l) : ∀ (c k i : Nat) (n : Int), i ≤ l.length → 0 ≤ n → n ≤ 3000000000000000 → (3001 : Int) ≤ n + (c : Int) → c + 1 ≤ k →
    ∃ t, colophonlaw19_Wide.l0 k l n (i : Int) = some t ∧ (t = false → n ≤ 3000 ∧ ∀ x ∈ l.drop i, x.f2.length ≤ 3000) := by
  have hLl := hok.1
  intro c
  induction c with
  | zero =>
    intro k i n hi h0 hn hc hk
    obtain ⟨k, rfl⟩ : ∃ q, k = q + 1 := ⟨k - 1, by omega⟩
    refine ⟨true, ?_, fun h => by simp at h⟩
    rw [colophonlaw19_Wide.l0]
    by_cases c1 : (i : Int) < (l.length : Int)
    · rw [if_pos c1, if_neg (by omega), if_pos (by omega)]
    · rw [if_neg c1, if_pos (by omega)]
  | succ c ih =>
    intro k i n hi h0 hn hc hk
    obtain ⟨k, rfl⟩ : ∃ q, k = q + 1 := ⟨k - 1, by omega⟩
    rw [colophonlaw19_Wide.l0]
    by_cases c1 : (i : Int) < (l.length : Int)
    · rw [if_pos c1]
      by_cases c2 : n ≤ 3000
      · have hi' : i < l.length := by omega
        have hx := (hok.2 _ (mem56 hi')).2.2.1
        rw [if_pos c2, if_pos (by omega), w_in (e := 1 + _) (by omega), w_in (e := n + (1 + _)) (by omega), casN i (by omega)]
        obtain ⟨t, t1, t2⟩ := ih k (i + 1) (n + (1 + ((rd_T56 l (i : Int)).f2.length : Int))) (by omega) (by omega) (by omega) (by omega) (by omega)
        refine ⟨t, t1, fun h => ⟨c2, fun x hx => ?_⟩⟩
        rw [drop56 hi', List.mem_cons] at hx
        rcases hx with rfl | hx
        · have := (t2 h).1
          omega
        · exact (t2 h).2 x hx
      · rw [if_neg c2, if_pos (by omega)]
        exact ⟨true, rfl, fun h => by simp at h⟩
    · rw [if_neg c1]
      by_cases c2 : n > 3000
      · rw [if_pos c2]
        exact ⟨true, rfl, fun h => by simp at h⟩
      · rw [if_neg c2]
        refine ⟨_, rfl, fun _ => ⟨by omega, fun x hx => ?_⟩⟩
        rw [List.drop_eq_nil_of_le (by omega)] at hx
        simp at hx
theorem large_f (l : List S41) (path : List S56) (hl : OKL l) (hp : OKP path) (K : Nat) (hK : 300000 ≤ K) : ∃ t, colophonlaw20_large.f K l path = some t ∧ (t = false → l.length ≤ 60 ∧ path.length ≤ 60 ∧ (∀ x ∈ l, G41 x) ∧ ∀ e ∈ path, e.f2.length ≤ 3000) := by
  obtain ⟨t, t1, t2⟩ := (large_both l hl 3001).1 K 0 0 (Nat.zero_le _) (by omega) (by omega) (by omega) (by omega)
  obtain ⟨u, u1, u2⟩ := wide_l0 path hp 3001 K 0 0 (Nat.zero_le _) (by omega) (by omega) (by omega) (by omega)
  have t1' : colophonlaw19_Large.f K l = some t := t1
  have u1' : colophonlaw19_Wide.f K path = some u := u1
  unfold colophonlaw20_large.f
  rw [t1', Option.bind_some]
  cases t with
  | true => exact ⟨true, by rw [if_pos rfl], fun h => by simp at h⟩
  | false =>
    rw [if_neg (by decide), u1', Option.bind_some]
    cases u with
    | true => exact ⟨true, by rw [if_pos rfl], fun h => by simp at h⟩
    | false =>
      rw [if_neg (by decide)]
      by_cases c1 : (l.length : Int) > 60
      · rw [if_pos c1]
        exact ⟨true, rfl, fun h => by simp at h⟩
      · rw [if_neg c1]
        exact ⟨_, rfl, fun h => ⟨by omega, by rw [decide_eq_false_iff_not] at h; omega, (t2 rfl).2, (u2 rfl).2⟩⟩

/-! ### copies -/
theorem copySel_l0 (ps : List S78) (hn : ps.length ≤ 3000) (hp : ∀ p ∈ ps, p.f2.length ≤ 3000) : ∀ (d k i : Nat) (out : List S78), i + d = ps.length → out.length = i → d + 1 ≤ k → colophonref19_CopySelector.l0 k out (i : Int) ps = some (out ++ ps.drop i) := by
  intro d
  induction d with
  | zero =>
    intro k i out hd ho hk
    obtain ⟨k, rfl⟩ : ∃ q, k = q + 1 := ⟨k - 1, by omega⟩
    rw [colophonref19_CopySelector.l0, if_neg (by omega), List.drop_eq_nil_of_le (by omega), List.append_nil]
  | succ d ih =>
    intro k i out hd ho hk
    obtain ⟨k, rfl⟩ : ∃ q, k = q + 1 := ⟨k - 1, by omega⟩
    have hi : i < ps.length := by omega
    have hc := hp _ (mem78 hi)
    rw [colophonref19_CopySelector.l0, if_pos (by omega), if_pos (by omega), Option.bind_some, if_pos (by rw [List.length_nil]; omega), if_pos (by omega), casN i (by omega), List.nil_append, ih k (i + 1) _ (by omega) (by rw [List.length_append]; simp; omega) (by omega), drop78 hi, List.append_assoc]
    rfl
theorem copySel_f (ps : List S78) (hn : ps.length ≤ 3000) (hp : ∀ p ∈ ps, p.f2.length ≤ 3000) (K : Nat) (hK : 3001 ≤ K) : colophonref19_CopySelector.f K ps = some ps := by
  have := copySel_l0 ps hn hp ps.length K 0 [] (by omega) rfl (by omega)
  exact this
theorem twin_l0 (l : List S56) (hn : l.length ≤ 60) (hp : ∀ p ∈ l, p.f2.length ≤ 3000) : ∀ (d k i : Nat) (out : List S56), i + d = l.length → out.length = i → d + 1 ≤ k → colophonlaw20_twin.l0 k l out (i : Int) = some (out ++ l.drop i) := by
  intro d
  induction d with
  | zero =>
    intro k i out hd ho hk
    obtain ⟨k, rfl⟩ : ∃ q, k = q + 1 := ⟨k - 1, by omega⟩
    rw [colophonlaw20_twin.l0, if_neg (by omega), List.drop_eq_nil_of_le (by omega), List.append_nil]
  | succ d ih =>
    intro k i out hd ho hk
    obtain ⟨k, rfl⟩ : ∃ q, k = q + 1 := ⟨k - 1, by omega⟩
    have hi : i < l.length := by omega
    have hc := hp _ (mem56 hi)
    rw [colophonlaw20_twin.l0, if_pos (by omega), if_pos (by omega), Option.bind_some, if_pos (by rw [List.length_nil]; omega), if_pos (by omega), casN i (by omega), List.nil_append, ih k (i + 1) _ (by omega) (by rw [List.length_append]; simp; omega) (by omega), drop56 hi, List.append_assoc]
    rfl
theorem twin_f (l : List S56) (hn : l.length ≤ 60) (hp : ∀ p ∈ l, p.f2.length ≤ 3000) (K : Nat) (hK : 61 ≤ K) : colophonlaw20_twin.f K l = some l := by
  have := twin_l0 l hn hp l.length K 0 [] (by omega) rfl (by omega)
  exact this
theorem copy_l1 (l : List S41) (hn : l.length ≤ 60) (hg : ∀ x ∈ l, G41 x) (i : Nat) (hi : i < l.length) (out : List S41) (ho : out.length ≤ 60) : ∀ (d k j : Nat) (acc : List S45), j + d = (rd_T41 l (i : Int)).f0.length → acc.length = j → 3001 ≤ k →
    colophonref19_Copy.l1 (k + (d + 1)) l out (i : Int) acc (j : Int) = colophonref19_Copy.l0 k l (out ++ [⟨acc ++ (rd_T41 l (i : Int)).f0.drop j, (rd_T41 l (i : Int)).f1⟩]) ((i + 1 : Nat) : Int) := by
  have hx := hg _ (mem41 hi)
  intro d
  induction d with
  | zero =>
    intro k j acc hd ha hk
    rw [colophonref19_Copy.l1, if_pos (by omega), if_pos (by omega), if_neg (by omega), Option.bind_some, if_pos (by rw [List.length_nil]; have := hx.1; omega), if_pos (by omega), casN i (by omega), List.drop_eq_nil_of_le (by omega), List.append_nil, List.nil_append]
  | succ d ih =>
    intro k j acc hd ha hk
    have hj : j < (rd_T41 l (i : Int)).f0.length := by omega
    have hs := hx.2.2 _ (mem45 hj)
    rw [show k + (d + 1 + 1) = (k + (d + 1)) + 1 by omega, colophonref19_Copy.l1, if_pos (by omega), if_pos (by omega), if_pos (by omega), if_pos (by omega), copySel_f _ hs.1 hs.2 _ (by omega), Option.bind_some, if_pos (by have := hx.2.1; omega), casN j (by have := hx.2.1; omega), ih k (j + 1) _ (by omega) (by rw [List.length_append]; simp; omega) hk, drop45 hj, List.append_assoc]
    rfl
theorem copy_l0 (l : List S41) (hn : l.length ≤ 60) (hg : ∀ x ∈ l, G41 x) : ∀ (d k i : Nat) (out : List S41), i + d = l.length → out.length = i → 3010 * d + 4000 ≤ k → colophonref19_Copy.l0 k l out (i : Int) = some (out ++ l.drop i) := by
  intro d
  induction d with
  | zero =>
    intro k i out hd ho hk
    obtain ⟨k, rfl⟩ : ∃ q, k = q + 1 := ⟨k - 1, by omega⟩
    rw [colophonref19_Copy.l0, if_neg (by omega), List.drop_eq_nil_of_le (by omega), List.append_nil]
  | succ d ih =>
    intro k i out hd ho hk
    have hi : i < l.length := by omega
    have hx := hg _ (mem41 hi)
    obtain ⟨k, rfl⟩ : ∃ q, k = (q + ((rd_T41 l (i : Int)).f0.length + 1)) + 1 := ⟨k - ((rd_T41 l (i : Int)).f0.length + 2), by have := hx.2.1; omega⟩
    have h1 := copy_l1 l hn hg i hi out (by omega) (rd_T41 l (i : Int)).f0.length k 0 [] (by omega) rfl (by have := hx.2.1; omega)
    rw [show ((0 : Nat) : Int) = 0 from rfl] at h1
    rw [colophonref19_Copy.l0, if_pos (by omega), h1, ih k (i + 1) _ (by omega) (by rw [List.length_append]; simp; omega) (by have := hx.2.1; omega), drop41 hi, List.append_assoc]
    rfl
theorem copy_f (l : List S41) (hn : l.length ≤ 60) (hg : ∀ x ∈ l, G41 x) (K : Nat) (hK : 200000 ≤ K) : colophonref19_Copy.f K l = some l := by
  have := copy_l0 l hn hg l.length K 0 [] (by omega) rfl (by omega)
  exact this

/-! ### a part fits an element -/
def hasB (ec : List ByteArray) (c : ByteArray) : Bool := ec.any (fun e => c.toList == e.toList)
theorem index_l0 (ec : List ByteArray) (hn : ec.length ≤ 3000) (c : ByteArray) : ∀ (d k j : Nat), j + d = ec.length → d + 1 ≤ k → ∃ t, slices_Index_string_string.l0 k ec c (ec.length : Int) (j : Int) = some t ∧ decide (t ≥ 0) = hasB (ec.drop j) c := by
  intro d
  induction d with
  | zero =>
    intro k j hd hk
    obtain ⟨k, rfl⟩ : ∃ q, k = q + 1 := ⟨k - 1, by omega⟩
    rw [slices_Index_string_string.l0, if_neg (by omega), List.drop_eq_nil_of_le (by omega)]
    exact ⟨_, rfl, rfl⟩
  | succ d ih =>
    intro k j hd hk
    obtain ⟨k, rfl⟩ : ∃ q, k = q + 1 := ⟨k - 1, by omega⟩
    have hj : j < ec.length := by omega
    rw [slices_Index_string_string.l0, if_pos (by omega), if_pos (by omega), if_pos (by omega), dropB hj]
    by_cases e : c.toList = (rdOf ByteArray.empty ec (j : Int)).toList
    · rw [if_pos e]
      refine ⟨_, rfl, ?_⟩
      rw [hasB, List.any_cons, beq_iff_eq.mpr e, Bool.true_or]
      exact decide_eq_true (by omega)
    · rw [if_neg e, casN j (by omega)]
      obtain ⟨t, t1, t2⟩ := ih k (j + 1) (by omega) (by omega)
      refine ⟨t, t1, ?_⟩
      rw [t2, hasB, hasB, List.any_cons, beq_eq_false_iff_ne.mpr e, Bool.false_or]
theorem contains_f (ec : List ByteArray) (hn : ec.length ≤ 3000) (c : ByteArray) (K : Nat) (hK : 3001 ≤ K) : slices_Contains_string_string.f K ec c = some (hasB ec c) := by
  obtain ⟨t, t1, t2⟩ := index_l0 ec hn c ec.length K 0 (by omega) (by omega)
  have t1' : slices_Index_string_string.f K ec c = some t := t1
  unfold slices_Contains_string_string.f
  rw [t1', Option.bind_some, t2, List.drop_zero]
theorem fits_l0 (pc ec : List ByteArray) (hp : pc.length ≤ 3000) (he : ec.length ≤ 3000) (en ei : ByteArray) : ∀ (d k j : Nat), j + d = pc.length → d + 3002 ≤ k → sheet_fits.l0 k pc (pc.length : Int) (j : Int) en ei ec = some ((pc.drop j).all (hasB ec)) := by
  intro d
  induction d with
  | zero =>
    intro k j hd hk
    obtain ⟨k, rfl⟩ : ∃ q, k = q + 1 := ⟨k - 1, by omega⟩
    rw [sheet_fits.l0, if_neg (by omega), List.drop_eq_nil_of_le (by omega), List.all_nil]
  | succ d ih =>
    intro k j hd hk
    obtain ⟨k, rfl⟩ : ∃ q, k = q + 1 := ⟨k - 1, by omega⟩
    have hj : j < pc.length := by omega
    rw [sheet_fits.l0, if_pos (by omega), if_pos (by omega), if_pos (by omega), contains_f ec he _ k (by omega), Option.bind_some, dropB hj, List.all_cons, casN j (by omega)]
    cases hasB ec (rdOf ByteArray.empty pc (j : Int)) with
    | true => rw [if_pos rfl, ih k (j + 1) (by omega) (by omega), Bool.true_and]
    | false => rw [if_neg (by decide), Bool.false_and]
theorem rfits_l1 (pn pd : ByteArray) (pc ec : List ByteArray) (pk : Bool) (hp : pc.length ≤ 3000) (he : ec.length ≤ 3000) (en ei : ByteArray) (i : Nat) (hi : i < pc.length) : ∀ (d k j : Nat) (has : Bool), j + d = ec.length →
    colophonref19_Fits.l1 (k + (d + 1)) (i : Int) has (j : Int) pn pd pc pk en ei ec = if (has || hasB (ec.drop j) (rdOf ByteArray.empty pc (i : Int))) = true then colophonref19_Fits.l0 k ((i + 1 : Nat) : Int) pn pd pc pk en ei ec else some false := by
  intro d
  induction d with
  | zero =>
    intro k j has hd
    rw [colophonref19_Fits.l1, if_neg (by omega), List.drop_eq_nil_of_le (by omega), casN i (by omega)]
    have : hasB [] (rdOf ByteArray.empty pc (i : Int)) = false := rfl
    rw [this, Bool.or_false]
  | succ d ih =>
    intro k j has hd
    have hj : j < ec.length := by omega
    rw [show k + (d + 1 + 1) = (k + (d + 1)) + 1 by omega, colophonref19_Fits.l1, if_pos (by omega), casN j (by omega)]
    cases has with
    | true =>
      rw [if_pos rfl, ih k (j + 1) true (by omega), Bool.true_or, Bool.true_or]
    | false =>
      rw [if_neg (by decide), if_pos (by omega), if_pos (by omega), if_pos (by omega), ih k (j + 1) _ (by omega), dropB hj, hasB, hasB, List.any_cons, Bool.false_or]
      have e : ((rdOf ByteArray.empty ec (j : Int)).toList == (rdOf ByteArray.empty pc (i : Int)).toList) = ((rdOf ByteArray.empty pc (i : Int)).toList == (rdOf ByteArray.empty ec (j : Int)).toList) := by rw [Bool.eq_iff_iff, beq_iff_eq, beq_iff_eq]; exact eq_comm
      rw [e]
theorem rfits_l0 (pn pd : ByteArray) (pc ec : List ByteArray) (pk : Bool) (hp : pc.length ≤ 3000) (he : ec.length ≤ 3000) (en ei : ByteArray) : ∀ (d k i : Nat), i + d = pc.length → 3002 * d + 1 ≤ k → colophonref19_Fits.l0 k (i : Int) pn pd pc pk en ei ec = some ((pc.drop i).all (hasB ec)) := by
  intro d
  induction d with
  | zero =>
    intro k i hd hk
    obtain ⟨k, rfl⟩ : ∃ q, k = q + 1 := ⟨k - 1, by omega⟩
    rw [colophonref19_Fits.l0, if_neg (by omega), List.drop_eq_nil_of_le (by omega), List.all_nil]
  | succ d ih =>
    intro k i hd hk
    have hi : i < pc.length := by omega
    obtain ⟨k, rfl⟩ : ∃ q, k = (q + (ec.length + 1)) + 1 := ⟨k - (ec.length + 2), by omega⟩
    have h1 := rfits_l1 pn pd pc ec pk hp he en ei i hi ec.length k 0 false (by omega)
    rw [show ((0 : Nat) : Int) = 0 from rfl, Bool.false_or, List.drop_zero] at h1
    rw [colophonref19_Fits.l0, if_pos (by omega), h1, dropB hi, List.all_cons]
    cases hasB ec (rdOf ByteArray.empty pc (i : Int)) with
    | true => rw [if_pos rfl, ih k (i + 1) (by omega) (by omega), Bool.true_and]
    | false => rw [if_neg (by decide), Bool.false_and]
theorem fits_both (pn pd : ByteArray) (pc : List ByteArray) (pk : Bool) (en ei : ByteArray) (ec : List ByteArray) (hp : pc.length ≤ 3000) (he : ec.length ≤ 3000) (K : Nat) (hK : 10000000 ≤ K) :
    ∃ v, sheet_fits.f K pn pd pc pk en ei ec = some v ∧ colophonref19_Fits.f K pn pd pc pk en ei ec = some v := by
  obtain ⟨K, rfl⟩ : ∃ q, K = q + 1 := ⟨K - 1, by omega⟩
  have j : ∀ b : Bool, ∃ v, sheet_fits.j0 (K + 1) b pn pd pc pk en ei ec = some v ∧ colophonref19_Fits.j0 (K + 1) b pn pd pc pk en ei ec = some v := by
    intro b
    rw [sheet_fits.j0, colophonref19_Fits.j0]
    cases b with
    | true => exact ⟨false, by rw [if_pos rfl], by rw [if_pos rfl]⟩
    | false =>
      have h1 := fits_l0 pc ec hp he en ei pc.length K 0 (by omega) (by omega)
      have h2 := rfits_l0 pn pd pc ec pk hp he en ei pc.length K 0 (by omega) (by omega)
      rw [show ((0 : Nat) : Int) = 0 from rfl] at h1 h2
      exact ⟨_, by rw [if_neg (by decide)]; exact h1, by rw [if_neg (by decide)]; exact h2⟩
  unfold sheet_fits.f colophonref19_Fits.f
  by_cases c1 : pn.toList = ([] : List UInt8)
  · rw [if_pos c1, if_pos c1]
    by_cases c2 : pd.toList = ([] : List UInt8)
    · rw [if_pos c2, if_pos c2]
      exact j _
    · rw [if_neg c2, if_neg c2]
      exact j _
  · rw [if_neg c1, if_neg c1]
    by_cases c3 : pn.toList = en.toList
    · rw [if_pos c3, if_pos c3]
      by_cases c2 : pd.toList = ([] : List UInt8)
      · rw [if_pos c2, if_pos c2]
        exact j _
      · rw [if_neg c2, if_neg c2]
        exact j _
    · rw [if_neg c3, if_neg c3]
      exact j _
/-! ### a selector matches a path -/
theorem getD_set (l : List Bool) (i j : Nat) (v : Bool) (h : i < l.length) : (l.set i v).getD j false = if j = i then v else l.getD j false := by
  rw [List.getD_eq_getElem?_getD, List.getD_eq_getElem?_getD, List.getElem?_set]
  by_cases e : j = i
  · rw [if_pos e, if_pos e.symm, if_pos h]
    rfl
  · rw [if_neg e, if_neg (fun x => e x.symm)]
theorem cnd_both (i : Nat) (pk so aj : Bool) : cnd i pk so aj = rcnd i pk so aj := by
  unfold cnd rcnd
  by_cases c : i = 0
  · subst c
    cases pk <;> cases so <;> cases aj <;> rfl
  · have e1 : (i == 0) = false := beq_eq_false_iff_ne.mpr c
    have e2 : decide (0 < i) = true := decide_eq_true (by omega)
    rw [e1, e2]
    cases pk <;> cases so <;> cases aj <;> rfl
theorem inner_both (p : S78) (hp : p.f2.length ≤ 3000) (path : List S56) (hpath : ∀ e ∈ path, e.f2.length ≤ 3000) (K : Nat) (hK : 10000000 ≤ K) (i : Nat) (A : List Bool) (_hA : A.length = path.length) : ∀ (c j : Nat) (E N : List Bool) (sp sr : Bool), j + c = path.length → E.length = path.length → N.length = path.length →
    (∀ q, q < j → E.getD q false = N.getD q false) → (∀ q, j ≤ q → q < path.length → E.getD q false = A.getD q false) → sp = (sr || (decide (0 < j) && A.getD (j - 1) false)) →
    ∃ E', sheet_Match.inner K p path i c j E sp (decide (0 < j) && A.getD (j - 1) false) = some E' ∧ colophonref19_Match.inner K p path i A c j N sr = some E' ∧ E'.length = path.length := by
  intro c
  induction c with
  | zero =>
    intro j E N sp sr hj hE hN h1 h2 h3
    refine ⟨E, rfl, ?_, hE⟩
    have : N = E := by
      apply List.ext_getElem (by omega)
      intro q q1 q2
      have := h1 q (by omega)
      simpa [List.getD_eq_getElem?_getD, q1, q2] using this.symm
    rw [this]
    rfl
  | succ c ih =>
    intro j E N sp sr hj hE hN h1 h2 h3
    have hj' : j < path.length := by omega
    obtain ⟨v, f1, f2⟩ := fits_both p.f0 p.f1 p.f2 p.f3 (rd_T56 path (j : Int)).f0 (rd_T56 path (j : Int)).f1 (rd_T56 path (j : Int)).f2 hp (hpath _ (mem56 hj')) K hK
    rw [sheet_Match.inner, colophonref19_Match.inner, ← h3, cnd_both]
    obtain ⟨cc, hcc⟩ : ∃ z, rcnd i p.f3 sp (decide (0 < j) && A.getD (j - 1) false) = z := ⟨_, rfl⟩
    rw [hcc]
    have ex : ∃ t, (if cc = true then sheet_fits.f K p.f0 p.f1 p.f2 p.f3 (rd_T56 path (j : Int)).f0 (rd_T56 path (j : Int)).f1 (rd_T56 path (j : Int)).f2 else some false) = some t ∧ (if cc = true then colophonref19_Fits.f K p.f0 p.f1 p.f2 p.f3 (rd_T56 path (j : Int)).f0 (rd_T56 path (j : Int)).f1 (rd_T56 path (j : Int)).f2 else some false) = some t := by
      cases cc with
      | true => exact ⟨v, by rw [if_pos rfl]; exact f1, by rw [if_pos rfl]; exact f2⟩
      | false => exact ⟨false, by rw [if_neg (by decide)], by rw [if_neg (by decide)]⟩
    obtain ⟨t, t1, t2⟩ := ex
    rw [t1, t2, Option.bind_some, Option.bind_some]
    have hEj := h2 j (Nat.le_refl _) hj'
    have e1 : (decide (0 < j + 1) && A.getD (j + 1 - 1) false) = A.getD j false := by rw [decide_eq_true (by omega), Bool.true_and, Nat.add_sub_cancel]
    have := ih (j + 1) (E.set j t) (N.set j t) (sp || E.getD j false) sp (by omega) (by rw [List.length_set]; exact hE) (by rw [List.length_set]; exact hN)
      (fun q hq => by
        rw [getD_set E j q t (by omega), getD_set N j q t (by omega)]
        by_cases e : q = j
        · rw [if_pos e, if_pos e]
        · rw [if_neg e, if_neg e]
          exact h1 q (by omega))
      (fun q hq hq2 => by
        rw [getD_set E j q t (by omega), if_neg (by omega)]
        exact h2 q (by omega) hq2)
      (by rw [e1, hEj])
    rw [e1] at this
    rw [hEj] at this ⊢
    exact this
theorem go_both (path : List S56) (hpath : ∀ e ∈ path, e.f2.length ≤ 3000) (K : Nat) (hK : 10000000 ≤ K) : ∀ (ps : List S78) (i : Nat) (A : List Bool), (∀ p ∈ ps, p.f2.length ≤ 3000) → A.length = path.length →
    ∃ m, sheet_Match.go K path ps i A = some m ∧ colophonref19_Match.go K path ps i A = some m
  | [], i, A, _, _ => ⟨_, rfl, rfl⟩
  | p :: r, i, A, hp, hA => by
    obtain ⟨E, e1, e2, e3⟩ := inner_both p (hp p (List.mem_cons_self ..)) path hpath K hK i A hA path.length 0 A (List.replicate path.length false) (i == 0) (i == 0) (by omega) hA (by simp) (fun q hq => by omega) (fun _ _ _ => rfl) (by simp)
    rw [sheet_Match.go, colophonref19_Match.go]
    have e1' : sheet_Match.inner K p path i path.length 0 A (i == 0) false = some E := by simpa using e1
    rw [e1', e2, Option.bind_some, Option.bind_some]
    exact go_both path hpath K hK r (i + 1) E (fun q hq => hp q (List.mem_cons_of_mem _ hq)) e3
theorem match_both (ps : List S78) (path : List S56) (hn : ps.length ≤ 3000) (hm : path.length ≤ 60) (hp : ∀ p ∈ ps, p.f2.length ≤ 3000) (hpath : ∀ e ∈ path, e.f2.length ≤ 3000) (K : Nat) (hK : 10000000 ≤ K) :
    ∃ m, sheet_Match.f K ps path = some m ∧ colophonref19_Match.f K ps path = some m := by
  have hb : ps.length ≤ 100000 ∧ path.length ≤ 100000 := ⟨by omega, by omega⟩
  unfold sheet_Match.f colophonref19_Match.f
  rw [if_pos hb, if_pos hb]
  by_cases c : ps.length = 0 ∨ path.length = 0
  · rw [if_pos c, if_pos c]
    exact ⟨_, rfl, rfl⟩
  · rw [if_neg c, if_neg c]
    exact go_both path hpath K hK ps 0 _ hp (by simp)

end Go.Proofs.Ytpembifnjlekdaa.PureStyleLast
