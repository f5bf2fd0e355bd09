/- For StyleAll: what is large, copies, what fits, an element's style, how nodes are read, the pieces between blanks. -/
import Derived.Test.YtpembifnjlekdaaPStyleAllx5
import Derived.Test.YtpembifnjlekdaaPStyleAllx6
import Derived.Test.YtpembifnjlekdaaPStyleAllx7
import Derived.Test.YtpembifnjlekdaaPStyleAllx8
import Derived.Test.YtpembifnjlekdaaPStyleAllx13
import Derived.Test.YtpembifnjlekdaaRdU
import Derived.Laws.RangeAny
namespace Go.Proofs.Ytpembifnjlekdaa.PureStyleAll
open Go.RowKit Go.ChangeShapes Go.WideShapes Go.Proofs.Ytpembifnjlekdaa Go.Proofs.Ytpembifnjlekdaa.PStyleAll Go.Proofs.YtpembifnjlekdaaW.PrintWords Go.Proofs.YtpembifnjlekdaaW.PrintLast Go.Proofs.YtpembifnjlekdaaW.PrintMore
theorem w_in {e : Int} (h : -9223372036854775808 ≤ e ∧ e ≤ 9223372036854775807) : wrap64 e = e := by unfold wrap64; omega
/-! ### what the reader gives -/
def OK78 (x : S78) : Prop := x.f0.size ≤ 140737488351232 ∧ x.f1.size ≤ 140737488351232 ∧ (x.f2.length * 16 ≤ 140737488351232 ∧ ∀ s ∈ x.f2, s.size ≤ 140737488351232) ∧ True
def OK45 (x : S45) : Prop := x.f0.length * 64 ≤ 140737488351232 ∧ ∀ p ∈ x.f0, OK78 p
def OK47 (x : S47) : Prop := (Lit.int .i64 x.f0).wf = true ∧ (Lit.int .i64 x.f1).wf = true
def OK41 (x : S41) : Prop := (x.f0.length * 24 ≤ 140737488351232 ∧ ∀ s ∈ x.f0, OK45 s) ∧ (x.f1.length * 16 ≤ 140737488351232 ∧ ∀ d ∈ x.f1, OK47 d)
def OKL (l : List S41) : Prop := l.length * 48 ≤ 140737488351232 ∧ ∀ x ∈ l, OK41 x
def OK56 (x : S56) : Prop := x.f0.size ≤ 140737488351232 ∧ x.f1.size ≤ 140737488351232 ∧ (x.f2.length * 16 ≤ 140737488351232 ∧ ∀ s ∈ x.f2, s.size ≤ 140737488351232)
def OKP (l : List S56) : Prop := l.length * 56 ≤ 140737488351232 ∧ ∀ x ∈ l, OK56 x
theorem getD_mem {α : Type} (l : List α) (j : Nat) (d : α) (h : j < l.length) : l.getD j d ∈ l := by
  rw [List.getD_eq_getElem?_getD, List.getElem?_eq_getElem h]
  exact List.getElem_mem h
theorem mem78 {l : List S78} {j : Nat} (h : j < l.length) : rd_T78 l (j : Int) ∈ l := getD_mem l j z78 h
theorem mem41 {l : List S41} {j : Nat} (h : j < l.length) : rd_T41 l (j : Int) ∈ l := getD_mem l j z41 h
theorem mem45 {l : List S45} {j : Nat} (h : j < l.length) : rd_T45 l (j : Int) ∈ l := getD_mem l j z45 h
theorem mem56 {l : List S56} {j : Nat} (h : j < l.length) : rd_T56 l (j : Int) ∈ l := getD_mem l j z56 h
theorem memB {l : List ByteArray} {j : Nat} (h : j < l.length) : rdOf ByteArray.empty l (j : Int) ∈ l := getD_mem l j ByteArray.empty h
theorem dropG {α : Type} (l : List α) (j : Nat) (d : α) (h : j < l.length) : l.drop j = l.getD j d :: l.drop (j + 1) := by
  rw [List.drop_eq_getElem_cons h]
  simp [List.getD_eq_getElem?_getD, h]
theorem drop78 {l : List S78} {j : Nat} (h : j < l.length) : l.drop j = rd_T78 l (j : Int) :: l.drop (j + 1) := dropG l j z78 h
theorem drop41 {l : List S41} {j : Nat} (h : j < l.length) : l.drop j = rd_T41 l (j : Int) :: l.drop (j + 1) := dropG l j z41 h
theorem drop45 {l : List S45} {j : Nat} (h : j < l.length) : l.drop j = rd_T45 l (j : Int) :: l.drop (j + 1) := dropG l j z45 h
theorem drop56 {l : List S56} {j : Nat} (h : j < l.length) : l.drop j = rd_T56 l (j : Int) :: l.drop (j + 1) := dropG l j z56 h
theorem dropB {l : List ByteArray} {j : Nat} (h : j < l.length) : l.drop j = rdOf ByteArray.empty l (j : Int) :: l.drop (j + 1) := dropG l j ByteArray.empty h
theorem casN (j : Nat) (h : j ≤ 4611686018427387904) : wrap64 ((j : Int) + 1) = ((j + 1 : Nat) : Int) := by rw [w_in (by omega)]; omega
/-! ### what is large -/
theorem size_l1 (ps : List S78) (hok : ∀ p ∈ ps, OK78 p) (i : Nat) (hi : i < ps.length) (hL : ps.length ≤ 140737488351232) : ∀ (d j : Nat) (n : Int), j + d = min (rd_T78 ps (i : Int)).f2.length 40 → 0 ≤ n → n + (d : Int) * 1407374883513 ≤ 4000000000000000 →
    ∃ n', n ≤ n' ∧ n' ≤ n + (d : Int) * 1407374883513 ∧ ∀ k, colophonlaw19_size.l1 (k + (d + 1)) n (i : Int) (j : Int) ps = colophonlaw19_size.l0 k n' ((i + 1 : Nat) : Int) ps := by
  have hp := hok _ (mem78 hi)
  intro d
  induction d with
  | zero =>
    intro j n hj h0 hn
    refine ⟨n, Int.le_refl _, by omega, fun k => ?_⟩
    rw [colophonlaw19_size.l1, if_pos (by omega), if_pos (by omega), casN i (by omega)]
    by_cases c : (j : Int) < ((rd_T78 ps (i : Int)).f2.length : Int)
    · rw [if_pos c, if_neg (by omega)]
    · rw [if_neg c]
  | succ d ih =>
    intro j n hj h0 hn
    have hjl : j < (rd_T78 ps (i : Int)).f2.length := by omega
    have hs := hp.2.2.1.2 _ (memB hjl)
    obtain ⟨z, hz⟩ : ∃ z, ((rdOf ByteArray.empty (rd_T78 ps (i : Int)).f2 (j : Int)).size : Int) / 100 = z := ⟨_, rfl⟩
    have hq : 0 ≤ z ∧ z ≤ 1407374883513 := by omega
    obtain ⟨n', h1, h2, h3⟩ := ih (j + 1) (n + z) (by omega) (by omega) (by omega)
    refine ⟨n', by omega, by omega, fun k => ?_⟩
    rw [show k + (d + 1 + 1) = (k + (d + 1)) + 1 by omega, colophonlaw19_size.l1, if_pos (by omega), if_pos (by omega), if_pos (by omega), if_pos (by omega), if_pos (by omega), hz, w_in (e := z) (by omega), w_in (e := n + z) (by omega), casN j (by omega)]
    exact h3 k
theorem size_l0 (ps : List S78) (hok : ∀ p ∈ ps, OK78 p) (hL : ps.length ≤ 140737488351232) : ∀ (c k i : Nat) (n : Int), i ≤ ps.length → 0 ≤ n → n ≤ 2000000000000000 → (3001 : Int) ≤ n + (c : Int) → 50 * c + 3 ≤ k →
    ∃ t, colophonlaw19_size.l0 k n (i : Int) ps = some t ∧ n ≤ t ∧ t ≤ 2000000000000000 ∧ (t ≤ 3000 → n + ((ps.length : Int) - (i : Int)) ≤ t ∧ ∀ p ∈ ps.drop i, (p.f2.length : Int) ≤ t) := by
  intro c
  induction c with
  | zero =>
    intro k i n hi h0 hn hc hk
    obtain ⟨k, rfl⟩ : ∃ q, k = q + 2 := ⟨k - 2, by omega⟩
    refine ⟨n, ?_, Int.le_refl _, hn, fun h => by omega⟩
    rw [colophonlaw19_size.l0]
    by_cases c1 : (i : Int) < (ps.length : Int)
    · rw [if_pos c1, colophonlaw19_size.j1, if_neg (by rw [decide_eq_true_eq]; omega)]
    · rw [if_neg c1, colophonlaw19_size.j1, if_neg (by decide)]
  | succ c ih =>
    intro k i n hi h0 hn hc hk
    obtain ⟨k, rfl⟩ : ∃ q, k = q + 2 := ⟨k - 2, by omega⟩
    rw [colophonlaw19_size.l0]
    by_cases c1 : (i : Int) < (ps.length : Int)
    · rw [if_pos c1, colophonlaw19_size.j1]
      by_cases c2 : n ≤ 3000
      · have hi' : i < ps.length := by omega
        have hp := hok _ (mem78 hi')
        have hcl : ((rd_T78 ps (i : Int)).f2.length : Int) ≤ 140737488351232 := by have := hp.2.2.1.1; omega
        obtain ⟨a, ha⟩ : ∃ z, ((rd_T78 ps (i : Int)).f0.size : Int) / 100 = z := ⟨_, rfl⟩
        obtain ⟨b, hb⟩ : ∃ z, ((rd_T78 ps (i : Int)).f1.size : Int) / 100 = z := ⟨_, rfl⟩
        have hA : 0 ≤ a ∧ a ≤ 1407374883513 := by have := hp.1; omega
        have hB : 0 ≤ b ∧ b ≤ 1407374883513 := by have := hp.2.1; omega
        rw [if_pos (by rw [decide_eq_true_eq]; exact c2), if_pos (by omega), if_pos c1, ha, hb, w_in (e := a) (by omega), w_in (e := b) (by omega)]
        obtain ⟨cl, hcl'⟩ : ∃ z, ((rd_T78 ps (i : Int)).f2.length : Int) = z := ⟨_, rfl⟩
        rw [hcl'] at hcl ⊢
        rw [w_in (e := 1 + cl) (by omega), w_in (e := 1 + cl + a) (by omega), w_in (e := 1 + cl + a + b) (by omega), w_in (e := n + (1 + cl + a + b)) (by omega)]
        obtain ⟨n', h1, h2, h3⟩ := size_l1 ps hok i hi' hL (min (rd_T78 ps (i : Int)).f2.length 40) 0 (n + (1 + cl + a + b)) (by omega) (by omega) (by omega)
        obtain ⟨k', rfl⟩ : ∃ q, k = q + (min (rd_T78 ps (i : Int)).f2.length 40 + 1) := ⟨k - (min (rd_T78 ps (i : Int)).f2.length 40 + 1), by omega⟩
        have h3' := h3 k'
        rw [show ((0 : Nat) : Int) = 0 from rfl] at h3'
        rw [h3']
        obtain ⟨t, t1, t2, t3, t4⟩ := ih k' (i + 1) n' (by omega) (by omega) (by omega) (by omega) (by omega)
        refine ⟨t, t1, by omega, t3, fun h => ?_⟩
        obtain ⟨u1, u2⟩ := t4 h
        refine ⟨by omega, fun p hp => ?_⟩
        rw [drop78 hi', List.mem_cons] at hp
        rcases hp with rfl | hp
        · omega
        · exact u2 p hp
      · rw [if_neg (by rw [decide_eq_true_eq]; exact c2)]
        exact ⟨n, rfl, Int.le_refl _, hn, fun h => absurd h c2⟩
    · rw [if_neg c1, colophonlaw19_size.j1, if_neg (by decide)]
      refine ⟨n, rfl, Int.le_refl _, hn, fun h => ⟨by omega, fun p hp => ?_⟩⟩
      rw [List.drop_eq_nil_of_le (by omega)] at hp
      simp at hp
def G45 (s : S45) : Prop := s.f0.length ≤ 3000 ∧ ∀ p ∈ s.f0, p.f2.length ≤ 3000
def G41 (x : S41) : Prop := x.f1.length ≤ 3000 ∧ x.f0.length ≤ 3000 ∧ ∀ s ∈ x.f0, G45 s
theorem size_f (ps : List S78) (hok : ∀ p ∈ ps, OK78 p) (hL : ps.length ≤ 140737488351232) (K : Nat) (hK : 200000 ≤ K) : ∃ t, colophonlaw19_size.f K ps = some t ∧ 0 ≤ t ∧ t ≤ 2000000000000000 ∧ (t ≤ 3000 → G45 ⟨ps⟩) := by
  obtain ⟨t, t1, t2, t3, t4⟩ := size_l0 ps hok hL 3001 K 0 0 (Nat.zero_le _) (by omega) (by omega) (by omega) (by omega)
  refine ⟨t, t1, t2, t3, fun h => ⟨?_, fun p hp => ?_⟩⟩
  · have := (t4 h).1
    show ps.length ≤ 3000
    omega
  · have := (t4 h).2 p hp
    omega
theorem large_both (l : List S41) (hok : OKL l) : ∀ c : Nat,
    (∀ (k i : Nat) (n : Int), i ≤ l.length → 0 ≤ n → n ≤ 3000000000000000 → (3001 : Int) ≤ n + (c : Int) → 200000 + 4 * c + 3 ≤ k → ∃ t, colophonlaw19_Large.l0 k l n (i : Int) = some t ∧ (t = false → n ≤ 3000 ∧ ∀ x ∈ l.drop i, G41 x)) ∧
    (∀ (k i j : Nat) (n : Int), i < l.length → j ≤ (rd_T41 l (i : Int)).f0.length → 0 ≤ n → n ≤ 3000000000000000 → (3001 : Int) ≤ n + (c : Int) → 200000 + 4 * c + 4 ≤ k → ∃ t, colophonlaw19_Large.l1 k l n (i : Int) (j : Int) = some t ∧ (t = false → n + (((rd_T41 l (i : Int)).f0.length : Int) - (j : Int)) ≤ 3000 ∧ (∀ s ∈ (rd_T41 l (i : Int)).f0.drop j, G45 s) ∧ ∀ x ∈ l.drop (i + 1), G41 x)) := by
  have hLl := hok.1
  intro c
  induction c with
  | zero =>
    have A : ∀ (k i : Nat) (n : Int), i ≤ l.length → 0 ≤ n → n ≤ 3000000000000000 → (3001 : Int) ≤ n + ((0 : Nat) : Int) → 200000 + 4 * 0 + 3 ≤ k → ∃ t, colophonlaw19_Large.l0 k l n (i : Int) = some t ∧ (t = false → n ≤ 3000 ∧ ∀ x ∈ l.drop i, G41 x) := by
      intro k i n hi h0 hn hc hk
      obtain ⟨k, rfl⟩ : ∃ q, k = q + 2 := ⟨k - 2, by omega⟩
      have e : decide (n > 3000) = true := decide_eq_true (by omega)
      refine ⟨true, ?_, fun h => by simp at h⟩
      rw [colophonlaw19_Large.l0]
      by_cases c1 : (i : Int) < (l.length : Int)
      · rw [if_pos c1, colophonlaw19_Large.j1, if_neg (by rw [decide_eq_true_eq]; omega), e]
      · rw [if_neg c1, colophonlaw19_Large.j1, if_neg (by decide), e]
    refine ⟨A, fun k i j n hi hj h0 hn hc hk => ?_⟩
    obtain ⟨k, rfl⟩ : ∃ q, k = q + 1 := ⟨k - 1, by omega⟩
    obtain ⟨t, t1, t2⟩ := A k (i + 1) n (by omega) h0 hn hc (by omega)
    refine ⟨t, ?_, fun h => by have := (t2 h).1; omega⟩
    rw [colophonlaw19_Large.l1, if_pos (by omega), if_pos (by omega), casN i (by omega)]
    by_cases c1 : (j : Int) < ((rd_T41 l (i : Int)).f0.length : Int)
    · rw [if_pos c1, if_neg (by omega)]
      exact t1
    · rw [if_neg c1]
      exact t1
  | succ c ih =>
    obtain ⟨_, ihB⟩ := ih
    have A : ∀ (k i : Nat) (n : Int), i ≤ l.length → 0 ≤ n → n ≤ 3000000000000000 → (3001 : Int) ≤ n + ((c + 1 : Nat) : Int) → 200000 + 4 * (c + 1) + 3 ≤ k → ∃ t, colophonlaw19_Large.l0 k l n (i : Int) = some t ∧ (t = false → n ≤ 3000 ∧ ∀ x ∈ l.drop i, G41 x) := by
      intro k i n hi h0 hn hc hk
      obtain ⟨k, rfl⟩ : ∃ q, k = q + 2 := ⟨k - 2, by omega⟩
      rw [colophonlaw19_Large.l0]
      by_cases c1 : (i : Int) < (l.length : Int)
      · rw [if_pos c1, colophonlaw19_Large.j1]
        by_cases c2 : n ≤ 3000
        · have hi' : i < l.length := by omega
          have hx := hok.2 _ (mem41 hi')
          have hdl := hx.2.1
          rw [if_pos (by rw [decide_eq_true_eq]; exact c2), if_pos (by omega), if_pos c1, w_in (e := 1 + _) (by omega), w_in (e := n + (1 + _)) (by omega)]
          obtain ⟨t, t1, t2⟩ := ihB k i 0 (n + (1 + ((rd_T41 l (i : Int)).f1.length : Int))) hi' (Nat.zero_le _) (by omega) (by omega) (by omega) (by omega)
          refine ⟨t, t1, fun h => ?_⟩
          obtain ⟨u1, u2, u3⟩ := t2 h
          refine ⟨c2, fun x hx => ?_⟩
          rw [drop41 hi', List.mem_cons] at hx
          rcases hx with rfl | hx
          · exact ⟨by omega, by omega, u2⟩
          · exact u3 x hx
        · have e : decide (n > 3000) = true := decide_eq_true (by omega)
          rw [if_neg (by rw [decide_eq_true_eq]; exact c2), e]
          exact ⟨true, rfl, fun h => by simp at h⟩
      · rw [if_neg c1, colophonlaw19_Large.j1, if_neg (by decide)]
        refine ⟨_, rfl, fun h => ⟨by rw [decide_eq_false_iff_not] at h; omega, fun x hx => ?_⟩⟩
        rw [List.drop_eq_nil_of_le (by omega)] at hx
        simp at hx
    refine ⟨A, fun k i j n hi hj h0 hn hc hk => ?_⟩
    obtain ⟨k, rfl⟩ : ∃ q, k = q + 1 := ⟨k - 1, by omega⟩
    obtain ⟨t, t1, t2⟩ := A k (i + 1) n (by omega) h0 hn hc (by omega)
    have hx := hok.2 _ (mem41 hi)
    rw [colophonlaw19_Large.l1, if_pos (by omega), if_pos (by omega), casN i (by omega)]
    by_cases c1 : (j : Int) < ((rd_T41 l (i : Int)).f0.length : Int)
    · rw [if_pos c1]
      have hj' : j < (rd_T41 l (i : Int)).f0.length := by omega
      by_cases c2 : n ≤ 3000
      · have hs := hx.1.2 _ (mem45 hj')
        obtain ⟨u, u1, u2, u3, u4⟩ := size_f (rd_T45 (rd_T41 l (i : Int)).f0 (j : Int)).f0 hs.2 (by have := hs.1; omega) k (by omega)
        rw [if_pos c2, if_pos (by omega), u1, Option.bind_some, w_in (e := 1 + u) (by omega), w_in (e := n + (1 + u)) (by omega), casN j (by have := hx.1.1; omega)]
        obtain ⟨v, v1, v2⟩ := ihB k i (j + 1) (n + (1 + u)) hi (by omega) (by omega) (by omega) (by omega) (by omega)
        refine ⟨v, v1, fun h => ?_⟩
        obtain ⟨w1, w2, w3⟩ := v2 h
        refine ⟨by omega, fun s hs => ?_, w3⟩
        rw [drop45 hj', List.mem_cons] at hs
        rcases hs with rfl | hs
        · exact u4 (by omega)
        · exact w2 s hs
      · rw [if_neg c2]
        exact ⟨t, t1, fun h => absurd (t2 h).1 c2⟩
    · rw [if_neg c1]
      refine ⟨t, t1, fun h => ⟨by have := (t2 h).1; omega, fun s hs => ?_, (t2 h).2⟩⟩
      rw [List.drop_eq_nil_of_le (by omega)] at hs
      simp at hs

/-! ### copies -/
theorem copySel_l0 (ps : List S78) (hn : ps.length ≤ 3000) (hp : ∀ p ∈ ps, p.f2.length ≤ 3000) : ∀ (d k i : Nat) (out : List S78), i + d = ps.length → out.length = i → d + 1 ≤ k → colophonref19_CopySelector.l0 k out (i : Int) ps = some (out ++ ps.drop i) := by
  intro d
  induction d with
  | zero =>
    intro k i out hd ho hk
    obtain ⟨k, rfl⟩ : ∃ q, k = q + 1 := ⟨k - 1, by omega⟩
    rw [colophonref19_CopySelector.l0, if_neg (by omega), List.drop_eq_nil_of_le (by omega), List.append_nil]
  | succ d ih =>
    intro k i out hd ho hk
    obtain ⟨k, rfl⟩ : ∃ q, k = q + 1 := ⟨k - 1, by omega⟩
    have hi : i < ps.length := by omega
    have hc := hp _ (mem78 hi)
    rw [colophonref19_CopySelector.l0, if_pos (by omega), if_pos (by omega), Option.bind_some, if_pos (by rw [List.length_nil]; omega), if_pos (by omega), casN i (by omega), List.nil_append, ih k (i + 1) _ (by omega) (by rw [List.length_append]; simp; omega) (by omega), drop78 hi, List.append_assoc]
    rfl
theorem copySel_f (ps : List S78) (hn : ps.length ≤ 3000) (hp : ∀ p ∈ ps, p.f2.length ≤ 3000) (K : Nat) (hK : 3001 ≤ K) : colophonref19_CopySelector.f K ps = some ps := by
  have := copySel_l0 ps hn hp ps.length K 0 [] (by omega) rfl (by omega)
  exact this
theorem copy_l1 (l : List S41) (hn : l.length ≤ 60) (hg : ∀ x ∈ l, G41 x) (i : Nat) (hi : i < l.length) (out : List S41) (ho : out.length ≤ 60) : ∀ (d k j : Nat) (acc : List S45), j + d = (rd_T41 l (i : Int)).f0.length → acc.length = j → 3001 ≤ k →
    colophonref19_Copy.l1 (k + (d + 1)) l out (i : Int) acc (j : Int) = colophonref19_Copy.l0 k l (out ++ [⟨acc ++ (rd_T41 l (i : Int)).f0.drop j, (rd_T41 l (i : Int)).f1⟩]) ((i + 1 : Nat) : Int) := by
  have hx := hg _ (mem41 hi)
  intro d
  induction d with
  | zero =>
    intro k j acc hd ha hk
    rw [colophonref19_Copy.l1, if_pos (by omega), if_pos (by omega), if_neg (by omega), Option.bind_some, if_pos (by rw [List.length_nil]; have := hx.1; omega), if_pos (by omega), casN i (by omega), List.drop_eq_nil_of_le (by omega), List.append_nil, List.nil_append]
  | succ d ih =>
    intro k j acc hd ha hk
    have hj : j < (rd_T41 l (i : Int)).f0.length := by omega
    have hs := hx.2.2 _ (mem45 hj)
    rw [show k + (d + 1 + 1) = (k + (d + 1)) + 1 by omega, colophonref19_Copy.l1, if_pos (by omega), if_pos (by omega), if_pos (by omega), if_pos (by omega), copySel_f _ hs.1 hs.2 _ (by omega), Option.bind_some, if_pos (by have := hx.2.1; omega), casN j (by have := hx.2.1; omega), ih k (j + 1) _ (by omega) (by rw [List.length_append]; simp; omega) hk, drop45 hj, List.append_assoc]
    rfl
theorem copy_l0 (l : List S41) (hn : l.length ≤ 60) (hg : ∀ x ∈ l, G41 x) : ∀ (d k i : Nat) (out : List S41), i + d = l.length → out.length = i → 3010 * d + 4000 ≤ k → colophonref19_Copy.l0 k l out (i : Int) = some (out ++ l.drop i) := by
  intro d
  induction d with
  | zero =>
    intro k i out hd ho hk
    obtain ⟨k, rfl⟩ : ∃ q, k = q + 1 := ⟨k - 1, by omega⟩
    rw [colophonref19_Copy.l0, if_neg (by omega), List.drop_eq_nil_of_le (by omega), List.append_nil]
  | succ d ih =>
    intro k i out hd ho hk
    have hi : i < l.length := by omega
    have hx := hg _ (mem41 hi)
    obtain ⟨k, rfl⟩ : ∃ q, k = (q + ((rd_T41 l (i : Int)).f0.length + 1)) + 1 := ⟨k - ((rd_T41 l (i : Int)).f0.length + 2), by have := hx.2.1; omega⟩
    have h1 := copy_l1 l hn hg i hi out (by omega) (rd_T41 l (i : Int)).f0.length k 0 [] (by omega) rfl (by have := hx.2.1; omega)
    rw [show ((0 : Nat) : Int) = 0 from rfl] at h1
    rw [colophonref19_Copy.l0, if_pos (by omega), h1, ih k (i + 1) _ (by omega) (by rw [List.length_append]; simp; omega) (by have := hx.2.1; omega), drop41 hi, List.append_assoc]
    rfl
theorem copy_f (l : List S41) (hn : l.length ≤ 60) (hg : ∀ x ∈ l, G41 x) (K : Nat) (hK : 200000 ≤ K) : colophonref19_Copy.f K l = some l := by
  have := copy_l0 l hn hg l.length K 0 [] (by omega) rfl (by omega)
  exact this

/-! ### a part fits an element -/
def hasB (ec : List ByteArray) (c : ByteArray) : Bool := ec.any (fun e => c.toList == e.toList)
theorem index_l0 (ec : List ByteArray) (hn : ec.length ≤ 1048577) (c : ByteArray) : ∀ (d k j : Nat), j + d = ec.length → d + 1 ≤ k → ∃ t, slices_Index_string_string.l0 k ec c (ec.length : Int) (j : Int) = some t ∧ decide (t ≥ 0) = hasB (ec.drop j) c := by
  intro d
  induction d with
  | zero =>
    intro k j hd hk
    obtain ⟨k, rfl⟩ : ∃ q, k = q + 1 := ⟨k - 1, by omega⟩
    rw [slices_Index_string_string.l0, if_neg (by omega), List.drop_eq_nil_of_le (by omega)]
    exact ⟨_, rfl, rfl⟩
  | succ d ih =>
    intro k j hd hk
    obtain ⟨k, rfl⟩ : ∃ q, k = q + 1 := ⟨k - 1, by omega⟩
    have hj : j < ec.length := by omega
    rw [slices_Index_string_string.l0, if_pos (by omega), if_pos (by omega), if_pos (by omega), dropB hj]
    by_cases e : c.toList = (rdOf ByteArray.empty ec (j : Int)).toList
    · rw [if_pos e]
      refine ⟨_, rfl, ?_⟩
      rw [hasB, List.any_cons, beq_iff_eq.mpr e, Bool.true_or]
      exact decide_eq_true (by omega)
    · rw [if_neg e, casN j (by omega)]
      obtain ⟨t, t1, t2⟩ := ih k (j + 1) (by omega) (by omega)
      refine ⟨t, t1, ?_⟩
      rw [t2, hasB, hasB, List.any_cons, beq_eq_false_iff_ne.mpr e, Bool.false_or]
theorem contains_f (ec : List ByteArray) (hn : ec.length ≤ 1048577) (c : ByteArray) (K : Nat) (hK : 1048578 ≤ K) : slices_Contains_string_string.f K ec c = some (hasB ec c) := by
  obtain ⟨t, t1, t2⟩ := index_l0 ec hn c ec.length K 0 (by omega) (by omega)
  have t1' : slices_Index_string_string.f K ec c = some t := t1
  unfold slices_Contains_string_string.f
  rw [t1', Option.bind_some, t2, List.drop_zero]
theorem fits_l0 (pc ec : List ByteArray) (hp : pc.length ≤ 3000) (he : ec.length ≤ 1048577) (en ei : ByteArray) : ∀ (d k j : Nat), j + d = pc.length → d + 1048579 ≤ k → sheet_fits.l0 k pc (pc.length : Int) (j : Int) en ei ec = some ((pc.drop j).all (hasB ec)) := by
  intro d
  induction d with
  | zero =>
    intro k j hd hk
    obtain ⟨k, rfl⟩ : ∃ q, k = q + 1 := ⟨k - 1, by omega⟩
    rw [sheet_fits.l0, if_neg (by omega), List.drop_eq_nil_of_le (by omega), List.all_nil]
  | succ d ih =>
    intro k j hd hk
    obtain ⟨k, rfl⟩ : ∃ q, k = q + 1 := ⟨k - 1, by omega⟩
    have hj : j < pc.length := by omega
    rw [sheet_fits.l0, if_pos (by omega), if_pos (by omega), if_pos (by omega), contains_f ec he _ k (by omega), Option.bind_some, dropB hj, List.all_cons, casN j (by omega)]
    cases hasB ec (rdOf ByteArray.empty pc (j : Int)) with
    | true => rw [if_pos rfl, ih k (j + 1) (by omega) (by omega), Bool.true_and]
    | false => rw [if_neg (by decide), Bool.false_and]
theorem rfits_l1 (pn pd : ByteArray) (pc ec : List ByteArray) (pk : Bool) (hp : pc.length ≤ 3000) (he : ec.length ≤ 1048577) (en ei : ByteArray) (i : Nat) (hi : i < pc.length) : ∀ (d k j : Nat) (has : Bool), j + d = ec.length →
    colophonref19_Fits.l1 (k + (d + 1)) (i : Int) has (j : Int) pn pd pc pk en ei ec = if (has || hasB (ec.drop j) (rdOf ByteArray.empty pc (i : Int))) = true then colophonref19_Fits.l0 k ((i + 1 : Nat) : Int) pn pd pc pk en ei ec else some false := by
  intro d
  induction d with
  | zero =>
    intro k j has hd
    rw [colophonref19_Fits.l1, if_neg (by omega), List.drop_eq_nil_of_le (by omega), casN i (by omega)]
    have : hasB [] (rdOf ByteArray.empty pc (i : Int)) = false := rfl
    rw [this, Bool.or_false]
  | succ d ih =>
    intro k j has hd
    have hj : j < ec.length := by omega
    rw [show k + (d + 1 + 1) = (k + (d + 1)) + 1 by omega, colophonref19_Fits.l1, if_pos (by omega), casN j (by omega)]
    cases has with
    | true =>
      rw [if_pos rfl, ih k (j + 1) true (by omega), Bool.true_or, Bool.true_or]
    | false =>
      rw [if_neg (by decide), if_pos (by omega), if_pos (by omega), if_pos (by omega), ih k (j + 1) _ (by omega), dropB hj, hasB, hasB, List.any_cons, Bool.false_or]
      have e : ((rdOf ByteArray.empty ec (j : Int)).toList == (rdOf ByteArray.empty pc (i : Int)).toList) = ((rdOf ByteArray.empty pc (i : Int)).toList == (rdOf ByteArray.empty ec (j : Int)).toList) := by rw [Bool.eq_iff_iff, beq_iff_eq, beq_iff_eq]; exact eq_comm
      rw [e]
theorem rfits_l0 (pn pd : ByteArray) (pc ec : List ByteArray) (pk : Bool) (hp : pc.length ≤ 3000) (he : ec.length ≤ 1048577) (en ei : ByteArray) : ∀ (d k i : Nat), i + d = pc.length → 1048579 * d + 1 ≤ k → colophonref19_Fits.l0 k (i : Int) pn pd pc pk en ei ec = some ((pc.drop i).all (hasB ec)) := by
  intro d
  induction d with
  | zero =>
    intro k i hd hk
    obtain ⟨k, rfl⟩ : ∃ q, k = q + 1 := ⟨k - 1, by omega⟩
    rw [colophonref19_Fits.l0, if_neg (by omega), List.drop_eq_nil_of_le (by omega), List.all_nil]
  | succ d ih =>
    intro k i hd hk
    have hi : i < pc.length := by omega
    obtain ⟨k, rfl⟩ : ∃ q, k = (q + (ec.length + 1)) + 1 := ⟨k - (ec.length + 2), by omega⟩
    have h1 := rfits_l1 pn pd pc ec pk hp he en ei i hi ec.length k 0 false (by omega)
    rw [show ((0 : Nat) : Int) = 0 from rfl, Bool.false_or, List.drop_zero] at h1
    rw [colophonref19_Fits.l0, if_pos (by omega), h1, dropB hi, List.all_cons]
    cases hasB ec (rdOf ByteArray.empty pc (i : Int)) with
    | true => rw [if_pos rfl, ih k (i + 1) (by omega) (by omega), Bool.true_and]
    | false => rw [if_neg (by decide), Bool.false_and]
theorem fits_both (pn pd : ByteArray) (pc : List ByteArray) (pk : Bool) (en ei : ByteArray) (ec : List ByteArray) (hp : pc.length ≤ 3000) (he : ec.length ≤ 1048577) (K : Nat) (hK : 100000000000 ≤ K) :
    ∃ v, sheet_fits.f K pn pd pc pk en ei ec = some v ∧ colophonref19_Fits.f K pn pd pc pk en ei ec = some v := by
  obtain ⟨K, rfl⟩ : ∃ q, K = q + 1 := ⟨K - 1, by omega⟩
  have j : ∀ b : Bool, ∃ v, sheet_fits.j0 (K + 1) b pn pd pc pk en ei ec = some v ∧ colophonref19_Fits.j0 (K + 1) b pn pd pc pk en ei ec = some v := by
    intro b
    rw [sheet_fits.j0, colophonref19_Fits.j0]
    cases b with
    | true => exact ⟨false, by rw [if_pos rfl], by rw [if_pos rfl]⟩
    | false =>
      have h1 := fits_l0 pc ec hp he en ei pc.length K 0 (by omega) (by omega)
      have h2 := rfits_l0 pn pd pc ec pk hp he en ei pc.length K 0 (by omega) (by omega)
      rw [show ((0 : Nat) : Int) = 0 from rfl] at h1 h2
      exact ⟨_, by rw [if_neg (by decide)]; exact h1, by rw [if_neg (by decide)]; exact h2⟩
  unfold sheet_fits.f colophonref19_Fits.f
  by_cases c1 : pn.toList = ([] : List UInt8)
  · rw [if_pos c1, if_pos c1]
    by_cases c2 : pd.toList = ([] : List UInt8)
    · rw [if_pos c2, if_pos c2]
      exact j _
    · rw [if_neg c2, if_neg c2]
      exact j _
  · rw [if_neg c1, if_neg c1]
    by_cases c3 : pn.toList = en.toList
    · rw [if_pos c3, if_pos c3]
      by_cases c2 : pd.toList = ([] : List UInt8)
      · rw [if_pos c2, if_pos c2]
        exact j _
      · rw [if_neg c2, if_neg c2]
        exact j _
    · rw [if_neg c3, if_neg c3]
      exact j _
/-! ### a selector matches a path -/
theorem getD_set (l : List Bool) (i j : Nat) (v : Bool) (h : i < l.length) : (l.set i v).getD j false = if j = i then v else l.getD j false := by
  rw [List.getD_eq_getElem?_getD, List.getD_eq_getElem?_getD, List.getElem?_set]
  by_cases e : j = i
  · rw [if_pos e, if_pos e.symm, if_pos h]
    rfl
  · rw [if_neg e, if_neg (fun x => e x.symm)]
theorem cnd_both (i : Nat) (pk so aj : Bool) : cnd i pk so aj = rcnd i pk so aj := by
  unfold cnd rcnd
  by_cases c : i = 0
  · subst c
    cases pk <;> cases so <;> cases aj <;> rfl
  · have e1 : (i == 0) = false := beq_eq_false_iff_ne.mpr c
    have e2 : decide (0 < i) = true := decide_eq_true (by omega)
    rw [e1, e2]
    cases pk <;> cases so <;> cases aj <;> rfl
theorem inner_both (p : S78) (hp : p.f2.length ≤ 3000) (path : List S56) (hpath : ∀ e ∈ path, e.f2.length ≤ 1048577) (K : Nat) (hK : 100000000000 ≤ K) (i : Nat) (A : List Bool) (_hA : A.length = path.length) : ∀ (c j : Nat) (E N : List Bool) (sp sr : Bool), j + c = path.length → E.length = path.length → N.length = path.length →
    (∀ q, q < j → E.getD q false = N.getD q false) → (∀ q, j ≤ q → q < path.length → E.getD q false = A.getD q false) → sp = (sr || (decide (0 < j) && A.getD (j - 1) false)) →
    ∃ E', sheet_Match.inner K p path i c j E sp (decide (0 < j) && A.getD (j - 1) false) = some E' ∧ colophonref19_Match.inner K p path i A c j N sr = some E' ∧ E'.length = path.length := by
  intro c
  induction c with
  | zero =>
    intro j E N sp sr hj hE hN h1 h2 h3
    refine ⟨E, rfl, ?_, hE⟩
    have : N = E := by
      apply List.ext_getElem (by omega)
      intro q q1 q2
      have := h1 q (by omega)
      simpa [List.getD_eq_getElem?_getD, q1, q2] using this.symm
    rw [this]
    rfl
  | succ c ih =>
    intro j E N sp sr hj hE hN h1 h2 h3
    have hj' : j < path.length := by omega
    obtain ⟨v, f1, f2⟩ := fits_both p.f0 p.f1 p.f2 p.f3 (rd_T56 path (j : Int)).f0 (rd_T56 path (j : Int)).f1 (rd_T56 path (j : Int)).f2 hp (hpath _ (mem56 hj')) K hK
    rw [sheet_Match.inner, colophonref19_Match.inner, ← h3, cnd_both]
    obtain ⟨cc, hcc⟩ : ∃ z, rcnd i p.f3 sp (decide (0 < j) && A.getD (j - 1) false) = z := ⟨_, rfl⟩
    rw [hcc]
    have ex : ∃ t, (if cc = true then sheet_fits.f K p.f0 p.f1 p.f2 p.f3 (rd_T56 path (j : Int)).f0 (rd_T56 path (j : Int)).f1 (rd_T56 path (j : Int)).f2 else some false) = some t ∧ (if cc = true then colophonref19_Fits.f K p.f0 p.f1 p.f2 p.f3 (rd_T56 path (j : Int)).f0 (rd_T56 path (j : Int)).f1 (rd_T56 path (j : Int)).f2 else some false) = some t := by
      cases cc with
      | true => exact ⟨v, by rw [if_pos rfl]; exact f1, by rw [if_pos rfl]; exact f2⟩
      | false => exact ⟨false, by rw [if_neg (by decide)], by rw [if_neg (by decide)]⟩
    obtain ⟨t, t1, t2⟩ := ex
    rw [t1, t2, Option.bind_some, Option.bind_some]
    have hEj := h2 j (Nat.le_refl _) hj'
    have e1 : (decide (0 < j + 1) && A.getD (j + 1 - 1) false) = A.getD j false := by rw [decide_eq_true (by omega), Bool.true_and, Nat.add_sub_cancel]
    have := ih (j + 1) (E.set j t) (N.set j t) (sp || E.getD j false) sp (by omega) (by rw [List.length_set]; exact hE) (by rw [List.length_set]; exact hN)
      (fun q hq => by
        rw [getD_set E j q t (by omega), getD_set N j q t (by omega)]
        by_cases e : q = j
        · rw [if_pos e, if_pos e]
        · rw [if_neg e, if_neg e]
          exact h1 q (by omega))
      (fun q hq hq2 => by
        rw [getD_set E j q t (by omega), if_neg (by omega)]
        exact h2 q (by omega) hq2)
      (by rw [e1, hEj])
    rw [e1] at this
    rw [hEj] at this ⊢
    exact this
theorem go_both (path : List S56) (hpath : ∀ e ∈ path, e.f2.length ≤ 1048577) (K : Nat) (hK : 100000000000 ≤ K) : ∀ (ps : List S78) (i : Nat) (A : List Bool), (∀ p ∈ ps, p.f2.length ≤ 3000) → A.length = path.length →
    ∃ m, sheet_Match.go K path ps i A = some m ∧ colophonref19_Match.go K path ps i A = some m
  | [], i, A, _, _ => ⟨_, rfl, rfl⟩
  | p :: r, i, A, hp, hA => by
    obtain ⟨E, e1, e2, e3⟩ := inner_both p (hp p (List.mem_cons_self ..)) path hpath K hK i A hA path.length 0 A (List.replicate path.length false) (i == 0) (i == 0) (by omega) hA (by simp) (fun q hq => by omega) (fun _ _ _ => rfl) (by simp)
    rw [sheet_Match.go, colophonref19_Match.go]
    have e1' : sheet_Match.inner K p path i path.length 0 A (i == 0) false = some E := by simpa using e1
    rw [e1', e2, Option.bind_some, Option.bind_some]
    exact go_both path hpath K hK r (i + 1) E (fun q hq => hp q (List.mem_cons_of_mem _ hq)) e3
theorem match_both (ps : List S78) (path : List S56) (hn : ps.length ≤ 3000) (hm : path.length ≤ 100) (hp : ∀ p ∈ ps, p.f2.length ≤ 3000) (hpath : ∀ e ∈ path, e.f2.length ≤ 1048577) (K : Nat) (hK : 100000000000 ≤ K) :
    ∃ m, sheet_Match.f K ps path = some m ∧ colophonref19_Match.f K ps path = some m := by
  have hb : ps.length ≤ 100000 ∧ path.length ≤ 100000 := ⟨by omega, by omega⟩
  unfold sheet_Match.f colophonref19_Match.f
  rw [if_pos hb, if_pos hb]
  by_cases c : ps.length = 0 ∨ path.length = 0
  · rw [if_pos c, if_pos c]
    exact ⟨_, rfl, rfl⟩
  · rw [if_neg c, if_neg c]
    exact go_both path hpath K hK ps 0 _ hp (by simp)

/-! ### which declaration counts -/
theorem nb_ls (a b : Int × Int × Int) : St.nb a b = !St.ls b a := by
  obtain ⟨a0, a1, a2⟩ := a
  obtain ⟨b0, b1, b2⟩ := b
  unfold St.nb St.ls
  dsimp only
  by_cases c0 : a0 = b0
  · subst c0
    rw [if_neg (show ¬ (a0 ≠ a0) from fun h => h rfl), if_neg (show ¬ (a0 ≠ a0) from fun h => h rfl)]
    by_cases c1 : a1 = b1
    · subst c1
      rw [if_neg (show ¬ (a1 ≠ a1) from fun h => h rfl), if_neg (show ¬ (a1 ≠ a1) from fun h => h rfl)]
      by_cases c2 : a2 = b2
      · subst c2
        rw [if_neg (show ¬ (a2 ≠ a2) from fun h => h rfl), if_neg (show ¬ (a2 ≠ a2) from fun h => h rfl)]
        rfl
      · rw [if_pos c2, if_pos (fun h => c2 h.symm), Bool.eq_iff_iff]
        simp only [decide_eq_true_eq, Bool.not_eq_true', decide_eq_false_iff_not]
        omega
    · rw [if_pos c1, if_pos (fun h => c1 h.symm), Bool.eq_iff_iff]
      simp only [decide_eq_true_eq, Bool.not_eq_true', decide_eq_false_iff_not]
      omega
  · rw [if_pos c0, if_pos (fun h => c0 h.symm), Bool.eq_iff_iff]
    simp only [decide_eq_true_eq, Bool.not_eq_true', decide_eq_false_iff_not]
    omega
theorem ls_irr (a : Int × Int × Int) : St.ls a a = false := by
  unfold St.ls
  rw [if_neg (show ¬ (a.1 ≠ a.1) from fun h => h rfl), if_neg (show ¬ (a.2.1 ≠ a.2.1) from fun h => h rfl), if_neg (show ¬ (a.2.2 ≠ a.2.2) from fun h => h rfl)]
theorem ls_tri (a b : Int × Int × Int) (h1 : St.ls a b = false) (h2 : St.ls b a = false) : a = b := by
  obtain ⟨a0, a1, a2⟩ := a
  obtain ⟨b0, b1, b2⟩ := b
  unfold St.ls at h1 h2
  dsimp only at h1 h2
  by_cases c0 : a0 = b0
  · subst c0
    rw [if_neg (fun h => h rfl)] at h1 h2
    by_cases c1 : a1 = b1
    · subst c1
      rw [if_neg (fun h => h rfl)] at h1 h2
      by_cases c2 : a2 = b2
      · subst c2
        rfl
      · rw [if_pos c2, decide_eq_false_iff_not] at h1
        rw [if_pos (fun h => c2 h.symm), decide_eq_false_iff_not] at h2
        omega
    · rw [if_pos c1, decide_eq_false_iff_not] at h1
      rw [if_pos (fun h => c1 h.symm), decide_eq_false_iff_not] at h2
      omega
  · rw [if_pos c0, decide_eq_false_iff_not] at h1
    rw [if_pos (fun h => c0 h.symm), decide_eq_false_iff_not] at h2
    omega
theorem ls_asym (a b : Int × Int × Int) (h : St.ls a b = true) : St.ls b a = false := by
  obtain ⟨a0, a1, a2⟩ := a
  obtain ⟨b0, b1, b2⟩ := b
  unfold St.ls at h ⊢
  dsimp only at h ⊢
  by_cases c0 : a0 = b0
  · subst c0
    rw [if_neg (show ¬ (a0 ≠ a0) from fun h => h rfl)] at h ⊢
    by_cases c1 : a1 = b1
    · subst c1
      rw [if_neg (show ¬ (a1 ≠ a1) from fun h => h rfl)] at h ⊢
      by_cases c2 : a2 = b2
      · subst c2
        rw [if_neg (show ¬ (a2 ≠ a2) from fun h => h rfl)] at h
        simp at h
      · rw [if_pos c2, decide_eq_true_eq] at h
        rw [if_pos (fun h => c2 h.symm), decide_eq_false_iff_not]
        omega
    · rw [if_pos c1, decide_eq_true_eq] at h
      rw [if_pos (fun h => c1 h.symm), decide_eq_false_iff_not]
      omega
  · rw [if_pos c0, decide_eq_true_eq] at h
    rw [if_pos (fun h => c0 h.symm), decide_eq_false_iff_not]
    omega
theorem sel_both (path : List S56) (hm : path.length ≤ 100) (hpath : ∀ e ∈ path, e.f2.length ≤ 1048577) (K : Nat) (hK : 100000000000 ≤ K) : ∀ (sl : List S45) (X : (Int × Int × Int) × Bool), (∀ s ∈ sl, G45 s) →
    ∃ Y, style_matching.sel K path sl X = some Y ∧ colophonref20_Winner.sel K path sl X = some Y
  | [], X, _ => ⟨X, rfl, rfl⟩
  | s :: r, X, hg => by
    have g := hg s (List.mem_cons_self ..)
    obtain ⟨m, m1, m2⟩ := match_both s.f0 path g.1 hm g.2 hpath K hK
    have rc := fun X => sel_both path hm hpath K hK r X (fun q hq => hg q (List.mem_cons_of_mem _ hq))
    rw [style_matching.sel, colophonref20_Winner.sel, m1, m2, Option.bind_some, Option.bind_some]
    cases m with
    | false =>
      rw [if_pos rfl, if_pos rfl]
      exact rc X
    | true =>
      have hw : sheet_Weight.f s.f0 = some (wgt s.f0 (0, 0, 0)) := rfl
      rw [if_neg (by decide), if_neg (by decide), hw, Option.bind_some]
      generalize wgt s.f0 (0, 0, 0) = v
      have e : (if X.2 = false ∨ St.nb X.1 v = true then v else X.1) = (if X.2 = false ∨ St.ls X.1 v = true then v else X.1) := by
        by_cases c1 : X.2 = false
        · rw [if_pos (.inl c1), if_pos (.inl c1)]
        · cases c2 : St.ls X.1 v with
          | true =>
            have : St.nb X.1 v = true := by rw [nb_ls, ls_asym _ _ c2]; rfl
            rw [if_pos (.inr this), if_pos (.inr rfl)]
          | false =>
            have hz : ¬ (X.2 = false ∨ (false : Bool) = true) := fun h => h.elim c1 (fun y => Bool.noConfusion y)
            rw [if_neg hz]
            by_cases c4 : St.nb X.1 v = true
            · rw [if_pos (.inr c4)]
              rw [nb_ls] at c4
              exact (ls_tri X.1 v c2 (by simpa using c4)).symm
            · have hy : ¬ (X.2 = false ∨ St.nb X.1 v = true) := fun h => h.elim c1 c4
              rw [if_neg hy]
      rw [e]
      exact rc _
theorem decls_set (prop : Int) (x : Int × Int × Int) : ∀ (dl : List S47) (c : CS), (c.won = false ∨ St.nb (c.b0, c.b1, c.b2) x = true) → style_winner.decls prop x dl c = colophonref20_Winner.decls prop x dl c
  | [], c, _ => rfl
  | d :: r, c, h => by
    rw [style_winner.decls, colophonref20_Winner.decls]
    by_cases e : d.f0 = prop
    · rw [if_pos ⟨e, h⟩, if_pos e]
      exact decls_set prop x r _ (.inr (by rw [nb_ls, ls_irr]; rfl))
    · rw [if_neg (fun z => e z.1), if_neg e]
      exact decls_set prop x r c h
theorem decls_keep (prop : Int) (x : Int × Int × Int) : ∀ (dl : List S47) (c : CS), c.won = true → St.nb (c.b0, c.b1, c.b2) x = false → style_winner.decls prop x dl c = c
  | [], c, _, _ => rfl
  | d :: r, c, h1, h2 => by
    rw [style_winner.decls, if_neg (fun z => z.2.elim (fun y => by rw [h1] at y; simp at y) (fun y => by rw [h2] at y; simp at y))]
    exact decls_keep prop x r c h1 h2
theorem rules_both (path : List S56) (hm : path.length ≤ 100) (hpath : ∀ e ∈ path, e.f2.length ≤ 1048577) (K : Nat) (hK : 100000000000 ≤ K) : ∀ (l : List S41), (∀ x ∈ l, G41 x) →
    ∃ ms : List WS, (∀ out, style_matching.go K path l out = some (out ++ ms)) ∧ ∀ (prop : Int) (c : CS), colophonref20_Winner.go K path prop l c = some (style_winner.go prop ms c)
  | [], _ => ⟨[], fun out => by rw [style_matching.go, List.append_nil], fun prop c => rfl⟩
  | x :: r, hg => by
    have g := hg x (List.mem_cons_self ..)
    obtain ⟨Y, y1, y2⟩ := sel_both path hm hpath K hK x.f0 ((0, 0, 0), false) g.2.2
    obtain ⟨ms, h1, h2⟩ := rules_both path hm hpath K hK r (fun q hq => hg q (List.mem_cons_of_mem _ hq))
    obtain ⟨⟨v0, v1, v2⟩, yb⟩ := Y
    cases yb with
    | false =>
      refine ⟨ms, fun out => ?_, fun prop c => ?_⟩
      · rw [style_matching.go, y1, Option.bind_some, if_neg (by simp), h1]
      · rw [colophonref20_Winner.go, y2, Option.bind_some, if_pos (.inl rfl), h2]
    | true =>
      refine ⟨⟨x.f1, v0, v1, v2⟩ :: ms, fun out => ?_, fun prop c => ?_⟩
      · rw [style_matching.go, y1, Option.bind_some, if_pos rfl, h1, List.append_assoc]
        rfl
      · rw [colophonref20_Winner.go, y2, Option.bind_some, h2, style_winner.go]
        dsimp only
        congr 2
        cases hc : c.won with
        | false =>
          rw [if_neg (fun h => h.elim (fun y => by simp at y) (fun y => by simp at y))]
          exact (decls_set prop (v0, v1, v2) x.f1 c (.inl hc)).symm
        | true =>
          cases hl : St.ls (v0, v1, v2) (c.b0, c.b1, c.b2) with
          | true =>
            rw [if_pos (.inr ⟨rfl, rfl⟩)]
            exact (decls_keep prop (v0, v1, v2) x.f1 c hc (by rw [nb_ls, hl]; rfl)).symm
          | false =>
            rw [if_neg (fun h => h.elim (fun y => by simp at y) (fun y => by simp at y))]
            exact (decls_set prop (v0, v1, v2) x.f1 c (.inr (by rw [nb_ls, hl]; rfl))).symm
theorem rules_f (l : List S41) (path : List S56) (hl : l.length ≤ 60) (hm : path.length ≤ 100) (hg : ∀ x ∈ l, G41 x) (hpath : ∀ e ∈ path, e.f2.length ≤ 1048577) (K : Nat) (hK : 100000000000 ≤ K) :
    ∃ ms : List WS, style_matching.f K l path = some ms ∧ ∀ prop, colophonref20_Winner.f K l path prop = some ((style_winner.win ms prop).v, (style_winner.win ms prop).won) := by
  obtain ⟨ms, h1, h2⟩ := rules_both path hm hpath K hK l hg
  refine ⟨ms, ?_, fun prop => ?_⟩
  · unfold style_matching.f
    rw [if_pos (by omega), h1, List.nil_append]
  · unfold colophonref20_Winner.f
    rw [if_pos (by omega), h2, Option.bind_some]
    rfl

/-! ### an element's style -/
theorem inh_same : ∀ p : Nat, p < 9 → St.inh p = St.rinh p
  | 0, _ => rfl
  | 1, _ => rfl
  | 2, _ => rfl
  | 3, _ => rfl
  | 4, _ => rfl
  | 5, _ => rfl
  | 6, _ => rfl
  | 7, _ => rfl
  | 8, _ => rfl
  | n + 9, h => by omega
theorem of_len (ms : List WS) (P : List Int) : ∀ (c p : Nat) (S : List Int), (style_Of.loop ms P c p S).length = S.length
  | 0, _, _ => rfl
  | c + 1, p, S => by
    rw [style_Of.loop, of_len ms P c (p + 1)]
    split
    · rw [List.length_set]
    · split
      · rw [List.length_set]
      · rfl
theorem tup9_len (S : List Int) (h : S.length = 9) : ∃ x, St.tup9 S = some x := by
  match S, h with
  | [a, b, c, d, e, f, g, i, j], _ => exact ⟨_, rfl⟩

theorem rof_loop (K : Nat) (l : List S41) (path : List S56) (ms : List WS) (hw : ∀ prop, colophonref20_Winner.f K l path prop = some ((style_winner.win ms prop).v, (style_winner.win ms prop).won)) (P : List Int) : ∀ (c p : Nat) (S : List Int), p + c = 9 → colophonref20_Of.loop K l path P c p S = some (style_Of.loop ms P c p S)
  | 0, _, _, _ => rfl
  | c + 1, p, S, h => by
    rw [colophonref20_Of.loop, hw, Option.bind_some, rof_loop K l path ms hw P c (p + 1) _ (by omega), style_Of.loop, inh_same p (by omega)]

/-- What the reader gives of a node. -/
inductive OKN : S52 → Prop
  | mk (x : S52) (h0 : x.f0.size ≤ 1048576) (h1 : x.f1.size ≤ 1048576) (h2 : x.f2.length ≤ 1048576 ∧ ∀ a ∈ x.f2, a.f0.size ≤ 1048576 ∧ a.f1.size ≤ 1048576) (h3 : x.f3.length ≤ 1048576) (h5 : ∀ k, k ∈ x.f3 → OKN k) (h4 : (Lit.int .i64 x.f4).wf = true) : OKN x
theorem reads_node0 : Rd.Reads Try.prog 0 k52 52 OKN := by
  intro H enc w fuel cs y hf hy _
  obtain ⟨n, hn⟩ := Rd.fuel_pos hy
  omega
theorem reads_node (m : Nat) : Rd.Reads Try.prog m k52 52 OKN := by
  induction m using Nat.strongRecOn with
  | ind m ih =>
    cases m with
    | zero => exact reads_node0
    | succ m =>
      have hk : Rd.Reads Try.prog (m - 1) k52 52 OKN := ih (m - 1) (by omega)
      have base := Rd.reads_iso (m := m + 1) (β := S52) (fun x : S52 => (x.f0, x.f1, x.f2, x.f3, x.f4)) (Rd.reads_struct Try.underlying52 (by kernel_rfl) (Rd.fs_cons rfl (by kernel_rfl) rfl (Rd.reads_string Try.underlying9) (Rd.fs_cons rfl (by kernel_rfl) rfl (Rd.reads_string Try.underlying9)
        (Rd.fs_cons rfl (by kernel_rfl) rfl (Rd.reads_slice (B := 32) (d := k82) Try.underlying49 (by kernel_rfl) (by decide) (Rd.reads_iso (β := S82) (fun x : S82 => (x.f0, x.f1)) (Rd.reads_struct Try.underlying82 (by kernel_rfl) (Rd.fs_cons rfl (by kernel_rfl) rfl (Rd.reads_string Try.underlying9) (Rd.fs_one rfl (by kernel_rfl) (Rd.reads_string Try.underlying9)))) (fun x => ⟨⟨x.1, x.2⟩, rfl⟩)))
        (Rd.fs_cons rfl (by kernel_rfl) rfl (Rd.reads_slice (B := 88) Try.underlying50 (by kernel_rfl) (by decide) hk) (Rd.fs_one rfl (by kernel_rfl) (Rd.reads_int Try.underlying3))))))) (fun x => ⟨⟨x.1, x.2.1, x.2.2.1, x.2.2.2.1, x.2.2.2.2⟩, rfl⟩)
      intro H enc w fuel cs y hf hy hw
      obtain ⟨x, hK, hok⟩ := base H enc w fuel cs y hf hy hw
      obtain ⟨_, _, rfl, rfl, ⟨_, _, rfl, rfl, ⟨_, _, rfl, ⟨A2, c2, rfl, l2, g2⟩, ⟨_, _, rfl, ⟨A3, c3, rfl, l3, g3⟩, rfl⟩⟩⟩⟩ := hK
      exact ⟨x, k52_mk w x l2 g2 l3 g3, .mk x hok.1 hok.2.1 ⟨hok.2.2.1.1.2, hok.2.2.1.2⟩ hok.2.2.2.1.1.2 hok.2.2.2.1.2 hok.2.2.2.2⟩

/-! ### strings.FieldsFunc at ' ', byte by byte -/
theorem cont_hi (s : ByteArray) (i k : Nat) (h : (decide (i + k < s.size) && (s.get! (i + k)).toNat / 64 == 2) = true) : i + k < s.size ∧ 128 ≤ (s.get! (i + k)).toNat := by
  simp only [Bool.and_eq_true, decide_eq_true_eq, beq_iff_eq] at h
  omega
/-- A byte from 128 on: the rune is none below 128, and every byte of it is one from 128 on. -/
theorem dec_hi (s : ByteArray) (i : Nat) (h : i < s.size) (hb : 128 ≤ (s.get! i).toNat) : 128 ≤ (Go.Utf8.decode s i).1 ∧ 1 ≤ (Go.Utf8.decode s i).2 ∧ i + (Go.Utf8.decode s i).2 ≤ s.size ∧ ∀ k, k < (Go.Utf8.decode s i).2 → 128 ≤ (s.get! (i + k)).toNat := by
  have h0 : 128 ≤ (s.get! (i + 0)).toNat := hb
  have one : ∀ k, k < 1 → 128 ≤ (s.get! (i + k)).toNat := fun k hk => by obtain rfl : k = 0 := by omega
                                                                         exact h0
  have hr : 128 ≤ Go.Utf8.runeError := by decide
  unfold Go.Utf8.decode
  dsimp only
  rw [if_neg (by omega)]
  split
  · rename_i c
    rw [Bool.and_eq_true] at c
    have c1 := cont_hi s i 1 c.2
    split
    · rename_i hc
      exact ⟨hc, by omega, by omega, fun k hk => by
        rcases (show k = 0 ∨ k = 1 by omega) with rfl | rfl
        · exact h0
        · exact c1.2⟩
    · exact ⟨hr, Nat.le_refl _, by omega, one⟩
  · split
    · rename_i _ c
      rw [Bool.and_eq_true, Bool.and_eq_true] at c
      have c1 := cont_hi s i 1 c.1.2
      have c2 := cont_hi s i 2 c.2
      split
      · rename_i hc
        rw [Bool.and_eq_true, decide_eq_true_eq] at hc
        exact ⟨by omega, by omega, by omega, fun k hk => by
          rcases (show k = 0 ∨ k = 1 ∨ k = 2 by omega) with rfl | rfl | rfl
          · exact h0
          · exact c1.2
          · exact c2.2⟩
      · exact ⟨hr, Nat.le_refl _, by omega, one⟩
    · split
      · rename_i _ _ c
        rw [Bool.and_eq_true, Bool.and_eq_true, Bool.and_eq_true] at c
        have c1 := cont_hi s i 1 c.1.1.2
        have c2 := cont_hi s i 2 c.1.2
        have c3 := cont_hi s i 3 c.2
        split
        · rename_i hc
          rw [Bool.and_eq_true, decide_eq_true_eq] at hc
          exact ⟨by omega, by omega, by omega, fun k hk => by
            rcases (show k = 0 ∨ k = 1 ∨ k = 2 ∨ k = 3 by omega) with rfl | rfl | rfl | rfl
            · exact h0
            · exact c1.2
            · exact c2.2
            · exact c3.2⟩
        · exact ⟨hr, Nat.le_refl _, by omega, one⟩
      · exact ⟨hr, Nat.le_refl _, by omega, one⟩
theorem dec_lo (s : ByteArray) (i : Nat) (hb : (s.get! i).toNat < 128) : Go.Utf8.decode s i = ((s.get! i).toNat, 1) := by
  have h0 : (s.get! (i + 0)).toNat < 128 := hb
  unfold Go.Utf8.decode
  dsimp only
  rw [if_pos h0]
  rfl
/-- The pieces, byte by byte: d bytes are left. -/
def spansB (s : ByteArray) : Nat → Nat → Option Nat → List (Nat × Nat) → List (Nat × Nat) × Option Nat
  | 0, _, st, acc => (acc, st)
  | d + 1, pos, st, acc => if (s.get! pos).toNat = 32 then spansB s d (pos + 1) none (match st with | some a => acc ++ [(a, pos)] | none => acc) else spansB s d (pos + 1) (match st with | some a => some a | none => some pos) acc
theorem spansB_run (s : ByteArray) (a : Nat) (acc : List (Nat × Nat)) : ∀ (n d pos : Nat), (∀ k, k < n → 128 ≤ (s.get! (pos + k)).toNat) → spansB s (n + d) pos (some a) acc = spansB s d (pos + n) (some a) acc
  | 0, d, pos, _ => by rw [Nat.zero_add, Nat.add_zero]
  | n + 1, d, pos, h => by
    have h0 := h 0 (by omega)
    rw [Nat.add_zero] at h0
    rw [show n + 1 + d = (n + d) + 1 by omega, spansB, if_neg (by omega)]
    rw [spansB_run s a acc n d (pos + 1) (fun k hk => by have := h (k + 1) (by omega); rw [show pos + 1 + k = pos + (k + 1) by omega]; exact this), show pos + 1 + n = pos + (n + 1) by omega]
theorem spansB_step (s : ByteArray) (d pos : Nat) (st : Option Nat) (acc : List (Nat × Nat)) : spansB s (d + 1) pos st acc = if (s.get! pos).toNat = 32 then spansB s d (pos + 1) none (match st with | some a => acc ++ [(a, pos)] | none => acc) else spansB s d (pos + 1) (match st with | some a => some a | none => some pos) acc := by
  cases st with
  | some a => rfl
  | none => rfl
theorem spansFromP_step (p : Nat → Bool) (s : ByteArray) (f pos : Nat) (st : Option Nat) (acc : List (Nat × Nat)) (h : pos < s.size) : Go.Lib.spansFromP p s (f + 1) pos st acc = if p (Go.Utf8.decode s pos).1 = true then Go.Lib.spansFromP p s f (pos + (Go.Utf8.decode s pos).2) none (match st with | some a => acc ++ [(a, pos)] | none => acc) else Go.Lib.spansFromP p s f (pos + (Go.Utf8.decode s pos).2) (match st with | some a => some a | none => some pos) acc := by
  rw [Go.Lib.spansFromP.eq_def]
  dsimp only
  rw [if_pos h]
  cases st with
  | some a => rfl
  | none => rfl
theorem spans_bytes (s : ByteArray) : ∀ (f d pos : Nat) (st : Option Nat) (acc : List (Nat × Nat)), pos + d = s.size → d ≤ f → Go.Lib.spansFromP spR s f pos st acc = spansB s d pos st acc := by
  intro f
  induction f with
  | zero =>
    intro d pos st acc h1 h2
    obtain rfl : d = 0 := by omega
    rfl
  | succ f ih =>
    intro d pos st acc h1 h2
    cases d with
    | zero =>
      rw [Go.Lib.spansFromP_end spR s (f + 1) pos st acc (by omega)]
      rfl
    | succ d =>
      rw [spansFromP_step spR s f pos st acc (by omega)]
      by_cases hb : (s.get! pos).toNat < 128
      · rw [dec_lo s pos hb, spansB_step]
        by_cases h32 : (s.get! pos).toNat = 32
        · rw [if_pos (show spR (s.get! pos).toNat = true by unfold spR; rw [h32]; rfl), if_pos h32]
          cases st with
          | some a => exact ih d (pos + 1) _ _ (by omega) (by omega)
          | none => exact ih d (pos + 1) _ _ (by omega) (by omega)
        · rw [if_neg (show ¬ spR (s.get! pos).toNat = true by unfold spR; rw [beq_iff_eq]; exact h32), if_neg h32]
          cases st with
          | some a => exact ih d (pos + 1) _ _ (by omega) (by omega)
          | none => exact ih d (pos + 1) _ _ (by omega) (by omega)
      · obtain ⟨e1, e2, e3, e4⟩ := dec_hi s pos (by omega) (by omega)
        generalize Go.Utf8.decode s pos = D at e1 e2 e3 e4
        rw [if_neg (show ¬ spR D.1 = true by unfold spR; rw [beq_iff_eq]; omega)]
        have key : ∀ a, Go.Lib.spansFromP spR s f (pos + D.2) (some a) acc = spansB s (d + 1) pos (some a) acc := fun a => by
          rw [ih (d + 1 - D.2) (pos + D.2) (some a) acc (by omega) (by omega)]
          have := spansB_run s a acc D.2 (d + 1 - D.2) pos e4
          rw [show D.2 + (d + 1 - D.2) = d + 1 by omega] at this
          exact this.symm
        cases st with
        | some a => exact key a
        | none =>
          have h2 := key pos
          rw [spansB_step, if_neg (by omega)] at h2 ⊢
          exact h2

/-! ### the reference's pieces -/
theorem bt_get {c : ByteArray} {i : Nat} (h : i < c.size) : bt c (i : Int) = ((c.get! i).toNat : Int) := by
  have e : c.get! i = c[i] := by
    simp [ByteArray.get!, getElem!_pos, h]
    rfl
  rw [e, ← bt_at c (i : Int) (by rw [Int.toNat_natCast]; exact h)]
  rfl
def frm (st : Option Nat) (i : Nat) : Nat := match st with | some a => a | none => i
def ext (c : ByteArray) (x : Nat × Nat) : ByteArray := c.extract x.1 x.2
theorem ref_l0 (c : ByteArray) (hc : c.size ≤ 4294967296) (nm fid : ByteArray) : ∀ (d k i : Nat) (st : Option Nat) (acc : List (Nat × Nat)), i + d = c.size → 2 * d + 3 ≤ k → (∀ a, st = some a → a < i) → acc.length ≤ i →
    colophonref20_Facts.l0 k c ((frm st i : Nat) : Int) (i : Int) nm fid (acc.map (ext c)) = some (nm, fid, (Go.Lib.closeSpans c (spansB c d i st acc)).map (ext c)) := by
  intro d
  induction d with
  | zero =>
    intro k i st acc h1 h2 h3 h4
    obtain ⟨k, rfl⟩ : ∃ q, k = q + 3 := ⟨k - 3, by omega⟩
    rw [colophonref20_Facts.l0, if_pos (by omega), if_pos (by omega), colophonref20_Facts.j1, if_pos rfl]
    have e1 : wrap64 ((i : Int) + 1) = ((i + 1 : Nat) : Int) := by rw [w_in (by omega)]; omega
    rw [e1]
    cases st with
    | some a =>
      have ha := h3 a rfl
      show (if (i : Int) > (a : Int) then _ else _) = _
      rw [if_pos (by omega), if_pos (by omega), if_pos (show ((frm (some a) i : Nat) : Int) ≤ (i : Int) from by show (a : Int) ≤ i; omega), if_pos (by omega), if_pos (by rw [List.length_map]; omega), colophonref20_Facts.l0, if_neg (by omega)]
      rw [spansB, Go.Lib.closeSpans]
      dsimp only
      rw [List.map_append, ← h1, Nat.add_zero]
      rfl
    | none =>
      show (if (i : Int) > (i : Int) then _ else _) = _
      rw [if_neg (by omega), colophonref20_Facts.l0, if_neg (by omega)]
      rfl
  | succ d ih =>
    intro k i st acc h1 h2 h3 h4
    obtain ⟨k, rfl⟩ : ∃ q, k = q + 2 := ⟨k - 2, by omega⟩
    have e1 : wrap64 ((i : Int) + 1) = ((i + 1 : Nat) : Int) := by rw [w_in (by omega)]; omega
    rw [colophonref20_Facts.l0, if_pos (by omega), if_neg (by omega), if_pos (by omega), if_pos (by omega), colophonref20_Facts.j1, e1, spansB_step]
    by_cases hb : (c.get! i).toNat = 32
    · rw [if_pos (show (bt c (i : Int) == 32) = true by rw [beq_iff_eq, bt_get (by omega)]; omega), if_pos hb]
      cases st with
      | some a =>
        have ha := h3 a rfl
        show (if (i : Int) > (a : Int) then _ else _) = _
        rw [if_pos (by omega), if_pos (show (0 : Int) ≤ ((frm (some a) i : Nat) : Int) by omega), if_pos (show ((frm (some a) i : Nat) : Int) ≤ (i : Int) from by show (a : Int) ≤ i; omega), if_pos (by omega), if_pos (by rw [List.length_map]; omega)]
        have := ih k (i + 1) none (acc ++ [(a, i)]) (by omega) (by omega) (fun a h => by cases h) (by rw [List.length_append]; simp; omega)
        rw [List.map_append] at this
        exact this
      | none =>
        show (if (i : Int) > (i : Int) then _ else _) = _
        rw [if_neg (by omega)]
        exact ih k (i + 1) none acc (by omega) (by omega) (fun a h => by cases h) (by omega)
    · rw [if_neg (show ¬ (bt c (i : Int) == 32) = true by rw [beq_iff_eq, bt_get (by omega)]; omega), if_neg hb]
      cases st with
      | some a => exact ih k (i + 1) (some a) acc (by omega) (by omega) (fun b h => by obtain rfl := Option.some.inj h; have := h3 a rfl; omega) (by omega)
      | none => exact ih k (i + 1) (some i) acc (by omega) (by omega) (fun b h => by obtain rfl := Option.some.inj h; omega) (by omega)
theorem fields_eq (c : ByteArray) : Go.Lib.goFieldsP spR c = (Go.Lib.closeSpans c (spansB c c.size 0 none [])).map (ext c) := by
  unfold Go.Lib.goFieldsP Go.Lib.spansOfP
  rw [spans_bytes c c.size c.size 0 none [] (by omega) (Nat.le_refl _)]
  rfl
theorem ref_fields (c : ByteArray) (hc : c.size ≤ 4294967296) (nm fid : ByteArray) (k : Nat) (hk : 2 * c.size + 3 ≤ k) : colophonref20_Facts.l0 k c 0 0 nm fid [] = some (nm, fid, Go.Lib.goFieldsP spR c) := by
  rw [fields_eq]
  exact ref_l0 c hc nm fid c.size k 0 none [] (by omega) (by omega) (fun a h => by cases h) (Nat.le_refl _)
/-! ### an attribute's value; both sides' facts -/
def fst (nm : List UInt8) : List S82 → ByteArray × Bool
  | [] => (⟨#[]⟩, false)
  | a :: r => if a.f0.toList = nm then (a.f1, true) else fst nm r
theorem attr_l0 (nm a0 a1 : ByteArray) (l : List S82) (l3 : List S52) (a4 : Int) (hn : l.length ≤ 4611686018427387904) : ∀ (d k j : Nat), j + d = l.length → d + 1 ≤ k → colophonref18_Attr.l0 k nm (j : Int) a0 a1 l l3 a4 = some (fst nm.toList (l.drop j)) := by
  intro d
  induction d with
  | zero =>
    intro k j h1 h2
    obtain ⟨k, rfl⟩ : ∃ q, k = q + 1 := ⟨k - 1, by omega⟩
    rw [colophonref18_Attr.l0, if_neg (by omega), List.drop_eq_nil_of_le (by omega)]
    rfl
  | succ d ih =>
    intro k j h1 h2
    obtain ⟨k, rfl⟩ : ∃ q, k = q + 1 := ⟨k - 1, by omega⟩
    have hj : j < l.length := by omega
    have e1 : wrap64 ((j : Int) + 1) = ((j + 1 : Nat) : Int) := by rw [w_in (by omega)]; omega
    rw [colophonref18_Attr.l0, if_pos (by omega), if_pos (by omega), style_Facts.drop82 hj, fst, e1]
    by_cases e : (rd_T82 l (j : Int)).f0.toList = nm.toList
    · rw [if_pos e, if_pos e]
    · rw [if_neg e, if_neg e]
      exact ih k (j + 1) (by omega) (by omega)
theorem go_fst : ∀ (l : List S82) (i c : Bool) (fid : ByteArray) (cl : List ByteArray), style_Facts.go l i c fid cl =
    (if i = true then fid else if (fst [105, 100] l).2 = true then (fst [105, 100] l).1 else fid, if c = true then cl else if (fst [99, 108, 97, 115, 115] l).2 = true then Go.Lib.goFieldsP spR (fst [99, 108, 97, 115, 115] l).1 else cl)
  | [], i, c, fid, cl => by
    cases i <;> cases c <;> rfl
  | a :: r, i, c, fid, cl => by
    rw [style_Facts.go, fst, fst]
    by_cases e1 : a.f0.toList = [105, 100]
    · have e2 : ¬ a.f0.toList = [99, 108, 97, 115, 115] := fun h => by rw [e1] at h; simp at h
      rw [if_pos e1, if_neg e2]
      cases i with
      | false =>
        rw [if_pos ⟨e1, rfl⟩, go_fst r true c a.f1 cl, if_pos rfl, if_neg (show ¬ (false = true) by decide), if_pos rfl]
      | true =>
        rw [if_neg (fun h => Bool.noConfusion h.2), if_neg (fun h => e2 h.1), go_fst r true c fid cl, if_pos rfl, if_pos rfl]
    · rw [if_neg (fun h => e1 h.1), if_neg e1]
      by_cases e2 : a.f0.toList = [99, 108, 97, 115, 115]
      · rw [if_pos e2]
        cases c with
        | false =>
          rw [if_pos ⟨e2, rfl⟩, go_fst r i true fid _, if_pos rfl, if_neg (show ¬ (false = true) by decide), if_pos rfl]
        | true =>
          rw [if_neg (fun h => Bool.noConfusion h.2), go_fst r i true fid cl, if_pos rfl, if_pos rfl]
      · rw [if_neg (fun h => e2 h.1), if_neg e2, go_fst r i c fid cl]
theorem fst_none (nm : List UInt8) : ∀ (l : List S82), (fst nm l).2 = false → (fst nm l).1 = ⟨#[]⟩
  | [], _ => rfl
  | a :: r, h => by
    rw [fst] at h ⊢
    by_cases e : a.f0.toList = nm
    · rw [if_pos e] at h
      exact Bool.noConfusion h
    · rw [if_neg e] at h ⊢
      exact fst_none nm r h
theorem fst_size (nm : List UInt8) (B : Nat) : ∀ (l : List S82), (∀ a ∈ l, a.f1.size ≤ B) → (fst nm l).1.size ≤ B
  | [], _ => Nat.zero_le _
  | a :: r, h => by
    rw [fst]
    by_cases e : a.f0.toList = nm
    · rw [if_pos e]
      exact h a (List.mem_cons_self ..)
    · rw [if_neg e]
      exact fst_size nm B r (fun x hx => h x (List.mem_cons_of_mem _ hx))
theorem facts_both (k : Nat) (a0 a1 : ByteArray) (l : List S82) (l3 l3' : List S52) (a4 a4' : Int) (hn : l.length ≤ 4611686018427387904) (hs : ∀ a ∈ l, a.f1.size ≤ 4294967296) (hk : l.length + 8589934592 + 4 ≤ k) :
    ∃ r : ByteArray × ByteArray × List ByteArray, style_Facts.f a0 a1 l l3 a4 = some r ∧ colophonref20_Facts.f k a0 a1 l l3' a4' = some r := by
  have z : Go.Lib.goFieldsP spR ⟨#[]⟩ = [] := rfl
  refine ⟨(a0, (fst [105, 100] l).1, Go.Lib.goFieldsP spR (fst [99, 108, 97, 115, 115] l).1), ?_, ?_⟩
  · unfold style_Facts.f
    rw [if_pos (List.all_eq_true.mpr (fun a ha => decide_eq_true (hs a ha))), go_fst, if_neg (show ¬ (false = true) by decide), if_neg (show ¬ (false = true) by decide)]
    congr 3
    · cases h : (fst [105, 100] l).2 with
      | true => rw [if_pos rfl]
      | false => rw [if_neg (show ¬ (false = true) by decide), fst_none _ _ h]
    · cases h : (fst [99, 108, 97, 115, 115] l).2 with
      | true => rw [if_pos rfl]
      | false => rw [if_neg (show ¬ (false = true) by decide), fst_none _ _ h, z]
  · unfold colophonref20_Facts.f colophonref18_Attr.f
    have q1 := attr_l0 ⟨#[105, 100]⟩ a0 a1 l l3' a4' hn l.length k 0 (by omega) (by omega)
    have q2 := attr_l0 ⟨#[99, 108, 97, 115, 115]⟩ a0 a1 l l3' a4' hn l.length k 0 (by omega) (by omega)
    rw [show ((0 : Nat) : Int) = 0 from rfl, List.drop_zero] at q1 q2
    have t1 : (⟨#[105, 100]⟩ : ByteArray).toList = [105, 100] := by decide +kernel
    have t2 : (⟨#[99, 108, 97, 115, 115]⟩ : ByteArray).toList = [99, 108, 97, 115, 115] := by decide +kernel
    rw [t1] at q1
    rw [t2] at q2
    rw [q1, Option.bind_some, q2, Option.bind_some]
    have hz := fst_size [99, 108, 97, 115, 115] 4294967296 l hs
    exact ref_fields _ hz a0 _ k (by omega)

theorem spansB_len (s : ByteArray) : ∀ (d pos : Nat) (st : Option Nat) (acc : List (Nat × Nat)), (spansB s d pos st acc).1.length ≤ acc.length + d
  | 0, _, _, _ => Nat.le_refl _
  | d + 1, pos, st, acc => by
    rw [spansB_step]
    split
    · refine Nat.le_trans (spansB_len s d (pos + 1) none _) ?_
      cases st with
      | some a => rw [List.length_append]; simp; omega
      | none => show acc.length + d ≤ acc.length + (d + 1); omega
    · exact Nat.le_trans (spansB_len s d (pos + 1) _ acc) (by omega)
theorem fields_len (c : ByteArray) : (Go.Lib.goFieldsP spR c).length ≤ c.size + 1 := by
  rw [fields_eq, List.length_map]
  have := spansB_len c c.size 0 none []
  unfold Go.Lib.closeSpans
  split
  · rw [List.length_append]
    simp at this ⊢
    omega
  · simp at this
    omega

/-! ### nodes: copies, and what is large -/
theorem bnd {Q : Nat → S52 → Prop} (hm : ∀ k k' y, k ≤ k' → Q k y → Q k' y) : ∀ l : List S52, (∀ y, y ∈ l → ∃ K, Q K y) → ∃ K, ∀ y, y ∈ l → Q K y
  | [], _ => ⟨0, fun y h => by cases h⟩
  | a :: r, h => by
    obtain ⟨K1, h1⟩ := h a (List.mem_cons_self ..)
    obtain ⟨K2, h2⟩ := bnd hm r (fun y hy => h y (List.mem_cons_of_mem _ hy))
    refine ⟨max K1 K2, fun y hy => ?_⟩
    rcases List.mem_cons.mp hy with rfl | hy
    · exact hm _ _ _ (Nat.le_max_left _ _) h1
    · exact hm _ _ _ (Nat.le_max_right _ _) (h2 y hy)
theorem mem52 {l : List S52} {j : Nat} (h : j < l.length) : rd_T52 l (j : Int) ∈ l := by
  show l.getD j z52 ∈ l
  rw [List.getD_eq_getElem?_getD, List.getElem?_eq_getElem h]
  exact List.getElem_mem h
theorem drop52 {l : List S52} {j : Nat} (h : j < l.length) : l.drop j = rd_T52 l (j : Int) :: l.drop (j + 1) := by
  rw [List.drop_eq_getElem_cons h]
  congr 1
  show _ = l.getD j z52
  simp [List.getD_eq_getElem?_getD, h]
theorem eta52 (y : S52) : (⟨y.f0, y.f1, y.f2, y.f3, y.f4⟩ : S52) = y := by cases y; rfl
theorem copyn_l0 (a0 a1 : ByteArray) (l2 : List S82) (a4 : Int) (l : List S52) (hn : l.length ≤ 1599289640400) (K : Nat) (hK : ∀ y, y ∈ l → ∀ k, K ≤ k → colophonref18_Copy.f k y.f0 y.f1 y.f2 y.f3 y.f4 = some (y.f0, y.f1, y.f2, y.f3, y.f4)) : ∀ (d k i : Nat) (out : List S52), i + d = l.length → out.length = i → K + d + 1 ≤ k →
    colophonref18_Copy.l0 k out (i : Int) a0 a1 l2 l a4 = some (a0, a1, l2, out ++ l.drop i, a4) := by
  intro d
  induction d with
  | zero =>
    intro k i out h1 h2 h3
    obtain ⟨k, rfl⟩ : ∃ q, k = q + 1 := ⟨k - 1, by omega⟩
    rw [colophonref18_Copy.l0, if_neg (by omega), List.drop_eq_nil_of_le (by omega), List.append_nil]
  | succ d ih =>
    intro k i out h1 h2 h3
    obtain ⟨k, rfl⟩ : ∃ q, k = q + 1 := ⟨k - 1, by omega⟩
    have hi : i < l.length := by omega
    rw [colophonref18_Copy.l0, if_pos (by omega), if_pos (by omega), hK _ (mem52 hi) k (by omega), Option.bind_some, if_pos (by omega), casN i (by omega), ih k (i + 1) _ (by omega) (by rw [List.length_append]; simp; omega) (by omega), drop52 hi, List.append_assoc]
    show some (a0, a1, l2, out ++ ((⟨(rd_T52 l (i : Int)).f0, (rd_T52 l (i : Int)).f1, (rd_T52 l (i : Int)).f2, (rd_T52 l (i : Int)).f3, (rd_T52 l (i : Int)).f4⟩ : S52) :: l.drop (i + 1)), a4) = _
    rw [eta52]
theorem copy_node (x : S52) (h : OKN x) : ∃ K, ∀ k, K ≤ k → colophonref18_Copy.f k x.f0 x.f1 x.f2 x.f3 x.f4 = some (x.f0, x.f1, x.f2, x.f3, x.f4) := by
  induction h with
  | mk x h0 h1 h2 h3 h5 h4 ih =>
    obtain ⟨K, hK⟩ := bnd (Q := fun K y => ∀ k, K ≤ k → colophonref18_Copy.f k y.f0 y.f1 y.f2 y.f3 y.f4 = some (y.f0, y.f1, y.f2, y.f3, y.f4)) (fun k k' y hk hq q hq2 => hq q (by omega)) x.f3 (fun y hy => ih y hy)
    refine ⟨K + x.f3.length + 2, fun k hk => ?_⟩
    obtain ⟨k, rfl⟩ : ∃ q, k = q + 1 := ⟨k - 1, by omega⟩
    have := copyn_l0 x.f0 x.f1 x.f2 x.f4 x.f3 (by omega) K hK x.f3.length k 0 [] (by omega) rfl (by omega)
    rw [colophonref18_Copy.f, Option.bind_some, if_pos (by rw [List.length_nil]; have := h2.1; omega), List.nil_append]
    exact this

end Go.Proofs.Ytpembifnjlekdaa.PureStyleAll
