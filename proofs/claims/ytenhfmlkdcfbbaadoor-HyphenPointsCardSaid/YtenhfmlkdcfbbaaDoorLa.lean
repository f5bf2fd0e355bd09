/- law21, the plain law: what a trie of patterns says. -/
import Derived.Test.YtenhfmlkdcfbbaaDoorPat
namespace Go.Proofs.YtenhfmlkdcfbbaaDoor.Law21
open Go.RowKit Go.Proofs.YtenhfmlkdcfbbaaDoorW.PrintWords Go.Proofs.YtenhfmlkdcfbbaaDoorW.PrintLast Go.Proofs.YtenhfmlkdcfbbaaDoorW.PrintMore Go.Proofs.YtenhfmlkdcfbbaaDoor.PHyphenPoints
set_option linter.unusedVariables false
def kid (ar : List Trie.PN) (i : Nat) (c : Int) : Option Nat := Trie.kget (((ar.getD i Trie.PN.z).kids).getD []) c
def lvOf (ar : List Trie.PN) (i : Nat) : Option (List Int) := (ar.getD i Trie.PN.z).lv
def reach (ar : List Trie.PN) : Nat → List Int → Option Nat
  | i, [] => some i
  | i, c :: r => (kid ar i c).bind fun q => reach ar q r
theorem reach_append (ar : List Trie.PN) : ∀ (x y : List Int) (i : Nat), reach ar i (x ++ y) = (reach ar i x).bind fun q => reach ar q y
  | [], y, i => rfl
  | c :: r, y, i => by
    rw [List.cons_append, reach, reach]
    cases kid ar i c with
    | none => rfl
    | some q => exact reach_append ar r y q
theorem reach_snoc (ar : List Trie.PN) (x : List Int) (d : Int) (i : Nat) : reach ar i (x ++ [d]) = (reach ar i x).bind fun q => kid ar q d := by
  rw [reach_append]
  congr 1
  funext q
  rw [reach]
  cases kid ar q d <;> rfl
structure Wf (ar : List Trie.PN) : Prop where
  pos : 0 < ar.length
  lt : ∀ i c q, kid ar i c = some q → q < ar.length
  uniq : ∀ i j c d q, kid ar i c = some q → kid ar j d = some q → i = j ∧ c = d
  root : ∀ i c, kid ar i c ≠ some 0
theorem reach_lt {ar : List Trie.PN} (h : Wf ar) : ∀ (x : List Int) (i q : Nat), i < ar.length → reach ar i x = some q → q < ar.length
  | [], i, q, hi, hr => by
    injection hr with hr
    omega
  | c :: r, i, q, hi, hr => by
    rw [reach] at hr
    obtain ⟨j, hj, hr⟩ := Option.bind_eq_some_iff.1 hr
    exact reach_lt h r j q (h.lt _ _ _ hj) hr
theorem snoc_cases {α : Type} (l : List α) : l = [] ∨ ∃ r d, l = r ++ [d] := by
  rcases List.eq_nil_or_concat l with h | ⟨r, d, h⟩
  · exact .inl h
  · exact .inr ⟨r, d, by rw [h, List.concat_eq_append]⟩
theorem reach_inj {ar : List Trie.PN} (h : Wf ar) : ∀ (n : Nat) (x y : List Int) (q : Nat), x.length = n → reach ar 0 x = some q → reach ar 0 y = some q → x = y := by
  intro n
  induction n with
  | zero =>
    intro x y q hx hr hs
    obtain rfl := List.length_eq_zero_iff.1 hx
    injection hr with hr
    subst hr
    rcases snoc_cases y with rfl | ⟨r, d, rfl⟩
    · rfl
    · rw [reach_snoc] at hs
      obtain ⟨j, _, hs⟩ := Option.bind_eq_some_iff.1 hs
      exact absurd hs (h.root _ _)
  | succ n ih =>
    intro x y q hx hr hs
    rcases snoc_cases x with rfl | ⟨x, c, rfl⟩
    · simp at hx
    rw [reach_snoc] at hr
    obtain ⟨i, hi, hr⟩ := Option.bind_eq_some_iff.1 hr
    rcases snoc_cases y with rfl | ⟨y, d, rfl⟩
    · injection hs with hs
      subst hs
      exact absurd hr (h.root _ _)
    · rw [reach_snoc] at hs
      obtain ⟨j, hj, hs⟩ := Option.bind_eq_some_iff.1 hs
      obtain ⟨rfl, rfl⟩ := h.uniq _ _ _ _ _ hr hs
      rw [ih x y i (by simpa using hx) hi hj]
theorem getD_set_other {α : Type} (l : List α) (i j : Nat) (a z : α) (h : j ≠ i) : (l.set i a).getD j z = l.getD j z := by
  rw [List.getD_eq_getElem?_getD, List.getD_eq_getElem?_getD, List.getElem?_set_ne (Ne.symm h)]
theorem getD_set_same {α : Type} (l : List α) (i : Nat) (a z : α) (h : i < l.length) : (l.set i a).getD i z = a := by
  rw [List.getD_eq_getElem?_getD, List.getElem?_set_self h]
  rfl
theorem getD_app_z (l : List Trie.PN) (j : Nat) : (l ++ [Trie.PN.z]).getD j Trie.PN.z = l.getD j Trie.PN.z := by
  rw [List.getD_eq_getElem?_getD, List.getD_eq_getElem?_getD]
  by_cases h : j < l.length
  · rw [List.getElem?_append_left h]
  · rw [List.getElem?_append_right (by omega), List.getElem?_eq_none (l := l) (by omega)]
    cases hj : j - l.length with
    | zero => rfl
    | succ n => rfl
theorem kid_none_of {ar : List Trie.PN} {i : Nat} (h : ar.length ≤ i) (c : Int) : kid ar i c = none := by
  unfold kid
  rw [List.getD_eq_getElem?_getD, List.getElem?_eq_none h]
  rfl
theorem down_new {ar : List Trie.PN} {i : Nat} {c : Int} (hi : i < ar.length) (h : kid ar i c = none) :
    (Trie.down ar i c).2 = ar.length ∧ (Trie.down ar i c).1.length = ar.length + 1 ∧ (∀ j d, kid (Trie.down ar i c).1 j d = if j = i ∧ d = c then some ar.length else kid ar j d) ∧ ∀ j, lvOf (Trie.down ar i c).1 j = lvOf ar j := by
  have e : Trie.down ar i c = (ar.set i ⟨some ((c, ar.length) :: ((ar.getD i Trie.PN.z).kids).getD []), (ar.getD i Trie.PN.z).lv⟩ ++ [Trie.PN.z], ar.length) := by
    unfold kid at h
    unfold Trie.down
    rw [h]
  rw [e]
  refine ⟨rfl, by simp, fun j d => ?_, fun j => ?_⟩
  · show kid _ j d = _
    unfold kid
    rw [getD_app_z]
    by_cases hj : j = i
    · subst hj
      rw [getD_set_same _ _ _ _ hi]
      show Trie.kget ((c, ar.length) :: _) d = _
      rw [Trie.kget]
      by_cases hd : d = c
      · rw [if_pos hd.symm, if_pos ⟨rfl, hd⟩]
      · rw [if_neg (fun q => hd q.symm), if_neg (fun q => hd q.2)]
    · rw [getD_set_other _ _ _ _ _ hj, if_neg (fun q => hj q.1)]
  · show lvOf _ j = _
    unfold lvOf
    rw [getD_app_z]
    by_cases hj : j = i
    · subst hj
      rw [getD_set_same _ _ _ _ hi]
    · rw [getD_set_other _ _ _ _ _ hj]
theorem down_old {ar : List Trie.PN} {i q : Nat} {c : Int} (h : kid ar i c = some q) : Trie.down ar i c = (ar, q) := by
  unfold kid at h
  unfold Trie.down
  rw [h]
theorem down_spec {ar : List Trie.PN} (h : Wf ar) {pre : List Int} {i : Nat} (hr : reach ar 0 pre = some i) (c : Int) :
    Wf (Trie.down ar i c).1 ∧ (∀ x, reach (Trie.down ar i c).1 0 x = if x = pre ++ [c] then some (Trie.down ar i c).2 else reach ar 0 x) ∧ (∀ j, lvOf (Trie.down ar i c).1 j = lvOf ar j) ∧
    (Trie.down ar i c).1.length = ar.length + (if (reach ar 0 (pre ++ [c])).isSome = true then 0 else 1) := by
  have hi := reach_lt h pre 0 i h.pos hr
  cases hk : kid ar i c with
  | some q =>
    have e : reach ar 0 (pre ++ [c]) = some q := by rw [reach_snoc, hr]; exact hk
    rw [down_old hk, e]
    refine ⟨h, fun x => ?_, fun _ => rfl, rfl⟩
    by_cases hx : x = pre ++ [c]
    · rw [if_pos hx, hx, e]
    · rw [if_neg hx]
  | none =>
    have e : reach ar 0 (pre ++ [c]) = none := by rw [reach_snoc, hr]; exact hk
    obtain ⟨d1, d2, d3, d4⟩ := down_new hi hk
    refine ⟨⟨by omega, fun j d q hq => ?_, fun j j' d d' q hq hq' => ?_, fun j d hq => ?_⟩, fun x => ?_, d4, by rw [d2, e]; rfl⟩
    · rw [d3] at hq
      split at hq
      · injection hq with hq
        omega
      · have := h.lt _ _ _ hq
        omega
    · rw [d3] at hq hq'
      split at hq
      · injection hq with hq
        split at hq'
        · rename_i a b
          exact ⟨a.1.trans b.1.symm, a.2.trans b.2.symm⟩
        · have := h.lt _ _ _ hq'
          omega
      · split at hq'
        · injection hq' with hq'
          have := h.lt _ _ _ hq
          omega
        · exact h.uniq _ _ _ _ _ hq hq'
    · rw [d3] at hq
      split at hq
      · injection hq with hq
        have := h.pos
        omega
      · exact h.root _ _ hq
    · have main : ∀ (n : Nat) (x : List Int), x.length = n → reach (Trie.down ar i c).1 0 x = if x = pre ++ [c] then some (Trie.down ar i c).2 else reach ar 0 x := by
        intro n
        induction n with
        | zero =>
          intro x hx
          obtain rfl := List.length_eq_zero_iff.1 hx
          rw [if_neg (by simp)]
          rfl
        | succ n ih =>
          intro x hx
          rcases snoc_cases x with rfl | ⟨y, d, rfl⟩
          · simp at hx
          rw [reach_snoc, reach_snoc, ih y (by simpa using hx)]
          by_cases hy : y = pre ++ [c]
          · rw [if_pos hy, if_neg (fun q => by rw [hy] at q; have := congrArg List.length q; simp at this), hy, e, d1]
            show kid _ ar.length d = none
            rw [d3, if_neg (fun q => by omega), kid_none_of (Nat.le_refl _)]
          · rw [if_neg hy]
            cases ho : reach ar 0 y with
            | none =>
              rw [if_neg (fun q => by obtain ⟨rfl, _⟩ := List.append_inj' q rfl; rw [hr] at ho; cases ho)]
              rfl
            | some j =>
              show kid _ j d = _
              rw [d3]
              by_cases hjd : j = i ∧ d = c
              · obtain ⟨rfl, rfl⟩ := hjd
                have := reach_inj h _ y pre j rfl ho hr
                subst this
                rw [if_pos ⟨rfl, rfl⟩, if_pos rfl, d1]
              · rw [if_neg hjd, if_neg (fun q => by
                  obtain ⟨a, b⟩ := List.append_inj' q rfl
                  subst a
                  rw [hr] at ho
                  injection ho with ho
                  injection b with b
                  exact hjd ⟨ho.symm, b⟩)]
                rfl
      exact main _ x rfl
def fresh (ar : List Trie.PN) (pre : List Int) : List Int → Nat
  | [] => 0
  | c :: r => (if (reach ar 0 (pre ++ [c])).isSome = true then 0 else 1) + fresh ar (pre ++ [c]) r
theorem fresh_congr {ar ar' : List Trie.PN} : ∀ (le pre : List Int), (∀ n, 0 < n → n ≤ le.length → ((reach ar 0 (pre ++ le.take n)).isSome = (reach ar' 0 (pre ++ le.take n)).isSome)) → fresh ar pre le = fresh ar' pre le
  | [], _, _ => rfl
  | c :: r, pre, h => by
    rw [fresh, fresh]
    have h1 := h 1 (by omega) (by simp)
    rw [show (c :: r).take 1 = [c] by simp] at h1
    have h2 : fresh ar (pre ++ [c]) r = fresh ar' (pre ++ [c]) r := fresh_congr r (pre ++ [c]) (fun n hn hl => by
      have := h (n + 1) (by omega) (by simp; omega)
      rw [List.take_succ_cons] at this
      simpa using this)
    rw [h1, h2]
theorem walk_spec : ∀ (le : List Int) (ar : List Trie.PN) (pre : List Int) (i : Nat), Wf ar → reach ar 0 pre = some i →
    Wf (Trie.walk ar i le).1 ∧ reach (Trie.walk ar i le).1 0 (pre ++ le) = some (Trie.walk ar i le).2 ∧
    (∀ x, (reach (Trie.walk ar i le).1 0 x).isSome = true ↔ ((reach ar 0 x).isSome = true ∨ ∃ n, 0 < n ∧ n ≤ le.length ∧ x = pre ++ le.take n)) ∧
    (∀ x q, reach ar 0 x = some q → reach (Trie.walk ar i le).1 0 x = some q) ∧ (∀ j, lvOf (Trie.walk ar i le).1 j = lvOf ar j) ∧
    (Trie.walk ar i le).1.length = ar.length + fresh ar pre le
  | [], ar, pre, i, h, hr => by
    rw [Trie.walk]
    refine ⟨h, by rw [List.append_nil]; exact hr, fun x => ⟨fun q => .inl q, fun q => ?_⟩, fun x q hq => hq, fun _ => rfl, rfl⟩
    rcases q with q | ⟨n, h1, h2, _⟩
    · exact q
    · simp at h2
      omega
  | c :: r, ar, pre, i, h, hr => by
    rw [Trie.walk]
    obtain ⟨s1, s2, s3, s4⟩ := down_spec h hr c
    obtain ⟨w1, w2, w3, w4, w5, w6⟩ := walk_spec r (Trie.down ar i c).1 (pre ++ [c]) (Trie.down ar i c).2 s1 (by rw [s2, if_pos rfl])
    refine ⟨w1, by simpa using w2, fun x => ?_, fun x q hq => w4 x q ?_, fun j => (w5 j).trans (s3 j), ?_⟩
    · rw [w3, s2]
      constructor
      · rintro (q | ⟨n, h1, h2, h3⟩)
        · by_cases hx : x = pre ++ [c]
          · exact .inr ⟨1, by omega, by simp, by rw [hx]; simp⟩
          · rw [if_neg hx] at q
            exact .inl q
        · exact .inr ⟨n + 1, by omega, by simp; omega, by rw [h3]; simp⟩
      · rintro (q | ⟨n, h1, h2, h3⟩)
        · left
          split
          · rfl
          · exact q
        · by_cases hn : n = 1
          · left
            subst hn
            rw [if_pos (by rw [h3]; simp)]
            rfl
          · right
            obtain ⟨n, rfl⟩ : ∃ m, n = m + 1 := ⟨n - 1, by omega⟩
            exact ⟨n, by omega, by simp at h2; omega, by rw [h3]; simp⟩
    · rw [s2]
      by_cases hx : x = pre ++ [c]
      · rw [if_pos hx]
        subst hx
        rw [reach_snoc, hr] at hq
        have hk : kid ar i c = some q := hq
        rw [down_old hk]
      · rw [if_neg hx]
        exact hq
    · rw [w6, s4, fresh, Nat.add_assoc]
      congr 1
      congr 1
      refine fresh_congr _ _ (fun n hn hl => ?_)
      rw [s2, if_neg (fun q => by
        have q := congrArg List.length q
        simp only [List.length_append, List.length_take, List.length_cons, List.length_nil] at q
        omega)]
theorem rd_set (L : List Int) (k j : Nat) (x : Int) (hk : k < L.length) : rd (L.set k x) (j : Int) = if j = k then x else rd L (j : Int) := by
  unfold rd
  rw [Int.toNat_natCast]
  by_cases h : j = k
  · subst h
    rw [if_pos rfl, getD_set_same _ _ _ _ hk]
  · rw [if_neg h, getD_set_other _ _ _ _ _ h]
theorem lev_len : ∀ (r L : List Int) (k : Nat), (Trie.lev L k r).length = L.length
  | [], _, _ => rfl
  | x :: r, L, k => by rw [Trie.lev, lev_len r, List.length_set]
theorem lev_rd : ∀ (r L : List Int) (k j : Nat), k + r.length ≤ L.length → rd (Trie.lev L k r) (j : Int) = if k ≤ j ∧ j < k + r.length then mx (rd L (j : Int)) (rd r ((j - k : Nat) : Int)) else rd L (j : Int)
  | [], L, k, j, h => by
    rw [Trie.lev, if_neg (by simp)]
  | x :: r, L, k, j, h => by
    rw [List.length_cons] at h ⊢
    rw [Trie.lev, lev_rd r _ _ _ (by rw [List.length_set]; omega), rd_set _ _ _ _ (by omega)]
    by_cases h1 : j = k
    · subst h1
      rw [if_neg (by omega), if_pos rfl, if_pos (by omega), Nat.sub_self]
      rfl
    · rw [if_neg h1]
      by_cases h2 : k + 1 ≤ j ∧ j < k + 1 + r.length
      · rw [if_pos h2, if_pos (by omega)]
        congr 1
        unfold rd
        rw [Int.toNat_natCast, Int.toNat_natCast, show j - k = (j - (k + 1)) + 1 by omega]
        rfl
      · rw [if_neg h2, if_neg (by omega)]
theorem le_mx (v a b : Int) : v ≤ mx a b ↔ v ≤ a ∨ v ≤ b := by
  unfold mx
  split <;> omega
def At (L : List Int) (j : Nat) (v : Int) : Prop := j < L.length ∧ v ≤ rd L (j : Int)
theorem lev_at (r L : List Int) (k j : Nat) (v : Int) (h : k + r.length ≤ L.length) : At (Trie.lev L k r) j v ↔ At L j v ∨ (k ≤ j ∧ At r (j - k) v) := by
  unfold At
  rw [lev_len, lev_rd r L k j h]
  by_cases h1 : k ≤ j ∧ j < k + r.length
  · rw [if_pos h1, le_mx]
    constructor
    · rintro ⟨a, b | b⟩
      · exact .inl ⟨a, b⟩
      · exact .inr ⟨h1.1, by omega, b⟩
    · rintro (⟨a, b⟩ | ⟨_, _, b⟩)
      · exact ⟨a, .inl b⟩
      · exact ⟨by omega, .inr b⟩
  · rw [if_neg h1]
    constructor
    · exact fun q => .inl q
    · rintro (q | ⟨a, b, _⟩)
      · exact q
      · exact absurd ⟨a, by omega⟩ h1
def cnt (x : List Int) : Nat := (x.filter fun c => decide (c ≠ 46)).length
structure Says (P : List (List Int × List Int)) (ar : List Trie.PN) : Prop where
  wf : Wf ar
  pre : ∀ x, (reach ar 0 x).isSome = true ↔ x = [] ∨ ∃ p ∈ P, x <+: p.1
  len : ∀ x q L, reach ar 0 x = some q → lvOf ar q = some L → L.length = cnt x + 1
  lev : ∀ x q, reach ar 0 x = some q → ∀ (j : Nat) (v : Int), 0 < v → (At ((lvOf ar q).getD []) j v ↔ ∃ p ∈ P, p.1 = x ∧ At p.2 j v)
  own : ∀ q L, lvOf ar q = some L → ∃ x, reach ar 0 x = some q
theorem lvOf_z (q : Nat) : lvOf [Trie.PN.z] q = none := by
  unfold lvOf
  cases q <;> rfl
theorem kid_z (i : Nat) (c : Int) : kid [Trie.PN.z] i c = none := by
  unfold kid
  cases i <;> rfl
theorem says_nil : Says [] [Trie.PN.z] := by
  refine ⟨⟨by simp, fun i c q h => ?_, fun i j c d q h => ?_, fun i c h => ?_⟩, fun x => ?_, fun x q L h hl => ?_, fun x q h j v hv => ?_, fun q L hl => ?_⟩
  · rw [kid_z] at h
    cases h
  · rw [kid_z] at h
    cases h
  · rw [kid_z] at h
    cases h
  · cases x with
    | nil => simp [reach]
    | cons c r => simp [reach, kid_z]
  · rw [lvOf_z] at hl
    cases hl
  · rw [lvOf_z]
    simp [At]
  · rw [lvOf_z] at hl
    cases hl
theorem take_prefix_iff {α : Type} (x le : List α) (hx : x ≠ []) : x <+: le ↔ ∃ n, 0 < n ∧ n ≤ le.length ∧ x = le.take n := by
  constructor
  · intro h
    have hl := h.length_le
    refine ⟨x.length, List.length_pos_iff.2 hx, hl, ?_⟩
    exact List.prefix_iff_eq_take.1 h
  · rintro ⟨n, _, _, rfl⟩
    exact List.take_prefix _ _
theorem says_put {P : List (List Int × List Int)} {ar : List Trie.PN} (h : Says P ar) (le lv : List Int) (n : Int) (hn : n = (cnt le : Int)) (hl : lv.length = cnt le + 1) :
    Says (P ++ [(le, lv)]) (Trie.put ar le lv n) ∧ (Trie.put ar le lv n).length = ar.length + fresh ar [] le ∧
    (∀ nd L, (Trie.walk ar 0 le).1[(Trie.walk ar 0 le).2]? = some nd → nd.lv = some L → L.length = lv.length) := by
  obtain ⟨w1, w2, w3, w4, w5, w6⟩ := walk_spec le ar [] 0 h.wf rfl
  rw [List.nil_append] at w2
  have e0 : Trie.put ar le lv n = (Trie.walk ar 0 le).1.set (Trie.walk ar 0 le).2 ⟨((Trie.walk ar 0 le).1.getD (Trie.walk ar 0 le).2 Trie.PN.z).kids, some (Trie.lev (((lvOf (Trie.walk ar 0 le).1 (Trie.walk ar 0 le).2)).getD (List.replicate (n + 1).toNat 0)) 0 lv)⟩ := rfl
  rw [e0]
  generalize hA : (Trie.walk ar 0 le).1 = A at *
  generalize hI : (Trie.walk ar 0 le).2 = I at *
  have hIl : I < A.length := reach_lt w1 le 0 I w1.pos w2
  have hlvI : ∀ L, lvOf A I = some L → L.length = cnt le + 1 := by
    intro L hL
    rw [w5] at hL
    cases hr : reach ar 0 le with
    | some q =>
      have := w4 le q hr
      rw [w2] at this
      injection this with this
      subst this
      exact h.len le _ L hr hL
    | none =>
      obtain ⟨x, hx⟩ := h.own I L hL
      have := reach_inj w1 _ x le I rfl (w4 x I hx) w2
      subst this
      rw [hr] at hx
      cases hx
  have hkid : ∀ Z j c, kid (A.set I ⟨(A.getD I Trie.PN.z).kids, Z⟩) j c = kid A j c := by
    intro Z j c
    unfold kid
    by_cases hj : j = I
    · subst hj
      rw [getD_set_same _ _ _ _ hIl]
    · rw [getD_set_other _ _ _ _ _ hj]
  have hreach : ∀ Z (x : List Int) (j : Nat), reach (A.set I ⟨(A.getD I Trie.PN.z).kids, Z⟩) j x = reach A j x := by
    intro Z x
    induction x with
    | nil => exact fun _ => rfl
    | cons c r ih =>
      intro j
      rw [reach, reach, hkid]
      congr 1
      funext q
      exact ih q
  have hlvs : ∀ Z j, lvOf (A.set I ⟨(A.getD I Trie.PN.z).kids, Z⟩) j = if j = I then Z else lvOf A j := by
    intro Z j
    unfold lvOf
    by_cases hj : j = I
    · subst hj
      rw [getD_set_same _ _ _ _ hIl, if_pos rfl]
    · rw [getD_set_other _ _ _ _ _ hj, if_neg hj]
  obtain ⟨L0, hL0⟩ : ∃ L0, (lvOf A I).getD (List.replicate (n + 1).toNat 0) = L0 := ⟨_, rfl⟩
  have hL0l : L0.length = cnt le + 1 := by
    rw [← hL0]
    cases hq : lvOf A I with
    | none =>
      show (List.replicate (n + 1).toNat (0 : Int)).length = _
      rw [List.length_replicate]
      omega
    | some L => exact hlvI L hq
  have hL0a : ∀ (j : Nat) (v : Int), 0 < v → (At L0 j v ↔ ∃ p ∈ P, p.1 = le ∧ At p.2 j v) := by
    intro j v hv
    rw [← hL0]
    cases hr : reach ar 0 le with
    | some q =>
      have := w4 le q hr
      rw [w2] at this
      injection this with this
      subst this
      rw [← h.lev le _ hr j v hv, ← w5]
      cases hq : lvOf A I with
      | none =>
        show At (List.replicate (n + 1).toNat 0) j v ↔ At [] j v
        constructor
        · rintro ⟨a, b⟩
          exfalso
          unfold rd at b
          rw [Int.toNat_natCast, List.getD_eq_getElem?_getD, List.getElem?_replicate] at b
          split at b <;> simp at b <;> omega
        · rintro ⟨a, _⟩
          simp at a
      | some L => exact Iff.rfl
    | none =>
      have hnone : lvOf A I = none := by
        cases hq : lvOf A I with
        | none => rfl
        | some L =>
          rw [w5] at hq
          obtain ⟨x, hx⟩ := h.own I L hq
          have := reach_inj w1 _ x le I rfl (w4 x I hx) w2
          subst this
          rw [hr] at hx
          cases hx
      rw [hnone]
      constructor
      · rintro ⟨a, b⟩
        exfalso
        unfold rd at b
        rw [Int.toNat_natCast, List.getD_eq_getElem?_getD] at b
        rw [show (none : Option (List Int)).getD (List.replicate (n + 1).toNat 0) = List.replicate (n + 1).toNat 0 from rfl, List.getElem?_replicate] at b
        split at b <;> simp at b <;> omega
      · rintro ⟨p, hp, rfl, _⟩
        have := (h.pre p.1).2 (.inr ⟨p, hp, List.prefix_rfl⟩)
        rw [hr] at this
        cases this
  rw [hL0]
  refine ⟨⟨⟨by rw [List.length_set]; exact w1.pos, fun i c q hq => ?_, fun i j c d q hq hq' => ?_, fun i c hq => ?_⟩, fun x => ?_, fun x q L hx hl2 => ?_, fun x q hx j v hv => ?_, fun q L hq => ?_⟩, by rw [List.length_set, w6], fun nd L hnd hL => ?_⟩
  · rw [hkid] at hq
    rw [List.length_set]
    exact w1.lt _ _ _ hq
  · rw [hkid] at hq hq'
    exact w1.uniq _ _ _ _ _ hq hq'
  · rw [hkid] at hq
    exact w1.root _ _ hq
  · rw [hreach, w3, h.pre]
    constructor
    · rintro ((q | ⟨p, hp, q⟩) | ⟨m, h1, h2, h3⟩)
      · exact .inl q
      · exact .inr ⟨p, List.mem_append_left _ hp, q⟩
      · exact .inr ⟨(le, lv), by simp, by rw [h3]; exact List.take_prefix _ _⟩
    · rintro (q | ⟨p, hp, q⟩)
      · exact .inl (.inl q)
      · rcases List.mem_append.1 hp with hp | hp
        · exact .inl (.inr ⟨p, hp, q⟩)
        · rw [List.mem_singleton] at hp
          subst hp
          by_cases hx0 : x = []
          · exact .inl (.inl hx0)
          · exact .inr ((take_prefix_iff x le hx0).1 q)
  · rw [hreach] at hx
    rw [hlvs] at hl2
    by_cases hq : q = I
    · subst hq
      rw [if_pos rfl] at hl2
      injection hl2 with hl2
      subst hl2
      rw [lev_len, hL0l, reach_inj w1 _ x le q rfl hx w2]
    · rw [if_neg hq, w5] at hl2
      obtain ⟨y, hy⟩ := h.own q L hl2
      have := reach_inj w1 _ y x q rfl (w4 y q hy) hx
      subst this
      exact h.len y q L hy hl2
  · rw [hreach] at hx
    rw [hlvs]
    by_cases hq : q = I
    · subst hq
      rw [if_pos rfl]
      have := reach_inj w1 _ x le q rfl hx w2
      subst this
      show At (Trie.lev L0 0 lv) j v ↔ _
      rw [lev_at _ _ _ _ _ (by omega), hL0a j v hv]
      constructor
      · rintro (⟨p, hp, a, b⟩ | ⟨_, b⟩)
        · exact ⟨p, List.mem_append_left _ hp, a, b⟩
        · exact ⟨(x, lv), by simp, rfl, b⟩
      · rintro ⟨p, hp, a, b⟩
        rcases List.mem_append.1 hp with hp | hp
        · exact .inl ⟨p, hp, a, b⟩
        · rw [List.mem_singleton] at hp
          subst hp
          exact .inr ⟨Nat.zero_le _, b⟩
    · rw [if_neg hq, w5]
      have hxle : x ≠ le := fun e => by
        rw [e, w2] at hx
        injection hx with hx
        exact hq hx.symm
      have back : ∀ (R : List (List Int × List Int)), (∃ p ∈ R ++ [(le, lv)], p.1 = x ∧ At p.2 j v) ↔ ∃ p ∈ R, p.1 = x ∧ At p.2 j v := by
        intro R
        constructor
        · rintro ⟨p, hp, a, b⟩
          rcases List.mem_append.1 hp with hp | hp
          · exact ⟨p, hp, a, b⟩
          · rw [List.mem_singleton] at hp
            subst hp
            exact absurd a.symm hxle
        · rintro ⟨p, hp, a, b⟩
          exact ⟨p, List.mem_append_left _ hp, a, b⟩
      rw [back]
      cases hr : reach ar 0 x with
      | some q' =>
        have := w4 x q' hr
        rw [hx] at this
        injection this with this
        subst this
        exact h.lev x _ hr j v hv
      | none =>
        have hnone : lvOf ar q = none := by
          cases hq2 : lvOf ar q with
          | none => rfl
          | some L =>
            obtain ⟨y, hy⟩ := h.own q L hq2
            have := reach_inj w1 _ y x q rfl (w4 y q hy) hx
            subst this
            rw [hr] at hy
            cases hy
        rw [hnone]
        constructor
        · rintro ⟨a, _⟩
          simp at a
        · rintro ⟨p, hp, rfl, _⟩
          have := (h.pre p.1).2 (.inr ⟨p, hp, List.prefix_rfl⟩)
          rw [hr] at this
          cases this
  · rw [hlvs] at hq
    by_cases hqI : q = I
    · subst hqI
      exact ⟨le, by rw [hreach]; exact w2⟩
    · rw [if_neg hqI, w5] at hq
      obtain ⟨y, hy⟩ := h.own q L hq
      exact ⟨y, by rw [hreach]; exact w4 y q hy⟩
  · have : lvOf A I = some L := by
      unfold lvOf
      rw [List.getD_eq_getElem?_getD, hnd]
      exact hL
    rw [hlvI L this, hl]
end Go.Proofs.YtenhfmlkdcfbbaaDoor.Law21
