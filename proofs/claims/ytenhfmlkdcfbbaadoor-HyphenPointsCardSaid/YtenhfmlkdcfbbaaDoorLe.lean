/- law21, the plain law: the levels that a trie says of a word, pattern by pattern. -/
import Derived.Test.YtenhfmlkdcfbbaaDoorLa
import Derived.Test.YtenhfmlkdcfbbaaDoorLev
namespace Go.Proofs.YtenhfmlkdcfbbaaDoor.Law21
open Go.RowKit Go.Proofs.YtenhfmlkdcfbbaaDoorW.PrintWords Go.Proofs.YtenhfmlkdcfbbaaDoorW.PrintLast Go.Proofs.YtenhfmlkdcfbbaaDoorW.PrintMore Go.Proofs.YtenhfmlkdcfbbaaDoor.PHyphenPoints
set_option linter.unusedVariables false
theorem mem_path (ar : List Trie.PN) : ∀ (l : List Int) (i q : Nat), q ∈ Wy.path ar i l ↔ ∃ n, 0 < n ∧ n ≤ l.length ∧ reach ar i (l.take n) = some q
  | [], i, q => by
    rw [Wy.path]
    constructor
    · intro h
      cases h
    · rintro ⟨n, h1, h2, _⟩
      simp at h2
      omega
  | c :: r, i, q => by
    have e : Wy.path ar i (c :: r) = match kid ar i c with | none => [] | some q => q :: Wy.path ar q r := rfl
    rw [e]
    cases hk : kid ar i c with
    | none =>
      constructor
      · intro h
        cases h
      · rintro ⟨n, h1, h2, h3⟩
        obtain ⟨n, rfl⟩ : ∃ m, n = m + 1 := ⟨n - 1, by omega⟩
        rw [List.take_succ_cons, reach, hk] at h3
        cases h3
    | some p =>
      show q ∈ p :: Wy.path ar p r ↔ _
      rw [List.mem_cons, mem_path ar r p q]
      constructor
      · rintro (rfl | ⟨n, h1, h2, h3⟩)
        · exact ⟨1, by omega, by simp, by rw [List.take_succ_cons, reach, hk]; rfl⟩
        · exact ⟨n + 1, by omega, by simp; omega, by rw [List.take_succ_cons, reach, hk]; exact h3⟩
      · rintro ⟨n, h1, h2, h3⟩
        obtain ⟨n, rfl⟩ : ∃ m, n = m + 1 := ⟨n - 1, by omega⟩
        rw [List.take_succ_cons, reach, hk] at h3
        have h3' : reach ar p (r.take n) = some q := h3
        by_cases hn : n = 0
        · subst hn
          rw [List.take_zero] at h3'
          injection h3' with h3'
          exact .inl h3'.symm
        · exact .inr ⟨n, by omega, by simp at h2; omega, h3'⟩
theorem adds_len (ar : List Trie.PN) (f : Nat) : ∀ (qs : List Nat) (o : List Int), (Lv.adds ar f o qs).length = o.length
  | [], _ => rfl
  | q :: r, o => by rw [Lv.adds, adds_len ar f r, lev_len]
theorem adds_at (ar : List Trie.PN) (f j : Nat) (v : Int) : ∀ (qs : List Nat) (o : List Int), (∀ q ∈ qs, f + (Lv.lvs ar q).length ≤ o.length) →
    (At (Lv.adds ar f o qs) j v ↔ At o j v ∨ ∃ q ∈ qs, f ≤ j ∧ At (Lv.lvs ar q) (j - f) v)
  | [], o, h => by simp [Lv.adds]
  | q :: r, o, h => by
    rw [Lv.adds, adds_at ar f j v r _ (fun p hp => by rw [lev_len]; exact h p (List.mem_cons_of_mem _ hp)), lev_at _ _ _ _ _ (h q List.mem_cons_self)]
    constructor
    · rintro ((a | a) | ⟨p, hp, a⟩)
      · exact .inl a
      · exact .inr ⟨q, List.mem_cons_self, a⟩
      · exact .inr ⟨p, List.mem_cons_of_mem _ hp, a⟩
    · rintro (a | ⟨p, hp, a⟩)
      · exact .inl (.inl a)
      · rcases List.mem_cons.1 hp with rfl | hp
        · exact .inl (.inr a)
        · exact .inr ⟨p, hp, a⟩
theorem loop_len (ar : List Trie.PN) (d : List Int) : ∀ (n i : Nat) (o : List Int), (Lv.loop ar d n i o).length = o.length
  | 0, _, _ => rfl
  | n + 1, i, o => by rw [Lv.loop, loop_len ar d n, adds_len]
theorem loop_at (ar : List Trie.PN) (d : List Int) (j : Nat) (v : Int) : ∀ (n i : Nat) (o : List Int), (∀ m, i ≤ m → m < i + n → ∀ q ∈ Wy.path ar 0 (d.drop m), (m - 1) + (Lv.lvs ar q).length ≤ o.length) →
    (At (Lv.loop ar d n i o) j v ↔ At o j v ∨ ∃ m, i ≤ m ∧ m < i + n ∧ ∃ q ∈ Wy.path ar 0 (d.drop m), m - 1 ≤ j ∧ At (Lv.lvs ar q) (j - (m - 1)) v)
  | 0, i, o, h => by
    rw [Lv.loop]
    constructor
    · exact fun a => .inl a
    · rintro (a | ⟨m, h1, h2, _⟩)
      · exact a
      · omega
  | n + 1, i, o, h => by
    rw [Lv.loop, loop_at ar d j v n (i + 1) _ (fun m h1 h2 q hq => by rw [adds_len]; exact h m (by omega) (by omega) q hq), adds_at ar (i - 1) j v _ o (fun q hq => h i (Nat.le_refl _) (by omega) q hq)]
    constructor
    · rintro ((a | ⟨q, hq, a⟩) | ⟨m, h1, h2, q, hq, a⟩)
      · exact .inl a
      · exact .inr ⟨i, Nat.le_refl _, by omega, q, hq, a⟩
      · exact .inr ⟨m, by omega, by omega, q, hq, a⟩
    · rintro (a | ⟨m, h1, h2, q, hq, a⟩)
      · exact .inl (.inl a)
      · by_cases e : m = i
        · subst e
          exact .inl (.inr ⟨q, hq, a⟩)
        · exact .inr ⟨m, by omega, by omega, q, hq, a⟩
theorem not_at_zeros (n j : Nat) (v : Int) (hv : 0 < v) : ¬ At (List.replicate n 0) j v := by
  rintro ⟨a, b⟩
  unfold rd at b
  rw [Int.toNat_natCast, List.getD_eq_getElem?_getD, List.getElem?_replicate] at b
  split at b <;> simp at b <;> omega
theorem levels_len (ar : List Trie.PN) (l : List Int) : (Lv.levels ar l).length = l.length + 1 := by
  unfold Lv.levels
  rw [loop_len, List.length_replicate]
theorem cnt_append (x y : List Int) : cnt (x ++ y) = cnt x + cnt y := by
  unfold cnt
  rw [List.filter_append, List.length_append]
theorem cnt_le (x : List Int) : cnt x ≤ x.length := List.length_filter_le _ _
theorem cnt_take (x : List Int) (n : Nat) : cnt (x.take n) ≤ cnt x := by
  have := cnt_append (x.take n) (x.drop n)
  rw [List.take_append_drop] at this
  omega
theorem cnt_dot : cnt [46] = 0 := rfl
theorem dotted_cnt (l : List Int) (m : Nat) (hm : m < l.length + 2) : (m - 1) + cnt ((Lv.dotted l).drop m) ≤ l.length := by
  unfold Lv.dotted
  cases m with
  | zero =>
    rw [List.drop_zero, List.cons_append, ← List.singleton_append, cnt_append, cnt_append]
    have := cnt_le l
    rw [cnt_dot]
    omega
  | succ m =>
    rw [List.cons_append, List.drop_succ_cons]
    by_cases h : m ≤ l.length
    · rw [List.drop_append_of_le_length h, cnt_append, cnt_dot]
      have := cnt_le (l.drop m)
      rw [List.length_drop] at this
      omega
    · omega
theorem lvs_fit {P : List (List Int × List Int)} {ar : List Trie.PN} (h : Says P ar) (l : List Int) : ∀ m, m < l.length + 2 → ∀ q ∈ Wy.path ar 0 ((Lv.dotted l).drop m), (m - 1) + (Lv.lvs ar q).length ≤ l.length + 1 := by
  intro m hm q hq
  obtain ⟨n, h1, h2, h3⟩ := (mem_path ar _ _ _).1 hq
  have hd := dotted_cnt l m hm
  have e : Lv.lvs ar q = (lvOf ar q).getD [] := rfl
  rw [e]
  cases hL : lvOf ar q with
  | none =>
    show m - 1 + 0 ≤ _
    omega
  | some L =>
    have := h.len _ _ _ h3 hL
    have := cnt_take ((Lv.dotted l).drop m) n
    show m - 1 + L.length ≤ _
    omega
theorem levels_at {P : List (List Int × List Int)} {ar : List Trie.PN} (h : Says P ar) (l : List Int) (j : Nat) (v : Int) (hv : 0 < v) :
    At (Lv.levels ar l) j v ↔ ∃ m, m < l.length + 2 ∧ ∃ p ∈ P, p.1 ≠ [] ∧ p.1 <+: (Lv.dotted l).drop m ∧ m - 1 ≤ j ∧ At p.2 (j - (m - 1)) v := by
  unfold Lv.levels
  rw [loop_at _ _ _ _ _ _ _ (fun m _ h2 q hq => by rw [List.length_replicate]; exact lvs_fit h l m (by omega) q hq)]
  constructor
  · rintro (a | ⟨m, _, h2, q, hq, h3, h4⟩)
    · exact absurd a (not_at_zeros _ _ _ hv)
    · obtain ⟨n, n1, n2, n3⟩ := (mem_path ar _ _ _).1 hq
      obtain ⟨p, hp, e, ha⟩ := (h.lev _ _ n3 _ v hv).1 h4
      refine ⟨m, by omega, p, hp, ?_, ?_, h3, ha⟩
      · intro e0
        rw [e] at e0
        have := congrArg List.length e0
        rw [List.length_take, List.length_nil] at this
        omega
      · rw [e]
        exact List.take_prefix _ _
  · rintro ⟨m, hm, p, hp, h0, h1, h2, h3⟩
    obtain ⟨n, n1, n2, n3⟩ := (take_prefix_iff _ _ h0).1 h1
    have hr := (h.pre p.1).2 (.inr ⟨p, hp, List.prefix_rfl⟩)
    obtain ⟨q, hq⟩ := Option.isSome_iff_exists.1 hr
    refine .inr ⟨m, Nat.zero_le _, by omega, q, (mem_path ar _ _ _).2 ⟨n, n1, n2, by rw [← n3]; exact hq⟩, h2, ?_⟩
    exact (h.lev _ _ hq _ v hv).2 ⟨p, hp, rfl, h3⟩
def dot (b : Bool) : List Int := if b = true then [46] else []
theorem prefix_dot {w ls : List Int} (hw : ∀ c ∈ w, c ≠ 46) (hl : ∀ c ∈ ls, c ≠ 46) (t : Bool) : ls ++ dot t <+: w ++ [46] ↔ ls <+: w ∧ (t = true → ls.length = w.length) := by
  cases t with
  | false =>
    show ls ++ [] <+: _ ↔ _
    rw [List.append_nil]
    constructor
    · intro h
      refine ⟨?_, by simp⟩
      rcases Nat.lt_or_ge w.length ls.length with q | q
      · have h1 := h.length_le
        rw [List.length_append, List.length_singleton] at h1
        have e : ls = w ++ [46] := h.eq_of_length (by simp; omega)
        exact absurd rfl (hl 46 (by rw [e]; simp))
      · exact List.prefix_of_prefix_length_le h (List.prefix_append _ _) q
    · rintro ⟨h, _⟩
      exact h.trans (List.prefix_append _ _)
  | true =>
    show ls ++ [46] <+: _ ↔ _
    constructor
    · intro h
      have h1 := h.length_le
      simp only [List.length_append, List.length_singleton] at h1
      have h2 : ls <+: w := List.prefix_of_prefix_length_le ((List.prefix_append ls [46]).trans h) (List.prefix_append _ _) (by omega)
      refine ⟨h2, fun _ => ?_⟩
      obtain ⟨r, hr⟩ := h
      obtain ⟨s, rfl⟩ := h2
      rw [List.append_assoc, List.append_assoc] at hr
      have hr := List.append_cancel_left hr
      cases s with
      | nil => simp
      | cons c s =>
        exfalso
        rw [List.cons_append, List.cons_append] at hr
        injection hr with hr
        exact hw c (by simp) hr.symm
    · rintro ⟨h, e⟩
      have := h.eq_of_length (e rfl)
      rw [this]
      exact List.prefix_rfl
theorem stands {w ls : List Int} (hw : ∀ c ∈ w, c ≠ 46) (hl : ∀ c ∈ ls, c ≠ 46) (h0 : ls ≠ []) (hd tl : Bool) (lv : List Int) (j : Nat) (v : Int) :
    (∃ m, m < w.length + 2 ∧ dot hd ++ ls ++ dot tl <+: (Lv.dotted w).drop m ∧ m - 1 ≤ j ∧ At lv (j - (m - 1)) v) ↔
    ∃ a, a + ls.length ≤ w.length ∧ ls <+: w.drop a ∧ (hd = true → a = 0) ∧ (tl = true → a + ls.length = w.length) ∧ a ≤ j ∧ At lv (j - a) v := by
  have hdr : ∀ a, a ≤ w.length → (Lv.dotted w).drop (a + 1) = w.drop a ++ [46] := by
    intro a ha
    unfold Lv.dotted
    rw [List.cons_append, List.drop_succ_cons, List.drop_append_of_le_length ha]
  have hwd : ∀ a, ∀ c ∈ w.drop a, c ≠ 46 := fun a c hc => hw c (List.mem_of_mem_drop hc)
  constructor
  · rintro ⟨m, hm, hp, hj, ha⟩
    cases hd with
    | true =>
      have h1 : m = 0 := by
        rcases Nat.eq_zero_or_pos m with e | e
        · exact e
        · exfalso
          obtain ⟨m, rfl⟩ : ∃ q, m = q + 1 := ⟨m - 1, by omega⟩
          rw [hdr m (by omega)] at hp
          rcases Nat.lt_or_ge m w.length with q | q
          · rw [List.drop_eq_getElem_cons q] at hp
            obtain ⟨r, hr⟩ := hp
            have hr2 : some (46 : Int) = some w[m] := congrArg List.head? hr
            injection hr2 with hr
            exact hw _ (List.getElem_mem q) hr.symm
          · rw [List.drop_eq_nil_of_le q] at hp
            have := hp.length_le
            have := List.length_pos_iff.2 h0
            have e1 : (dot true).length = 1 := rfl
            simp only [List.length_append, List.length_nil, List.length_singleton] at *
            omega
      subst h1
      have hp2 : ls ++ dot tl <+: w ++ [46] := by
        have e : (Lv.dotted w).drop 0 = 46 :: (w ++ [46]) := by simp [Lv.dotted]
        rw [e] at hp
        have e2 : dot true ++ ls ++ dot tl = 46 :: (ls ++ dot tl) := by simp [dot]
        rw [e2] at hp
        exact (List.cons_prefix_cons.1 hp).2
      obtain ⟨p1, p2⟩ := (prefix_dot hw hl tl).1 hp2
      exact ⟨0, by have := p1.length_le; omega, by simpa using p1, fun _ => rfl, fun e => by have := p2 e; omega, Nat.zero_le _, ha⟩
    | false =>
      have hp' : ls ++ dot tl <+: (Lv.dotted w).drop m := by simpa [dot] using hp
      cases m with
      | zero =>
        exfalso
        have e : (Lv.dotted w).drop 0 = 46 :: (w ++ [46]) := by simp [Lv.dotted]
        rw [e] at hp'
        cases ls with
        | nil => exact h0 rfl
        | cons c r =>
          rw [List.cons_append] at hp'
          exact hl c (by simp) (List.cons_prefix_cons.1 hp').1
      | succ a =>
        rw [hdr a (by omega)] at hp'
        obtain ⟨p1, p2⟩ := (prefix_dot (hwd a) hl tl).1 hp'
        have hle := p1.length_le
        rw [List.length_drop] at hle p2
        have := List.length_pos_iff.2 h0
        exact ⟨a, by omega, p1, by simp, fun e => by have := p2 e; omega, hj, ha⟩
  · rintro ⟨a, h1, h2, h3, h4, h5, h6⟩
    have hp : ls ++ dot tl <+: w.drop a ++ [46] := (prefix_dot (hwd a) hl tl).2 ⟨h2, fun e => by rw [List.length_drop]; have := h4 e; omega⟩
    cases hd with
    | true =>
      obtain rfl := h3 rfl
      refine ⟨0, by omega, ?_, by omega, h6⟩
      have e : (Lv.dotted w).drop 0 = 46 :: (w ++ [46]) := by simp [Lv.dotted]
      have e2 : dot true ++ ls ++ dot tl = 46 :: (ls ++ dot tl) := by simp [dot]
      rw [e, e2]
      exact List.cons_prefix_cons.2 ⟨rfl, by simpa using hp⟩
    | false =>
      refine ⟨a + 1, by omega, ?_, h5, h6⟩
      rw [hdr a (by omega)]
      simpa [dot] using hp
theorem at_ext {a b : List Int} (hl : a.length = b.length) (ha : ∀ j : Nat, 0 ≤ rd a (j : Int)) (hb : ∀ j : Nat, 0 ≤ rd b (j : Int)) (h : ∀ (j : Nat) (v : Int), 0 < v → (At a j v ↔ At b j v)) : a = b := by
  refine List.ext_getElem hl (fun j h1 h2 => ?_)
  have ea : rd a (j : Int) = a[j] := by unfold rd; rw [Int.toNat_natCast, List.getD_eq_getElem?_getD, List.getElem?_eq_getElem h1]; rfl
  have eb : rd b (j : Int) = b[j] := by unfold rd; rw [Int.toNat_natCast, List.getD_eq_getElem?_getD, List.getElem?_eq_getElem h2]; rfl
  have qa := ha j
  have qb := hb j
  rw [ea] at qa
  rw [eb] at qb
  have k1 := h j a[j]
  have k2 := h j b[j]
  unfold At at k1 k2
  rw [ea, eb] at k1 k2
  rcases Int.lt_trichotomy a[j] b[j] with q | q | q
  · have := (k2 (by omega)).2 ⟨h2, Int.le_refl _⟩
    omega
  · exact q
  · have := (k1 (by omega)).1 ⟨h1, Int.le_refl _⟩
    omega
end Go.Proofs.YtenhfmlkdcfbbaaDoor.Law21
