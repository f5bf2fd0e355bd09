/- law21, the plain law: one pattern, one exception: the program takes in what the reference does. -/
import Derived.Test.YtenhfmlkdcfbbaaDoorLh
namespace Go.Proofs.YtenhfmlkdcfbbaaDoor.Law21
open Go.RowKit Go.Proofs.YtenhfmlkdcfbbaaDoorW.PrintWords Go.Proofs.YtenhfmlkdcfbbaaDoorW.PrintLast Go.Proofs.YtenhfmlkdcfbbaaDoorW.PrintMore Go.Proofs.YtenhfmlkdcfbbaaDoor.PHyphenPoints Go.Proofs.YtenhfmlkdcfbbaaDoor.LawW
set_option linter.unusedVariables false
open LawE (valid enc enc_cons)
def letB (c : Int) : Bool := decide (cls c = 2) && (lowV c == c)
theorem letB_iff (c : Int) : letB c = true ↔ cls c = 2 ∧ lowV c = c := by
  unfold letB
  simp
theorem letter_ev (c : Int) : Ev (fun k => hyphen_letter.f k c) (letB c) := by
  unfold hyphen_letter.f letB
  refine Ev.bind (class_ev c) (Ev.all (fun k => ?_))
  by_cases h : cls c = 2
  · rw [if_pos h, lower_f, Option.bind_some, decide_eq_true h, Bool.true_and]
  · rw [if_neg h, decide_eq_false h, Bool.false_and]
theorem rletter_ev (c : Int) : Ev (fun k => colophonref21_Letter.f k c) (letB c) := by
  unfold colophonref21_Letter.f letB
  refine Ev.bind (rclass_ev c) (Ev.all (fun k => ?_))
  by_cases h : cls c = 2
  · rw [if_pos h, rlower_f, Option.bind_some, decide_eq_true h, Bool.true_and]
  · rw [if_neg h, decide_eq_false h, Bool.false_and]
theorem letB_dash : letB 45 = false := by decide +kernel
theorem letB_digit {c : Int} (h : 48 ≤ c ∧ c ≤ 57) : letB c = false := by
  cases hb : letB c with
  | false => rfl
  | true =>
    have := ((letB_iff c).1 hb).1
    rw [cls_two] at this
    omega
def scan : List Int → List Int → List Int → Int → Bool → Option (List Int × List Int)
  | [], L, V, lev, _ => some (L, V ++ [lev])
  | c :: r, L, V, lev, dg =>
    if 48 ≤ c ∧ c ≤ 57 then (if dg = true then none else scan r L V (c - 48) true)
    else if letB c = true ∧ L.length ≠ 64 then scan r (L ++ [c]) (V ++ [lev]) 0 false else none
theorem scan_good : ∀ (m L V : List Int) (lev : Int) (dg : Bool), L.length ≤ 64 → V.length = L.length → (∀ c ∈ L, cls c = 2 ∧ lowV c = c) → (∀ x ∈ V, 0 ≤ x) → 0 ≤ lev →
    ∀ L' V', scan m L V lev dg = some (L', V') → L'.length ≤ 64 ∧ V'.length = L'.length + 1 ∧ (∀ c ∈ L', cls c = 2 ∧ lowV c = c) ∧ ∀ x ∈ V', 0 ≤ x
  | [], L, V, lev, dg, h1, h2, h3, h4, h5, L', V', h => by
    injection h with h
    injection h with e1 e2
    subst e1 e2
    refine ⟨h1, by simp; omega, h3, fun x hx => ?_⟩
    rcases List.mem_append.1 hx with hx | hx
    · exact h4 x hx
    · rw [List.mem_singleton] at hx
      omega
  | c :: m, L, V, lev, dg, h1, h2, h3, h4, h5, L', V', h => by
    rw [scan] at h
    by_cases hd : 48 ≤ c ∧ c ≤ 57
    · rw [if_pos hd] at h
      cases dg with
      | true => cases h
      | false =>
        rw [if_neg (by decide)] at h
        exact scan_good m L V (c - 48) true h1 h2 h3 h4 (by omega) L' V' h
    · rw [if_neg hd] at h
      by_cases hl : letB c = true ∧ L.length ≠ 64
      · rw [if_pos hl] at h
        refine scan_good m (L ++ [c]) (V ++ [lev]) 0 false (by simp; omega) (by simp; omega) (fun x hx => ?_) (fun x hx => ?_) (Int.le_refl _) L' V' h
        · rcases List.mem_append.1 hx with hx | hx
          · exact h3 x hx
          · rw [List.mem_singleton] at hx
            rw [hx]
            exact (letB_iff c).1 hl.1
        · rcases List.mem_append.1 hx with hx | hx
          · exact h4 x hx
          · rw [List.mem_singleton] at hx
            omega
      · rw [if_neg hl] at h
        cases h
theorem set_last (V : List Int) (a b : Int) : (V ++ [a]).set V.length b = V ++ [b] := by
  rw [List.set_append_right _ _ (Nat.le_refl _), Nat.sub_self]
  rfl
theorem pscan (w : List Int) (hw : w.length ≤ 60000) (pre tail : List Int) (hpre : pre.length ≤ 1) (ht : tail = [] ∨ tail = [46]) : ∀ (mid : List Int) (i : Nat) (L V : List Int) (lev : Int) (dg : Bool),
    w.drop i = mid ++ tail → i + (mid ++ tail).length = w.length → (tail = [] → ∀ m', mid ≠ m' ++ [46]) → (i = 0 → mid.head? ≠ some 46) → L.length ≤ 64 → V.length = L.length →
    Ev (fun k => hyphen_Set_pattern.l0 k w (pre ++ L) (V ++ [lev]) (L.length : Int) dg w (w.length : Int) (i : Int)) (match scan mid L V lev dg with | none => none | some q => some (pre ++ q.1 ++ tail, q.2, (q.1.length : Int)))
  | [], i, L, V, lev, dg, hd, hlen, h1, h2, hL, hV => by
    show Ev _ (some (pre ++ L ++ tail, V ++ [lev], (L.length : Int)))
    rcases ht with rfl | rfl
    · rw [List.append_nil]
      refine Ev.one (fun k => ?_)
      rw [hyphen_Set_pattern.l0, if_neg (by simp at hlen; omega)]
    · have hi : i < w.length := by simp at hlen; omega
      have he : i + 1 = w.length := by simp at hlen; omega
      have hc : w[i] = 46 := by
        have := List.drop_eq_getElem_cons hi
        rw [hd] at this
        injection this with this
        exact this.symm
      have c1 : (i : Int) < (w.length : Int) := by omega
      have c2 : (pre ++ L).length < 17592186044416 := by rw [List.length_append]; omega
      have c3 : ¬ ((i + 1 : Nat) : Int) < (w.length : Int) := by omega
      have e0 : wrap64 ((w.length : Int) - 1) = (w.length : Int) - 1 := w_in (by omega)
      have c4 : ((i : Int) == (w.length : Int) - 1) = true := beq_iff_eq.2 (by omega)
      have e1 : wrap64 ((i : Int) + 1) = ((i + 1 : Nat) : Int) := by rw [w_in (by omega)]; omega
      have e : ∀ k, hyphen_Set_pattern.l0 (k + 1) w (pre ++ L) (V ++ [lev]) (L.length : Int) dg w (w.length : Int) (i : Int) = hyphen_Set_pattern.j1 k w (pre ++ L) (V ++ [lev]) (L.length : Int) dg 46 w (w.length : Int) (i : Int) true := by
        intro k
        rw [hyphen_Set_pattern.l0, if_pos c1, if_pos (Int.natCast_nonneg _), if_pos c1, rd_at hi, hc, if_pos rfl, e0, c4]
        split <;> rfl
      have e2 : ∀ k, hyphen_Set_pattern.j1 (k + 1) w (pre ++ L) (V ++ [lev]) (L.length : Int) dg 46 w (w.length : Int) (i : Int) true = hyphen_Set_pattern.l0 k w (pre ++ L ++ [46]) (V ++ [lev]) (L.length : Int) dg w (w.length : Int) ((i + 1 : Nat) : Int) := by
        intro k
        rw [hyphen_Set_pattern.j1, if_pos rfl, if_pos c2, e1]
      refine Ev.succ e (Ev.succ e2 (Ev.one (fun k => ?_)))
      rw [hyphen_Set_pattern.l0, if_neg c3]
  | c :: m, i, L, V, lev, dg, hd, hlen, h1, h2, hL, hV => by
    have hi : i < w.length := by simp at hlen; omega
    have hc : w[i] = c ∧ w.drop (i + 1) = m ++ tail := by
      have := List.drop_eq_getElem_cons hi
      rw [hd, List.cons_append] at this
      injection this with a b
      exact ⟨a.symm, b.symm⟩
    have hlen2 : i + 1 + (m ++ tail).length = w.length := by simp at hlen ⊢; omega
    have hnd : c = 46 → (i : Int) ≠ 0 ∧ (i : Int) ≠ (w.length : Int) - 1 := by
      rintro rfl
      refine ⟨fun q => h2 (by omega) rfl, fun q => ?_⟩
      have : m ++ tail = [] := List.eq_nil_of_length_eq_zero (by omega)
      obtain ⟨rfl, rfl⟩ := List.append_eq_nil_iff.1 this
      exact h1 rfl [] rfl
    have c1 : (i : Int) < (w.length : Int) := by omega
    have c2 : (pre ++ L).length < 17592186044416 := by rw [List.length_append]; omega
    have c5 : (V ++ [lev]).length < 17592186044416 := by rw [List.length_append, List.length_singleton]; omega
    have c6 : (L.length : Int) < ((V ++ [lev]).length : Int) := by rw [List.length_append, List.length_singleton]; omega
    have h1' : tail = [] → ∀ m', m ≠ m' ++ [46] := fun q m' e => h1 q (c :: m') (by rw [e]; rfl)
    have h2' : i + 1 = 0 → m.head? ≠ some 46 := fun q => absurd q (by omega)
    have e0 : wrap64 ((w.length : Int) - 1) = (w.length : Int) - 1 := w_in (by omega)
    have e1 : wrap64 ((i : Int) + 1) = ((i + 1 : Nat) : Int) := by rw [w_in (by omega)]; omega
    have e : ∀ k, hyphen_Set_pattern.l0 (k + 1) w (pre ++ L) (V ++ [lev]) (L.length : Int) dg w (w.length : Int) (i : Int) = hyphen_Set_pattern.j1 k w (pre ++ L) (V ++ [lev]) (L.length : Int) dg c w (w.length : Int) (i : Int) false := by
      intro k
      rw [hyphen_Set_pattern.l0, if_pos c1, if_pos (Int.natCast_nonneg _), if_pos c1, rd_at hi, hc.1]
      by_cases hd : c = 46
      · obtain ⟨q1, q2⟩ := hnd hd
        rw [if_pos hd, if_neg q1, e0, beq_eq_false_iff_ne.2 q2]
      · rw [if_neg hd]
    rw [scan]
    by_cases hdig : 48 ≤ c ∧ c ≤ 57
    · rw [if_pos hdig]
      cases dg with
      | false =>
        rw [if_neg (by decide)]
        have e3 : ∀ k, hyphen_Set_pattern.j1 (k + 1) w (pre ++ L) (V ++ [lev]) (L.length : Int) false c w (w.length : Int) (i : Int) false = hyphen_Set_pattern.j2 k w (pre ++ L) (V ++ [lev]) (L.length : Int) c w (w.length : Int) (i : Int) true := by
          intro k
          rw [hyphen_Set_pattern.j1, if_neg (by decide), if_pos hdig.1, if_pos hdig.2]
          rfl
        have e48 : wrap64 (c - 48) = c - 48 := w_in (by omega)
        have e4 : ∀ k, hyphen_Set_pattern.j2 (k + 1) w (pre ++ L) (V ++ [lev]) (L.length : Int) c w (w.length : Int) (i : Int) true = hyphen_Set_pattern.l0 k w (pre ++ L) (V ++ [c - 48]) (L.length : Int) true w (w.length : Int) ((i + 1 : Nat) : Int) := by
          intro k
          rw [hyphen_Set_pattern.j2, if_pos rfl, if_pos (Int.natCast_nonneg _), if_pos c6, e48, e1, Int.toNat_natCast, ← hV, set_last]
        exact Ev.succ e (Ev.succ e3 (Ev.succ e4 (pscan w hw pre tail hpre ht m (i + 1) L V (c - 48) true hc.2 hlen2 h1' h2' hL hV)))
      | true =>
        rw [if_pos rfl]
        have e3 : ∀ k, hyphen_Set_pattern.j1 (k + 1) w (pre ++ L) (V ++ [lev]) (L.length : Int) true c w (w.length : Int) (i : Int) false = hyphen_Set_pattern.j2 k w (pre ++ L) (V ++ [lev]) (L.length : Int) c w (w.length : Int) (i : Int) false := by
          intro k
          rw [hyphen_Set_pattern.j1, if_neg (by decide), if_pos hdig.1, if_pos hdig.2]
          rfl
        have e4 : ∀ k, hyphen_Set_pattern.j2 (k + 1) w (pre ++ L) (V ++ [lev]) (L.length : Int) c w (w.length : Int) (i : Int) false = (hyphen_letter.f k c).bind fun t => if t = true then (if (L.length : Int) < 64 then (if (pre ++ L).length < 17592186044416 then (if (V ++ [lev]).length < 17592186044416 then hyphen_Set_pattern.l0 k w (pre ++ L ++ [c]) (V ++ [lev] ++ [0]) (wrap64 ((L.length : Int) + 1)) false w (w.length : Int) (wrap64 ((i : Int) + 1)) else none) else none) else some none) else some none := by
          intro k
          rw [hyphen_Set_pattern.j2, if_neg (by decide)]
        refine Ev.succ e (Ev.succ e3 (Ev.succ e4 (Ev.bind (letter_ev c) ?_)))
        rw [letB_digit hdig]
        exact Ev.all (fun k => if_neg (by decide))
    · rw [if_neg hdig]
      have e3 : ∀ k, hyphen_Set_pattern.j1 (k + 1) w (pre ++ L) (V ++ [lev]) (L.length : Int) dg c w (w.length : Int) (i : Int) false = hyphen_Set_pattern.j2 k w (pre ++ L) (V ++ [lev]) (L.length : Int) c w (w.length : Int) (i : Int) false := by
        intro k
        rw [hyphen_Set_pattern.j1, if_neg (by decide)]
        by_cases q : 48 ≤ c
        · rw [if_pos q, if_neg (fun z => hdig ⟨q, z⟩)]
        · rw [if_neg q]
      have e4 : ∀ k, hyphen_Set_pattern.j2 (k + 1) w (pre ++ L) (V ++ [lev]) (L.length : Int) c w (w.length : Int) (i : Int) false = (hyphen_letter.f k c).bind fun t => if t = true then (if (L.length : Int) < 64 then (if (pre ++ L).length < 17592186044416 then (if (V ++ [lev]).length < 17592186044416 then hyphen_Set_pattern.l0 k w (pre ++ L ++ [c]) (V ++ [lev] ++ [0]) (wrap64 ((L.length : Int) + 1)) false w (w.length : Int) (wrap64 ((i : Int) + 1)) else none) else none) else some none) else some none := by
        intro k
        rw [hyphen_Set_pattern.j2, if_neg (by decide)]
      refine Ev.succ e (Ev.succ e3 (Ev.succ e4 (Ev.bind (letter_ev c) ?_)))
      cases hb : letB c with
      | false =>
        rw [if_neg (fun q => absurd q.1 (by decide))]
        exact Ev.all (fun k => if_neg (by decide))
      | true =>
        by_cases h64 : L.length = 64
        · rw [if_neg (fun q => q.2 h64)]
          exact Ev.all (fun k => by rw [if_pos rfl, if_neg (by omega)])
        · rw [if_pos ⟨rfl, h64⟩]
          have c7 : (L.length : Int) < 64 := by omega
          have hL2 : (L ++ [c]).length ≤ 64 := by simp; omega
          have hV2 : (V ++ [lev]).length = (L ++ [c]).length := by simp; omega
          have e7 : wrap64 ((L.length : Int) + 1) = ((L ++ [c]).length : Int) := by rw [w_in (by omega)]; simp
          have ih := pscan w hw pre tail hpre ht m (i + 1) (L ++ [c]) (V ++ [lev]) 0 false hc.2 hlen2 h1' h2' hL2 hV2
          refine Ev.congr (fun k => ?_) ih
          rw [if_pos rfl, if_pos c7, if_pos c2, if_pos c5, e7, e1, List.append_assoc]
theorem rscan (mid : List Int) (hw : mid.length ≤ 60000) (hd tl : Bool) : ∀ (d i : Nat) (L V : List Int) (lev : Int) (dg : Bool), i + d = mid.length → L.length ≤ 64 → V.length = L.length →
    ∃ a b, Ev (fun k => colophonref21_read.l0 k mid lev dg (i : Int) L hd tl V) (match scan (mid.drop i) L V lev dg with | none => (a, hd, tl, b, false) | some q => (q.1, hd, tl, q.2, decide (0 < q.1.length)))
  | 0, i, L, V, lev, dg, hlen, hL, hV => by
    rw [List.drop_eq_nil_of_le (by omega)]
    have c1 : V.length < 17592186044416 := by omega
    refine ⟨[], [], Ev.one (fun k => ?_)⟩
    rw [colophonref21_read.l0, if_neg (by omega), if_pos c1]
    show _ = some (L, hd, tl, V ++ [lev], decide (0 < L.length))
    congr 5
    rw [decide_eq_decide]
    omega
  | d + 1, i, L, V, lev, dg, hlen, hL, hV => by
    have hi : i < mid.length := by omega
    have q1 : i + 1 + d = mid.length := by omega
    have c1 : (i : Int) < (mid.length : Int) := by omega
    have c2 : L.length < 17592186044416 := by omega
    have c3 : V.length < 17592186044416 := by omega
    rw [List.drop_eq_getElem_cons hi, scan]
    obtain ⟨c, hc⟩ : ∃ c, mid[i] = c := ⟨_, rfl⟩
    rw [hc]
    have e1 : wrap64 ((i : Int) + 1) = ((i + 1 : Nat) : Int) := by rw [w_in (by omega)]; omega
    have e : ∀ k, colophonref21_read.l0 (k + 1) mid lev dg (i : Int) L hd tl V = colophonref21_read.j5 k mid lev dg (i : Int) (decide (48 ≤ c ∧ c ≤ 57)) L hd tl V := by
      intro k
      rw [colophonref21_read.l0, if_pos c1, if_pos (Int.natCast_nonneg _), rd_at hi, hc]
      by_cases q : c ≥ 48
      · rw [if_pos q]
        congr 1
        rw [decide_eq_decide]
        omega
      · rw [if_neg q, decide_eq_false (fun z => q z.1)]
    by_cases hdig : 48 ≤ c ∧ c ≤ 57
    · rw [if_pos hdig]
      rw [decide_eq_true hdig] at e
      cases dg with
      | true =>
        rw [if_pos rfl]
        exact ⟨L, V, Ev.succ e (Ev.one (fun k => by rw [colophonref21_read.j5, if_pos rfl, if_pos rfl]))⟩
      | false =>
        rw [if_neg (by decide)]
        have e48 : wrap64 (c - 48) = c - 48 := w_in (by omega)
        obtain ⟨a, b, ih⟩ := rscan mid hw hd tl d (i + 1) L V (c - 48) true q1 hL hV
        refine ⟨a, b, Ev.succ e (Ev.succ (fun k => ?_) ih)⟩
        rw [colophonref21_read.j5, if_pos rfl, if_neg (by decide), if_pos (Int.natCast_nonneg _), if_pos c1, rd_at hi, hc, e48, e1]
    · rw [if_neg hdig]
      rw [decide_eq_false hdig] at e
      have e4 : ∀ k, colophonref21_read.j5 (k + 1) mid lev dg (i : Int) false L hd tl V = (colophonref21_Letter.f k c).bind fun t => if t = true then (if (L.length : Int) = 64 then some (L, hd, tl, V, false) else colophonref21_read.l0 k mid 0 false ((i + 1 : Nat) : Int) (L ++ [c]) hd tl (V ++ [lev])) else some (L, hd, tl, V, false) := by
        intro k
        rw [colophonref21_read.j5, if_neg (by decide), if_pos (Int.natCast_nonneg _), if_pos c1, rd_at hi, hc, e1, if_pos c2, if_pos c3]
      cases hb : letB c with
      | false =>
        rw [if_neg (fun q => absurd q.1 (by decide))]
        have hl := rletter_ev c
        rw [hb] at hl
        exact ⟨L, V, Ev.succ e (Ev.succ e4 (Ev.bind hl (Ev.all (fun k => if_neg (by decide)))))⟩
      | true =>
        have hl := rletter_ev c
        rw [hb] at hl
        by_cases h64 : L.length = 64
        · rw [if_neg (fun q => q.2 h64)]
          exact ⟨L, V, Ev.succ e (Ev.succ e4 (Ev.bind hl (Ev.all (fun k => by rw [if_pos rfl, if_pos (by omega)]))))⟩
        · rw [if_pos ⟨rfl, h64⟩]
          obtain ⟨a, b, ih⟩ := rscan mid hw hd tl d (i + 1) (L ++ [c]) (V ++ [lev]) 0 false q1 (by simp; omega) (by simp; omega)
          refine ⟨a, b, Ev.succ e (Ev.succ e4 (Ev.bind hl (Ev.congr (fun k => ?_) ih)))⟩
          rw [if_pos rfl, if_neg (by omega)]
def headB (w : List Int) : Bool := match w with | [] => false | c :: _ => decide (c = 46)
def body1 (w : List Int) : List Int := if headB w = true then w.drop 1 else w
def tailB (r : List Int) : Bool := decide (r.getLast? = some 46)
def body2 (r : List Int) : List Int := if tailB r = true then r.dropLast else r
def parse (w : List Int) : Option S66 := match scan (body2 (body1 w)) [] [] 0 false with
  | none => none
  | some q => if q.1 = [] then none else some ⟨q.1, headB w, tailB (body1 w), q.2⟩
theorem body2_eq (r : List Int) : r = body2 r ++ dot (tailB r) ∧ (dot (tailB r) = [] → ∀ m', body2 r ≠ m' ++ [46]) := by
  unfold body2 tailB
  by_cases h : r.getLast? = some 46
  · rw [decide_eq_true h, if_pos rfl]
    refine ⟨?_, fun q => by cases q⟩
    rcases snoc_cases r with rfl | ⟨x, d, rfl⟩
    · cases h
    · rw [List.getLast?_concat] at h
      injection h with h
      subst h
      rw [List.dropLast_concat]
      rfl
  · rw [decide_eq_false h, if_neg (by decide)]
    refine ⟨by simp [dot], fun _ m' q => h ?_⟩
    rw [q, List.getLast?_concat]
theorem body1_eq (w : List Int) : w = dot (headB w) ++ body1 w := by
  unfold body1
  cases hh : headB w with
  | false =>
    rw [if_neg (by decide)]
    rfl
  | true =>
    rw [if_pos rfl]
    cases w with
    | nil => cases hh
    | cons c r =>
      have h : c = 46 := of_decide_eq_true hh
      subst h
      rfl
theorem parse_good {w : List Int} {p : S66} (h : parse w = some p) : GP p := by
  unfold parse at h
  cases hs : scan (body2 (body1 w)) [] [] 0 false with
  | none =>
    rw [hs] at h
    cases h
  | some q =>
    rw [hs] at h
    dsimp only at h
    obtain ⟨a1, a2, a3, a4⟩ := scan_good _ [] [] 0 false (by simp) rfl (by simp) (by simp) (Int.le_refl _) q.1 q.2 hs
    by_cases h0 : q.1 = []
    · rw [if_pos h0] at h
      cases h
    · rw [if_neg h0] at h
      injection h with h
      subst h
      exact ⟨h0, a1, a2, a3, a4⟩
theorem pattern_ev (w : List Int) (hw : w.length ≤ 60000) : ∃ r, Ev (fun k => hyphen_Set_pattern.f k w) r ∧ (match parse w with | none => r = none ∨ ∃ le lv, r = some (le, lv, 0) ∧ cnt le = 0 ∧ lv.length = 1 ∧ le.length ≤ 2 ∧ ∀ c ∈ le, c = 46 | some p => r = some ((sp p).1, p.f3, (p.f0.length : Int))) := by
  have hb1 := body1_eq w
  obtain ⟨hb2, hb3⟩ := body2_eq (body1 w)
  have ht : dot (tailB (body1 w)) = [] ∨ dot (tailB (body1 w)) = [46] := by unfold dot; split <;> simp
  have hstart : Ev (fun k => hyphen_Set_pattern.f k w) (match scan (body2 (body1 w)) [] [] 0 false with | none => none | some q => some (dot (headB w) ++ q.1 ++ dot (tailB (body1 w)), q.2, (q.1.length : Int))) := by
    have hf : ∀ k, hyphen_Set_pattern.f k w = hyphen_Set_pattern.l0 k w [] ([] ++ [0]) ((([] : List Int).length : Nat) : Int) false w (w.length : Int) ((0 : Nat) : Int) := by
      intro k
      unfold hyphen_Set_pattern.f
      rw [if_pos (by simp)]
      rfl
    refine Ev.congr hf ?_
    cases hh : headB w with
    | false =>
      rw [hh] at hb1
      have hb1' : w = body1 w := by simpa [dot] using hb1
      have := pscan w hw [] (dot (tailB (body1 w))) (by simp) ht (body2 (body1 w)) 0 [] [] 0 false (by rw [List.drop_zero, ← hb2]; exact hb1') (by rw [← hb2, Nat.zero_add, ← hb1']) hb3 (fun _ q => ?_) (by simp) rfl
      · simpa [dot] using this
      · rw [← hb1'] at q
        have hne : body2 w ≠ [] := fun e => by rw [e] at q; cases q
        obtain ⟨c, r, hcr⟩ := List.exists_cons_of_ne_nil hne
        rw [hcr] at q
        injection q with q
        rw [← hb1'] at hb2
        have : headB w = true := by
          rw [hb2, hcr, q]
          rfl
        rw [hh] at this
        cases this
    | true =>
      rw [hh] at hb1
      have hb1' : w = 46 :: body1 w := by
        have e : dot true ++ body1 w = 46 :: body1 w := rfl
        rw [e] at hb1
        exact hb1
      have hl := congrArg List.length hb1'
      rw [List.length_cons] at hl
      have hi : 0 < w.length := by omega
      have h0 : w[0] = 46 := by
        have : w.head? = some 46 := by rw [hb1']; rfl
        rw [List.head?_eq_getElem?, List.getElem?_eq_getElem hi] at this
        injection this
      have c1 : ((0 : Nat) : Int) < (w.length : Int) := by omega
      have q1 : 0 + 1 + (body2 (body1 w) ++ dot (tailB (body1 w))).length = w.length := by rw [← hb2]; omega
      have e1 : wrap64 (((0 : Nat) : Int) + 1) = ((0 + 1 : Nat) : Int) := by rw [w_in (by omega)]; omega
      have e : ∀ k, hyphen_Set_pattern.l0 (k + 1) w [] ([] ++ [0]) ((([] : List Int).length : Nat) : Int) false w (w.length : Int) ((0 : Nat) : Int) = hyphen_Set_pattern.j1 k w [] ([] ++ [0]) ((([] : List Int).length : Nat) : Int) false 46 w (w.length : Int) ((0 : Nat) : Int) true := by
        intro k
        rw [hyphen_Set_pattern.l0, if_pos c1, if_pos (Int.natCast_nonneg _), if_pos c1, rd_at hi, h0, if_pos rfl, if_pos (show ((0 : Nat) : Int) = 0 from rfl)]
      have e2 : ∀ k, hyphen_Set_pattern.j1 (k + 1) w [] ([] ++ [0]) ((([] : List Int).length : Nat) : Int) false 46 w (w.length : Int) ((0 : Nat) : Int) true = hyphen_Set_pattern.l0 k w ([46] ++ []) ([] ++ [0]) ((([] : List Int).length : Nat) : Int) false w (w.length : Int) ((0 + 1 : Nat) : Int) := by
        intro k
        rw [hyphen_Set_pattern.j1, if_pos rfl, if_pos (by simp), e1]
        rfl
      have h9 : w.drop (0 + 1) = body1 w := by
        have h8 : w.drop 1 = (46 :: body1 w).drop 1 := by rw [← hb1']
        exact h8
      have := pscan w hw [46] (dot (tailB (body1 w))) (by simp) ht (body2 (body1 w)) (0 + 1) [] [] 0 false (by rw [← hb2]; exact h9) q1 hb3 (fun q => absurd q (by omega)) (by simp) rfl
      exact Ev.succ e (Ev.succ e2 this)
  refine ⟨_, hstart, ?_⟩
  unfold parse
  cases hs : scan (body2 (body1 w)) [] [] 0 false with
  | none => exact .inl rfl
  | some q =>
    dsimp only
    by_cases h0 : q.1 = []
    · rw [if_pos h0]
      obtain ⟨_, a2, _, _⟩ := scan_good _ [] [] 0 false (by simp) rfl (by simp) (by simp) (Int.le_refl _) q.1 q.2 hs
      refine .inr ⟨_, _, by rw [h0]; rfl, ?_, by rw [a2, h0]; rfl, ?_, ?_⟩
      · cases headB w <;> cases tailB (body1 w) <;> rfl
      · cases headB w <;> cases tailB (body1 w) <;> simp [dot]
      · cases headB w <;> cases tailB (body1 w) <;> simp [dot]
    · rw [if_neg h0]
      rfl
theorem read_ev (w : List Int) (hw : w.length ≤ 60000) (hne : w ≠ []) : ∃ a h t b, Ev (fun k => colophonref21_read.f k w) (match parse w with | none => (a, h, t, b, false) | some p => (p.f0, p.f1, p.f2, p.f3, true)) := by
  have hb1 := body1_eq w
  have hl := List.length_pos_iff.2 hne
  have hl1 : (body1 w).length ≤ w.length := by
    have := congrArg List.length hb1
    rw [List.length_append] at this
    omega
  obtain ⟨hb2, hb3⟩ := body2_eq (body1 w)
  have hl2 : (body2 (body1 w)).length ≤ (body1 w).length := by
    have := congrArg List.length hb2
    rw [List.length_append] at this
    omega
  obtain ⟨a, b, hs⟩ := rscan (body2 (body1 w)) (by omega) (headB w) (tailB (body1 w)) (body2 (body1 w)).length 0 [] [] 0 false (by omega) (by simp) rfl
  rw [List.drop_zero] at hs
  have c0 : (w.length : Int) > 0 := by omega
  have hh : (rd w 0 == 46) = headB w := by
    cases w with
    | nil => exact absurd rfl hne
    | cons c r =>
      show (c == 46) = decide (c = 46)
      by_cases q : c = 46
      · rw [q]; rfl
      · rw [decide_eq_false q]
        exact beq_eq_false_iff_ne.2 q
  have e0 : ∀ k, colophonref21_read.f k w = colophonref21_read.j0 k w (headB w) false false := by
    intro k
    unfold colophonref21_read.f
    rw [if_pos c0, if_pos c0, hh]
  have e1 : ∀ k, colophonref21_read.j0 (k + 1) w (headB w) false false = colophonref21_read.j1 k (body1 w) (headB w) false := by
    intro k
    unfold body1
    cases headB w with
    | true => rw [colophonref21_read.j0, if_pos rfl, if_pos (by omega), if_pos rfl]
    | false => rw [colophonref21_read.j0, if_neg (by decide), if_neg (by decide)]
  have e2 : ∀ k, colophonref21_read.j1 (k + 1) (body1 w) (headB w) false = colophonref21_read.j2 k (body1 w) (tailB (body1 w)) (headB w) false := by
    intro k
    obtain ⟨r, hr⟩ : ∃ r, body1 w = r := ⟨_, rfl⟩
    rw [hr] at hl1 ⊢
    by_cases q : (r.length : Int) > 0
    · have hlt : r.length - 1 < r.length := by omega
      have c3 : (0 : Int) ≤ ((r.length - 1 : Nat) : Int) := Int.natCast_nonneg _
      have c4 : ((r.length - 1 : Nat) : Int) < (r.length : Int) := by omega
      have e : wrap64 ((r.length : Int) - 1) = ((r.length - 1 : Nat) : Int) := by rw [w_in (by omega)]; omega
      rw [colophonref21_read.j1, if_pos q, e, if_pos c3, if_pos c4, rd_at hlt]
      congr 1
      unfold tailB
      rw [List.getLast?_eq_getElem?, List.getElem?_eq_getElem hlt]
      by_cases z : r[r.length - 1] = 46
      · rw [z, decide_eq_true rfl]; rfl
      · rw [beq_eq_false_iff_ne.2 z, decide_eq_false (fun y => z (by injection y))]
    · have hr0 : r = [] := List.eq_nil_of_length_eq_zero (by omega)
      subst hr0
      rw [colophonref21_read.j1, if_neg q]
      rfl
  have e3 : ∀ k, colophonref21_read.j2 (k + 1) (body1 w) (tailB (body1 w)) (headB w) false = colophonref21_read.j3 k (body2 (body1 w)) (headB w) (tailB (body1 w)) := by
    intro k
    obtain ⟨r, hr⟩ : ∃ r, body1 w = r := ⟨_, rfl⟩
    rw [hr] at hl1 ⊢
    unfold body2
    cases ht : tailB r with
    | false => rw [colophonref21_read.j2, if_neg (by decide), if_neg (by decide)]
    | true =>
      have hne : r ≠ [] := fun q => by rw [q] at ht; cases ht
      have hp := List.length_pos_iff.2 hne
      have c3 : (0 : Int) ≤ ((r.length - 1 : Nat) : Int) := Int.natCast_nonneg _
      have c4 : ((r.length - 1 : Nat) : Int) ≤ (r.length : Int) := by omega
      have e : wrap64 ((r.length : Int) - 1) = ((r.length - 1 : Nat) : Int) := by rw [w_in (by omega)]; omega
      rw [colophonref21_read.j2, if_pos rfl, e, if_pos c3, if_pos c4, if_pos rfl, Int.toNat_natCast, List.dropLast_eq_take]
  have e4 : ∀ k, colophonref21_read.j3 (k + 1) (body2 (body1 w)) (headB w) (tailB (body1 w)) = colophonref21_read.l0 k (body2 (body1 w)) 0 false ((0 : Nat) : Int) [] (headB w) (tailB (body1 w)) [] := by
    intro k
    rw [colophonref21_read.j3]
    rfl
  have main := Ev.congr e0 (Ev.succ e1 (Ev.succ e2 (Ev.succ e3 (Ev.succ e4 hs))))
  unfold parse
  cases hsc : scan (body2 (body1 w)) [] [] 0 false with
  | none =>
    rw [hsc] at main
    exact ⟨_, _, _, _, main⟩
  | some q =>
    rw [hsc] at main
    dsimp only at main ⊢
    by_cases h0 : q.1 = []
    · rw [if_pos h0]
      rw [decide_eq_false (show ¬ 0 < q.1.length by rw [h0]; simp)] at main
      exact ⟨_, _, _, _, main⟩
    · rw [if_neg h0]
      rw [decide_eq_true (List.length_pos_iff.2 h0)] at main
      exact ⟨[], false, false, [], main⟩
end Go.Proofs.YtenhfmlkdcfbbaaDoor.Law21
