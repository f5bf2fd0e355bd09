/- The plain law of RectAll: the least rectangle that holds all of a list, for all lists. -/
import Derived.Test.YtohnllfbhlohfaaPRectAllx6
namespace Go.Proofs.Ytohnllfbhlohfaa.PureRectAll
open Go.RowKit Go.Proofs.Ytohnllfbhlohfaa.PRectAll Go.Proofs.YtohnllfbhlohfaaW.PrintWords Go.Proofs.YtohnllfbhlohfaaW.PrintLast Go.Proofs.YtohnllfbhlohfaaW.PrintMore
def inB (a : Int) : Bool := decide (-1099511627776 ≤ a) && decide (a ≤ 1099511627776)
def mayB (a b c d : Int) : Bool := inB a && (inB b && (inB c && (inB d && (decide (a ≤ c) && decide (b ≤ d)))))
def keptV (a b c d : Int) (ok : Bool) : Int × Int × Int × Int × Bool := if (ok && mayB a b c d) = true then (a, b, c, d, true) else (0, 0, 0, 0, false)
theorem in_f (a : Int) : fixed_In.f a = some (inB a) := by
  unfold fixed_In.f inB
  split <;> simp [*]
theorem may_f (a b c d : Int) : rect_May.f a b c d = some (mayB a b c d) := by
  unfold rect_May.f mayB
  simp only [in_f, Option.bind_some]
  cases inB a <;> cases inB b <;> cases inB c <;> cases inB d <;> simp
  split <;> simp [*]
theorem kept_f (a b c d : Int) (ok : Bool) : rect_kept.f a b c d ok = some (keptV a b c d ok) := by
  unfold rect_kept.f keptV
  simp only [may_f, Option.bind_some]
  cases ok <;> cases mayB a b c d <;> simp
theorem of_f (a b c d : Int) : rect_Of.f a b c d = some (keptV (mn a c) (mn b d) (mx a c) (mx b d) true) := by
  unfold rect_Of.f
  simp only [kept_f, Option.bind_some]
theorem wakes_f : colophonlaw03_wakes.f = some true := by
  unfold colophonlaw03_wakes.f
  simp only [of_f, Option.bind_some, may_f]
  decide

theorem rin_f (a : Int) : colophonref01_In.f a = some (inB a) := by
  unfold colophonref01_In.f inB
  by_cases h : a ≥ (-1099511627776)
  · have h' : -1099511627776 ≤ a := h
    simp [h']
  · have h' : ¬ (-1099511627776 ≤ a) := h
    simp [h']
theorem rmay_f (a b c d : Int) : colophonref03_May.f a b c d = some (mayB a b c d) := by
  unfold colophonref03_May.f mayB
  simp only [rin_f, Option.bind_some]
  cases inB a <;> cases inB b <;> cases inB c <;> cases inB d <;> simp
  split <;> simp [*]

theorem told_f (a b c d : Int) : colophonref03_told.f a b c d = some (keptV a b c d true) := by
  unfold colophonref03_told.f keptV
  simp only [rmay_f, Option.bind_some]
  cases mayB a b c d <;> simp

theorem mayB_iff {a b c d : Int} : mayB a b c d = true ↔ (-1099511627776 ≤ a ∧ a ≤ 1099511627776) ∧ (-1099511627776 ≤ b ∧ b ≤ 1099511627776) ∧ (-1099511627776 ≤ c ∧ c ≤ 1099511627776) ∧ (-1099511627776 ≤ d ∧ d ≤ 1099511627776) ∧ a ≤ c ∧ b ≤ d := by
  unfold mayB inB
  simp only [Bool.and_eq_true, decide_eq_true_eq]
theorem inB_iff {a : Int} : inB a = true ↔ -1099511627776 ≤ a ∧ a ≤ 1099511627776 := by
  unfold inB
  simp only [Bool.and_eq_true, decide_eq_true_eq]
theorem kept_yes {a b c d : Int} {ok : Bool} (h : ok = true) (hm : mayB a b c d = true) : keptV a b c d ok = (a, b, c, d, true) := by
  unfold keptV
  rw [h, hm]
  rfl
theorem kept_no {a b c d : Int} {ok : Bool} (h : ¬ (ok = true ∧ mayB a b c d = true)) : keptV a b c d ok = (0, 0, 0, 0, false) := by
  unfold keptV
  rw [if_neg]
  simpa using h
theorem eq4 {a b c d e f g h : Int} (h1 : a = e) (h2 : b = f) (h3 : c = g) (h4 : d = h) : (a == e && (b == f && (c == g && (d == h)))) = true := by
  subst h1 h2 h3 h4
  simp

theorem join_f (a b c d e f g h : Int) : rect_Join.f a b c d e f g h = some (keptV (mn a e) (mn b f) (mx c g) (mx d h) (mayB a b c d && mayB e f g h)) := by
  unfold rect_Join.f
  simp only [kept_f, may_f, Option.bind_some]
  cases mayB a b c d <;> simp
def holdsB (a b c d e f g h : Int) : Bool := mayB a b c d && (mayB e f g h && (decide (a ≤ e) && (decide (b ≤ f) && (decide (g ≤ c) && decide (h ≤ d)))))
theorem holds_f (a b c d e f g h : Int) : rect_Holds.f a b c d e f g h = some (holdsB a b c d e f g h) := by
  unfold rect_Holds.f holdsB
  simp only [may_f, Option.bind_some]
  cases mayB a b c d <;> cases mayB e f g h <;> simp
  by_cases h1 : a ≤ e <;> by_cases h2 : b ≤ f <;> by_cases h3 : g ≤ c <;> simp [h1, h2, h3]
theorem rjoin_f (a b c d e f g h : Int) : colophonref03_Join.f a b c d e f g h = some (keptV (mn a e) (mn b f) (mx c g) (mx d h) (mayB a b c d && mayB e f g h)) := by
  unfold colophonref03_Join.f
  simp only [told_f, rmay_f, Option.bind_some]
  cases mayB a b c d <;> cases mayB e f g h <;> simp [keptV]

theorem w_in {e : Int} (h : -9223372036854775808 ≤ e ∧ e ≤ 9223372036854775807) : wrap64 e = e := by unfold wrap64; omega
theorem mn_le (a b : Int) : mn a b ≤ a ∧ mn a b ≤ b ∧ (mn a b = a ∨ mn a b = b) := by unfold mn; split <;> omega
theorem mx_ge (a b : Int) : a ≤ mx a b ∧ b ≤ mx a b ∧ (mx a b = a ∨ mx a b = b) := by unfold mx; split <;> omega
theorem holdsB_iff {a b c d e f g h : Int} : holdsB a b c d e f g h = true ↔ mayB a b c d = true ∧ mayB e f g h = true ∧ a ≤ e ∧ b ≤ f ∧ g ≤ c ∧ h ≤ d := by
  unfold holdsB
  simp only [Bool.and_eq_true, decide_eq_true_eq]
theorem may_join {a b c d e f g h : Int} (h1 : mayB a b c d = true) (h2 : mayB e f g h = true) : mayB (mn a e) (mn b f) (mx c g) (mx d h) = true := by
  rw [mayB_iff] at h1 h2 ⊢
  have := mn_le a e
  have := mn_le b f
  have := mx_ge c g
  have := mx_ge d h
  omega
abbrev at4 (l : List S24) (j : Int) : S24 := rd_T24 l j
abbrev hold (v : Int × Int × Int × Int × Bool) (s : S24) : Prop := holdsB v.1 v.2.1 v.2.2.1 v.2.2.2.1 s.f0 s.f1 s.f2 s.f3 = true
theorem all_l0 (l : List S24) (hl : l.length ≤ 200) : ∀ (d k i : Nat) (v : Int × Int × Int × Int × Bool), i + d = l.length → 1 ≤ i → (v.2.2.2.2 = true → ∀ j : Nat, j < i → hold v (at4 l j)) → d + 1 ≤ k →
    ∃ r, rect_All.l0 k l v.2.2.2.2 (i : Int) v.1 v.2.1 v.2.2.1 v.2.2.2.1 = some r ∧ colophonref03_All.l0 k l v.2.2.2.2 (i : Int) v.1 v.2.1 v.2.2.1 v.2.2.2.1 = some r ∧ (r.2.2.2.2 = true → ∀ j : Nat, j < l.length → hold r (at4 l j)) := by
  intro d
  induction d with
  | zero =>
    intro k i v hd hi hv hk
    obtain ⟨k, rfl⟩ : ∃ m, k = m + 1 := ⟨k - 1, by omega⟩
    refine ⟨v, ?_, ?_, fun h j hj => hv h j (by omega)⟩
    · rw [rect_All.l0, if_neg (by omega)]
    · rw [colophonref03_All.l0, if_neg (by omega)]
  | succ d ih =>
    intro k i v hd hi hv hk
    obtain ⟨k, rfl⟩ : ∃ m, k = m + 1 := ⟨k - 1, by omega⟩
    obtain ⟨a, b, c, e, ok⟩ := v
    have hi1 : wrap64 ((i : Int) + 1) = ((i + 1 : Nat) : Int) := by rw [w_in (by omega)]; omega
    cases ok with
    | false =>
      refine ⟨(a, b, c, e, false), ?_, ?_, fun h => by cases h⟩
      · show rect_All.l0 (k + 1) l false (i : Int) a b c e = _
        rw [rect_All.l0, if_pos (by omega), if_neg (by decide)]
      · show colophonref03_All.l0 (k + 1) l false (i : Int) a b c e = _
        rw [colophonref03_All.l0, if_pos (by omega), if_neg (by decide)]
    | true =>
      have hv' : ∀ j : Nat, j < i → holdsB a b c e (at4 l j).f0 (at4 l j).f1 (at4 l j).f2 (at4 l j).f3 = true := fun j hj => hv rfl j hj
      have hma : mayB a b c e = true := (holdsB_iff.1 (hv' 0 (by omega))).1
      have hu : rect_All.l0 (k + 1) l true (i : Int) a b c e = rect_All.l0 k l (keptV (mn a (at4 l i).f0) (mn b (at4 l i).f1) (mx c (at4 l i).f2) (mx e (at4 l i).f3) (mayB a b c e && mayB (at4 l i).f0 (at4 l i).f1 (at4 l i).f2 (at4 l i).f3)).2.2.2.2 ((i + 1 : Nat) : Int) (keptV (mn a (at4 l i).f0) (mn b (at4 l i).f1) (mx c (at4 l i).f2) (mx e (at4 l i).f3) (mayB a b c e && mayB (at4 l i).f0 (at4 l i).f1 (at4 l i).f2 (at4 l i).f3)).1 (keptV (mn a (at4 l i).f0) (mn b (at4 l i).f1) (mx c (at4 l i).f2) (mx e (at4 l i).f3) (mayB a b c e && mayB (at4 l i).f0 (at4 l i).f1 (at4 l i).f2 (at4 l i).f3)).2.1 (keptV (mn a (at4 l i).f0) (mn b (at4 l i).f1) (mx c (at4 l i).f2) (mx e (at4 l i).f3) (mayB a b c e && mayB (at4 l i).f0 (at4 l i).f1 (at4 l i).f2 (at4 l i).f3)).2.2.1 (keptV (mn a (at4 l i).f0) (mn b (at4 l i).f1) (mx c (at4 l i).f2) (mx e (at4 l i).f3) (mayB a b c e && mayB (at4 l i).f0 (at4 l i).f1 (at4 l i).f2 (at4 l i).f3)).2.2.2.1 := by
        rw [rect_All.l0, if_pos (by omega), if_pos rfl, if_pos (by omega), join_f, Option.bind_some, hi1]
      have hr : colophonref03_All.l0 (k + 1) l true (i : Int) a b c e = colophonref03_All.l0 k l (keptV (mn a (at4 l i).f0) (mn b (at4 l i).f1) (mx c (at4 l i).f2) (mx e (at4 l i).f3) (mayB a b c e && mayB (at4 l i).f0 (at4 l i).f1 (at4 l i).f2 (at4 l i).f3)).2.2.2.2 ((i + 1 : Nat) : Int) (keptV (mn a (at4 l i).f0) (mn b (at4 l i).f1) (mx c (at4 l i).f2) (mx e (at4 l i).f3) (mayB a b c e && mayB (at4 l i).f0 (at4 l i).f1 (at4 l i).f2 (at4 l i).f3)).1 (keptV (mn a (at4 l i).f0) (mn b (at4 l i).f1) (mx c (at4 l i).f2) (mx e (at4 l i).f3) (mayB a b c e && mayB (at4 l i).f0 (at4 l i).f1 (at4 l i).f2 (at4 l i).f3)).2.1 (keptV (mn a (at4 l i).f0) (mn b (at4 l i).f1) (mx c (at4 l i).f2) (mx e (at4 l i).f3) (mayB a b c e && mayB (at4 l i).f0 (at4 l i).f1 (at4 l i).f2 (at4 l i).f3)).2.2.1 (keptV (mn a (at4 l i).f0) (mn b (at4 l i).f1) (mx c (at4 l i).f2) (mx e (at4 l i).f3) (mayB a b c e && mayB (at4 l i).f0 (at4 l i).f1 (at4 l i).f2 (at4 l i).f3)).2.2.2.1 := by
        rw [colophonref03_All.l0, if_pos (by omega), if_pos rfl, if_pos (by omega), rjoin_f, Option.bind_some, hi1]
      show ∃ r, rect_All.l0 (k + 1) l true (i : Int) a b c e = some r ∧ colophonref03_All.l0 (k + 1) l true (i : Int) a b c e = some r ∧ (r.2.2.2.2 = true → ∀ j : Nat, j < l.length → hold r (at4 l j))
      rw [hu, hr]
      refine ih k (i + 1) _ (by omega) (by omega) (fun hok j hj => ?_) (by omega)
      by_cases hms : mayB (at4 l i).f0 (at4 l i).f1 (at4 l i).f2 (at4 l i).f3 = true
      · have hmj := may_join hma hms
        rw [kept_yes (by rw [hma, hms]; rfl) hmj]
        have l1 := mn_le a (at4 l i).f0
        have l2 := mn_le b (at4 l i).f1
        have l3 := mx_ge c (at4 l i).f2
        have l4 := mx_ge e (at4 l i).f3
        show holdsB _ _ _ _ _ _ _ _ = true
        rw [holdsB_iff]
        by_cases ej : j = i
        · subst ej
          exact ⟨hmj, hms, l1.2.1, l2.2.1, l3.2.1, l4.2.1⟩
        · obtain ⟨_, q2, q3, q4, q5, q6⟩ := holdsB_iff.1 (hv' j (by omega))
          exact ⟨hmj, q2, Int.le_trans l1.1 q3, Int.le_trans l2.1 q4, Int.le_trans q5 l3.1, Int.le_trans q6 l4.1⟩
      · rw [kept_no (by rintro ⟨h1, _⟩; rw [Bool.and_eq_true] at h1; exact hms h1.2)] at hok
        cases hok
theorem mn_self (a : Int) : mn a a = a := by unfold mn; split <;> rfl
theorem mx_self (a : Int) : mx a a = a := by unfold mx; split <;> rfl
theorem all_f (K : Nat) (hK : 1000 ≤ K) (l : List S24) (hl : l.length ≤ 200) : ∃ r, rect_All.f K l = some r ∧ colophonref03_All.f K l = some r ∧ (r.2.2.2.2 = true → ∀ j : Nat, j < l.length → hold r (at4 l j)) := by
  obtain ⟨K, rfl⟩ : ∃ m, K = m + 2 := ⟨K - 2, by omega⟩
  unfold rect_All.f colophonref03_All.f
  by_cases z : (l.length : Int) = 0
  · rw [if_pos z, if_pos z]
    exact ⟨_, rfl, rfl, fun h => by cases h⟩
  · have zp : 0 < (l.length : Int) := by omega
    rw [if_neg z, if_neg z, if_pos zp, if_pos zp, told_f, Option.bind_some]
    have hjoin : keptV (mn (at4 l 0).f0 (at4 l 0).f0) (mn (at4 l 0).f1 (at4 l 0).f1) (mx (at4 l 0).f2 (at4 l 0).f2) (mx (at4 l 0).f3 (at4 l 0).f3) (mayB (at4 l 0).f0 (at4 l 0).f1 (at4 l 0).f2 (at4 l 0).f3 && mayB (at4 l 0).f0 (at4 l 0).f1 (at4 l 0).f2 (at4 l 0).f3) = keptV (at4 l 0).f0 (at4 l 0).f1 (at4 l 0).f2 (at4 l 0).f3 true := by
      rw [mn_self, mn_self, mx_self, mx_self, Bool.and_self]
      unfold keptV
      rw [Bool.and_self, Bool.true_and]
    have h01 : wrap64 (0 + 1) = ((1 : Nat) : Int) := w_in (by omega)
    have hu : rect_All.l0 (K + 2) l true 0 (at4 l 0).f0 (at4 l 0).f1 (at4 l 0).f2 (at4 l 0).f3 = rect_All.l0 (K + 1) l (keptV (at4 l 0).f0 (at4 l 0).f1 (at4 l 0).f2 (at4 l 0).f3 true).2.2.2.2 ((1 : Nat) : Int) (keptV (at4 l 0).f0 (at4 l 0).f1 (at4 l 0).f2 (at4 l 0).f3 true).1 (keptV (at4 l 0).f0 (at4 l 0).f1 (at4 l 0).f2 (at4 l 0).f3 true).2.1 (keptV (at4 l 0).f0 (at4 l 0).f1 (at4 l 0).f2 (at4 l 0).f3 true).2.2.1 (keptV (at4 l 0).f0 (at4 l 0).f1 (at4 l 0).f2 (at4 l 0).f3 true).2.2.2.1 := by
      rw [rect_All.l0, if_pos zp, if_pos rfl, if_pos (Int.le_refl _), join_f, Option.bind_some, h01, hjoin]
    have hv : (keptV (at4 l 0).f0 (at4 l 0).f1 (at4 l 0).f2 (at4 l 0).f3 true).2.2.2.2 = true → ∀ j : Nat, j < 1 → hold (keptV (at4 l 0).f0 (at4 l 0).f1 (at4 l 0).f2 (at4 l 0).f3 true) (at4 l j) := by
      intro hok j hj
      obtain rfl : j = 0 := by omega
      by_cases hm : mayB (at4 l 0).f0 (at4 l 0).f1 (at4 l 0).f2 (at4 l 0).f3 = true
      · rw [kept_yes rfl hm]
        show holdsB _ _ _ _ _ _ _ _ = true
        rw [holdsB_iff]
        exact ⟨hm, hm, Int.le_refl _, Int.le_refl _, Int.le_refl _, Int.le_refl _⟩
      · rw [kept_no (fun h => hm h.2)] at hok
        cases hok
    obtain ⟨r, r1, r2, r3⟩ := all_l0 l hl (l.length - 1) (K + 1) 1 (keptV (at4 l 0).f0 (at4 l 0).f1 (at4 l 0).f2 (at4 l 0).f3 true) (by omega) (Nat.le_refl _) hv (by omega)
    refine ⟨r, hu.trans r1, ?_, r3⟩
    have := at_rounds (g := fun k => colophonref03_All.l0 k l (keptV (at4 l 0).f0 (at4 l 0).f1 (at4 l 0).f2 (at4 l 0).f3 true).2.2.2.2 ((1 : Nat) : Int) (keptV (at4 l 0).f0 (at4 l 0).f1 (at4 l 0).f2 (at4 l 0).f3 true).1 (keptV (at4 l 0).f0 (at4 l 0).f1 (at4 l 0).f2 (at4 l 0).f3 true).2.1 (keptV (at4 l 0).f0 (at4 l 0).f1 (at4 l 0).f2 (at4 l 0).f3 true).2.2.1 (keptV (at4 l 0).f0 (at4 l 0).f1 (at4 l 0).f2 (at4 l 0).f3 true).2.2.2.1) (fun k => colophonref03_All.mono_l k l _ _ _ _ _ _) (Nat.le_succ (K + 1)) r2
    exact this
theorem law_l0 (l : List S24) (hl : l.length ≤ 200) (r : Int × Int × Int × Int × Bool) (hr : r.2.2.2.2 = true → ∀ j : Nat, j < l.length → hold r (at4 l j)) : ∀ (d k i : Nat), i + d = l.length → d + 1 ≤ k →
    colophonlaw03_RectAll.l0 k l l r.2.2.2.2 r.2.2.2.2 (i : Int) r.1 r.2.1 r.2.2.1 r.2.2.2.1 r.1 r.2.1 r.2.2.1 r.2.2.2.1 = some true ∧ colophonlaw03_RectAll.l50 k l l r.2.2.2.2 r.2.2.2.2 (i : Int) r.1 r.2.1 r.2.2.1 r.2.2.2.1 r.1 r.2.1 r.2.2.1 r.2.2.2.1 = some true := by
  intro d
  induction d with
  | zero =>
    intro k i hd hk
    obtain ⟨k, rfl⟩ : ∃ m, k = m + 1 := ⟨k - 1, by omega⟩
    have hni : ¬ (i : Int) < (l.length : Int) := by omega
    constructor
    · rw [colophonlaw03_RectAll.l0, if_neg hni]
      simp only [BEq.rfl, Bool.and_self, if_true, wakes_f, Option.bind_some]
    · rw [colophonlaw03_RectAll.l50, if_neg hni]
      simp only [BEq.rfl, Bool.and_self, if_true, wakes_f, Option.bind_some]
  | succ d ih =>
    intro k i hd hk
    obtain ⟨k, rfl⟩ : ∃ m, k = m + 1 := ⟨k - 1, by omega⟩
    have hi1 : wrap64 ((i : Int) + 1) = ((i + 1 : Nat) : Int) := by rw [w_in (by omega)]; omega
    have hlt : (i : Int) < (l.length : Int) := by omega
    have h0 : (0 : Int) ≤ (i : Int) := by omega
    obtain ⟨q1, q2⟩ := ih k (i + 1) (by omega) (by omega)
    constructor
    · rw [colophonlaw03_RectAll.l0, if_pos hlt, if_pos h0, if_pos hlt, hi1]
      simp only [BEq.rfl, Bool.not_true, Bool.or_self, Bool.false_eq_true, if_false]
      by_cases hp : r.2.2.2.2 = true
      · rw [if_pos hp, holds_f, hr hp i (by omega), Option.bind_some, if_pos rfl, q1]
      · rw [if_neg hp, q1]
    · rw [colophonlaw03_RectAll.l50, if_pos hlt, if_pos h0, if_pos hlt, hi1]
      simp only [BEq.rfl, Bool.not_true, Bool.or_self, Bool.false_eq_true, if_false]
      by_cases hp : r.2.2.2.2 = true
      · rw [if_pos hp, holds_f, hr hp i (by omega), Option.bind_some, if_pos rfl, q2]
      · rw [if_neg hp, q2]
theorem pureK (K : Nat) (hK : 1000 ≤ K) (l : List S24) : colophonlaw03_RectAll.f K l = some true := by
  unfold colophonlaw03_RectAll.f
  have e : ((200 : Int)).toNat = 200 := rfl
  by_cases h : (l.length : Int) > 200
  · have ht : (l.take 200).length = 200 := by rw [List.length_take]; omega
    rw [if_pos h, if_pos (by omega), Option.bind_some, Option.bind_some, List.nil_append]
    rw [if_pos (by rw [ht, List.length_nil]; omega), Option.bind_some]
    generalize l.take 200 = m at ht
    obtain ⟨r, r1, r2, r3⟩ := all_f K hK m (by omega)
    rw [r1, r2, Option.bind_some, Option.bind_some]
    exact (law_l0 m (by omega) r r3 m.length K 0 (by omega) (by omega)).1
  · rw [if_neg h, Option.bind_some, List.nil_append, if_pos (by rw [List.length_nil]; omega), Option.bind_some]
    obtain ⟨r, r1, r2, r3⟩ := all_f K hK l (by omega)
    rw [r1, r2, Option.bind_some, Option.bind_some]
    exact (law_l0 l (by omega) r r3 l.length K 0 (by omega) (by omega)).2
theorem pure (l : List S24) : ∃ k, colophonlaw03_RectAll.f k l = some true := ⟨1000, pureK 1000 (Nat.le_refl _) l⟩

end Go.Proofs.Ytohnllfbhlohfaa.PureRectAll
