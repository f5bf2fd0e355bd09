/- law21, the plain law: exceptions, and how a set is made. -/
import Derived.Test.YtenhfmlkdcfbbaaDoorLi
import Derived.Test.YtenhfmlkdcfbbaaDoorComp
import Derived.Test.YtenhfmlkdcfbbaaDoorRcm
namespace Go.Proofs.YtenhfmlkdcfbbaaDoor.Law21
open Go.RowKit Go.Proofs.YtenhfmlkdcfbbaaDoorW.PrintWords Go.Proofs.YtenhfmlkdcfbbaaDoorW.PrintLast Go.Proofs.YtenhfmlkdcfbbaaDoorW.PrintMore Go.Proofs.YtenhfmlkdcfbbaaDoor.PHyphenPoints Go.Proofs.YtenhfmlkdcfbbaaDoor.LawW
set_option linter.unusedVariables false
open LawE (valid enc enc_cons)
theorem exc_over (w : List Int) (hw : w.length ≤ 60000) : ∀ (d i : Nat) (L P : List Int), i + d = w.length → 65 ≤ L.length → L.length ≤ i + 64 → P.length ≤ i → Ev (fun k => hyphen_Set_exception.l0 k w L P w (w.length : Int) (i : Int)) none
  | 0, i, L, P, hd, h1, h2, h3 => by
    refine Ev.one (fun k => ?_)
    rw [hyphen_Set_exception.l0, if_neg (by omega), if_pos (by omega)]
  | d + 1, i, L, P, hd, h1, h2, h3 => by
    have hi : i < w.length := by omega
    have c1 : (i : Int) < (w.length : Int) := by omega
    have c2 : P.length < 17592186044416 := by omega
    have c3 : L.length < 17592186044416 := by omega
    have q1 : i + 1 + d = w.length := by omega
    have ih1 := exc_over w hw d (i + 1) L (P ++ [(L.length : Int)]) q1 h1 (by omega) (by simp; omega)
    have ih2 := fun c => exc_over w hw d (i + 1) (L ++ [c]) P q1 (by simp; omega) (by simp; omega) (by omega)
    have e1 : wrap64 ((i : Int) + 1) = ((i + 1 : Nat) : Int) := by rw [w_in (by omega)]; omega
    have hj : ∀ c b, Ev (fun k => hyphen_Set_exception.j1 k w L P c w (w.length : Int) (i : Int) b) none := by
      intro c b
      cases b with
      | true =>
        refine Ev.succ (fun k => ?_) ih1
        rw [hyphen_Set_exception.j1, if_pos rfl, if_pos c2, e1]
      | false =>
        have e : ∀ k, hyphen_Set_exception.j1 (k + 1) w L P c w (w.length : Int) (i : Int) false = (hyphen_letter.f k c).bind fun t => if t = true then hyphen_Set_exception.l0 k w (L ++ [c]) P w (w.length : Int) ((i + 1 : Nat) : Int) else some none := by
          intro k
          rw [hyphen_Set_exception.j1, if_neg (by decide), if_pos c3, e1]
        refine Ev.succ e (Ev.bind (letter_ev c) ?_)
        cases letB c with
        | true => exact Ev.congr (fun k => if_pos rfl) (ih2 c)
        | false => exact Ev.all (fun k => if_neg (by decide))
    obtain ⟨c, hc⟩ : ∃ c, w[i] = c := ⟨_, rfl⟩
    have e : ∃ b, ∀ k, hyphen_Set_exception.l0 (k + 1) w L P w (w.length : Int) (i : Int) = hyphen_Set_exception.j1 k w L P c w (w.length : Int) (i : Int) b := by
      by_cases a1 : c = 45
      · by_cases a2 : 0 < i
        · have z2 : (i : Int) > 0 := by omega
          have zp : i - 1 < w.length := by omega
          have z3 : (0 : Int) ≤ ((i - 1 : Nat) : Int) := Int.natCast_nonneg _
          have z4 : ((i - 1 : Nat) : Int) < (w.length : Int) := by omega
          have e2 : wrap64 ((w.length : Int) - 1) = (w.length : Int) - 1 := w_in (by omega)
          have e3 : wrap64 ((i : Int) - 1) = ((i - 1 : Nat) : Int) := by rw [w_in (by omega)]; omega
          by_cases a3 : (i : Int) < (w.length : Int) - 1
          · exact ⟨rd w ((i - 1 : Nat) : Int) != 45, fun k => by rw [hyphen_Set_exception.l0, if_pos c1, if_pos (Int.natCast_nonneg _), if_pos c1, rd_at hi, hc, if_pos a1, if_pos z2, e2, if_pos a3, e3, if_pos z3, if_pos z4]⟩
          · exact ⟨false, fun k => by rw [hyphen_Set_exception.l0, if_pos c1, if_pos (Int.natCast_nonneg _), if_pos c1, rd_at hi, hc, if_pos a1, if_pos z2, e2, if_neg a3]⟩
        · have z2 : ¬ (i : Int) > 0 := by omega
          exact ⟨false, fun k => by rw [hyphen_Set_exception.l0, if_pos c1, if_pos (Int.natCast_nonneg _), if_pos c1, rd_at hi, hc, if_pos a1, if_neg z2]⟩
      · exact ⟨false, fun k => by rw [hyphen_Set_exception.l0, if_pos c1, if_pos (Int.natCast_nonneg _), if_pos c1, rd_at hi, hc, if_neg a1]⟩
    obtain ⟨b, e⟩ := e
    exact Ev.succ e (hj c b)
def keyOf (L : List Int) : ByteArray := ⟨(enc L).toArray⟩
theorem let_valid {L : List Int} (h : ∀ c ∈ L, cls c = 2) : ∀ c ∈ L, valid c := fun c hc => by
  have := h c hc
  rw [cls_two] at this
  unfold valid
  omega
theorem exc_l0 (w : List Int) (hw : w.length ≤ 60000) (hne : w ≠ []) : ∀ (d i : Nat) (L P : List Int), i + d = w.length → L.length ≤ 64 → P.length ≤ i → (0 < i → L ≠ []) → (∀ c ∈ L, cls c = 2) →
    ∃ res : Option S72, (∀ e, res = some e → GE e) ∧ Ev (fun k => hyphen_Set_exception.l0 k w L P w (w.length : Int) (i : Int)) (res.map fun e => (keyOf e.f0, e.f1)) ∧
      ∃ a b, Ev (fun k => colophonref21_except.l0 k w (i : Int) L P) (match res with | none => (a, b, false) | some e => (e.f0, e.f1, true))
  | 0, i, L, P, hd, hL, hP, hn, hl => by
    have hp := List.length_pos_iff.2 hne
    have hL0 := hn (by omega)
    have hLp := List.length_pos_iff.2 hL0
    refine ⟨some ⟨L, P⟩, fun e he => by injection he with he; subst he; exact ⟨hL, by show P.length ≤ _; omega, hL0, hl⟩, ?_, [], [], Ev.one (fun k => ?_)⟩
    · have henc : Ev (fun k => utf_Encode.f k L) (keyOf L, 0) := ⟨100000, fun k hk => by show utf_Encode.f k L = _; rw [LawE.encode_f _ (by omega) k hk, if_pos (let_valid hl)]; rfl⟩
      have e : ∀ k, hyphen_Set_exception.l0 (k + 1) w L P w (w.length : Int) (i : Int) = (utf_Encode.f k L).bind fun t => some (some (t.1, P)) := by
        intro k
        rw [hyphen_Set_exception.l0, if_neg (by omega), if_neg (by omega)]
      exact Ev.succ e (Ev.bind henc (Ev.all fun k => rfl))
    · rw [colophonref21_except.l0, if_neg (by omega), decide_eq_true (by omega)]
  | d + 1, i, L, P, hd, hL, hP, hn, hl => by
    have hi : i < w.length := by omega
    have c1 : (i : Int) < (w.length : Int) := by omega
    have c2 : P.length < 17592186044416 := by omega
    have c3 : L.length < 17592186044416 := by omega
    have q1 : i + 1 + d = w.length := by omega
    obtain ⟨c, hc⟩ : ∃ c, w[i] = c := ⟨_, rfl⟩
    have e1 : wrap64 ((i : Int) + 1) = ((i + 1 : Nat) : Int) := by rw [w_in (by omega)]; omega
    have ej : ∀ k, hyphen_Set_exception.j1 (k + 1) w L P c w (w.length : Int) (i : Int) false = (hyphen_letter.f k c).bind fun t => if t = true then hyphen_Set_exception.l0 k w (L ++ [c]) P w (w.length : Int) ((i + 1 : Nat) : Int) else some none := by
      intro k
      rw [hyphen_Set_exception.j1, if_neg (by decide), if_pos c3, e1]
    by_cases a1 : c = 45
    · 
      have hbad : (∀ k, hyphen_Set_exception.l0 (k + 1) w L P w (w.length : Int) (i : Int) = hyphen_Set_exception.j1 k w L P c w (w.length : Int) (i : Int) false) → (∀ k, colophonref21_except.l0 (k + 1) w (i : Int) L P = colophonref21_except.j1 k w (i : Int) true L P) →
          ∃ res : Option S72, (∀ e, res = some e → GE e) ∧ Ev (fun k => hyphen_Set_exception.l0 k w L P w (w.length : Int) (i : Int)) (res.map fun e => (keyOf e.f0, e.f1)) ∧ ∃ a b, Ev (fun k => colophonref21_except.l0 k w (i : Int) L P) (match res with | none => (a, b, false) | some e => (e.f0, e.f1, true)) := by
        intro h1 h2
        have hlt := letter_ev c
        rw [a1, letB_dash, ← a1] at hlt
        refine ⟨none, fun e he => (by cases he), Ev.succ h1 (Ev.succ ej (Ev.bind hlt (Ev.all fun k => if_neg (by decide)))), L, P, Ev.succ h2 (Ev.one (fun k => ?_))⟩
        rw [colophonref21_except.j1, if_pos rfl]
      by_cases a2 : 0 < i
      · have z2 : (i : Int) > 0 := by omega
        have z20 : ¬ (i : Int) = 0 := by omega
        have zp : i - 1 < w.length := by omega
        have z3 : (0 : Int) ≤ ((i - 1 : Nat) : Int) := Int.natCast_nonneg _
        have z4 : ((i - 1 : Nat) : Int) < (w.length : Int) := by omega
        have e2 : wrap64 ((w.length : Int) - 1) = (w.length : Int) - 1 := w_in (by omega)
        have e3 : wrap64 ((i : Int) - 1) = ((i - 1 : Nat) : Int) := by rw [w_in (by omega)]; omega
        by_cases a3 : (i : Int) < (w.length : Int) - 1
        · have z5 : ¬ (i : Int) = (w.length : Int) - 1 := by omega
          have h1 : ∀ k, hyphen_Set_exception.l0 (k + 1) w L P w (w.length : Int) (i : Int) = hyphen_Set_exception.j1 k w L P c w (w.length : Int) (i : Int) (rd w ((i - 1 : Nat) : Int) != 45) := fun k => by rw [hyphen_Set_exception.l0, if_pos c1, if_pos (Int.natCast_nonneg _), if_pos c1, rd_at hi, hc, if_pos a1, if_pos z2, e2, if_pos a3, e3, if_pos z3, if_pos z4]
          have h2 : ∀ k, colophonref21_except.l0 (k + 1) w (i : Int) L P = colophonref21_except.j1 k w (i : Int) (rd w ((i - 1 : Nat) : Int) == 45) L P := fun k => by rw [colophonref21_except.l0, if_pos c1, if_pos (Int.natCast_nonneg _), rd_at hi, hc, if_pos a1, if_neg z20, e2, if_neg z5, e3, if_pos z3, if_pos z4]
          by_cases a4 : rd w ((i - 1 : Nat) : Int) = 45
          · have b1 : (rd w ((i - 1 : Nat) : Int) != 45) = false := by rw [a4]; rfl
            have b2 : (rd w ((i - 1 : Nat) : Int) == 45) = true := beq_iff_eq.2 a4
            rw [b1] at h1
            rw [b2] at h2
            exact hbad h1 h2
          · have b1 : (rd w ((i - 1 : Nat) : Int) != 45) = true := bne_iff_ne.2 a4
            have b2 : (rd w ((i - 1 : Nat) : Int) == 45) = false := beq_eq_false_iff_ne.2 a4
            rw [b1] at h1
            rw [b2] at h2
            obtain ⟨res, r1, r2, a, b, r3⟩ := exc_l0 w hw hne d (i + 1) L (P ++ [(L.length : Int)]) q1 hL (by simp; omega) (fun _ => hn a2) hl
            refine ⟨res, r1, Ev.succ h1 (Ev.succ (fun k => ?_) r2), a, b, Ev.succ h2 (Ev.succ (fun k => ?_) r3)⟩
            · rw [hyphen_Set_exception.j1, if_pos rfl, if_pos c2, e1]
            · rw [colophonref21_except.j1, if_neg (by decide), if_pos c2, e1]
        · have z5 : (i : Int) = (w.length : Int) - 1 := by omega
          exact hbad (fun k => by rw [hyphen_Set_exception.l0, if_pos c1, if_pos (Int.natCast_nonneg _), if_pos c1, rd_at hi, hc, if_pos a1, if_pos z2, e2, if_neg a3]) (fun k => by rw [colophonref21_except.l0, if_pos c1, if_pos (Int.natCast_nonneg _), rd_at hi, hc, if_pos a1, if_neg z20, e2, if_pos z5])
      · have z2 : ¬ (i : Int) > 0 := by omega
        have z20 : (i : Int) = 0 := by omega
        exact hbad (fun k => by rw [hyphen_Set_exception.l0, if_pos c1, if_pos (Int.natCast_nonneg _), if_pos c1, rd_at hi, hc, if_pos a1, if_neg z2]) (fun k => by rw [colophonref21_except.l0, if_pos c1, if_pos (Int.natCast_nonneg _), rd_at hi, hc, if_pos a1, if_pos z20])
    · have h1 : ∀ k, hyphen_Set_exception.l0 (k + 1) w L P w (w.length : Int) (i : Int) = hyphen_Set_exception.j1 k w L P c w (w.length : Int) (i : Int) false := fun k => by rw [hyphen_Set_exception.l0, if_pos c1, if_pos (Int.natCast_nonneg _), if_pos c1, rd_at hi, hc, if_neg a1]
      have h2 : ∀ k, colophonref21_except.l0 (k + 1) w (i : Int) L P = (colophonref21_Letter.f k c).bind fun t => if t = true then (if (L.length : Int) = 64 then some (L, P, false) else colophonref21_except.l0 k w ((i + 1 : Nat) : Int) (L ++ [c]) P) else some (L, P, false) := fun k => by rw [colophonref21_except.l0, if_pos c1, if_pos (Int.natCast_nonneg _), rd_at hi, hc, if_neg a1, if_pos c3, e1]
      have hlt := letter_ev c
      have hrt := rletter_ev c
      cases hb : letB c with
      | false =>
        rw [hb] at hlt hrt
        exact ⟨none, fun e he => (by cases he), Ev.succ h1 (Ev.succ ej (Ev.bind hlt (Ev.all fun k => if_neg (by decide)))), L, P, Ev.succ h2 (Ev.bind hrt (Ev.all fun k => if_neg (by decide)))⟩
      | true =>
        rw [hb] at hlt hrt
        by_cases h64 : L.length = 64
        · exact ⟨none, fun e he => (by cases he), Ev.succ h1 (Ev.succ ej (Ev.bind hlt (Ev.congr (fun k => if_pos rfl) (exc_over w hw d (i + 1) (L ++ [c]) P q1 (by simp; omega) (by simp; omega) (by omega))))), L, P, Ev.succ h2 (Ev.bind hrt (Ev.all fun k => by rw [if_pos rfl, if_pos (by omega)]))⟩
        · obtain ⟨res, r1, r2, a, b, r3⟩ := exc_l0 w hw hne d (i + 1) (L ++ [c]) P q1 (by simp; omega) (by omega) (fun _ => by simp) (fun x hx => by
            rcases List.mem_append.1 hx with hx | hx
            · exact hl x hx
            · rw [List.mem_singleton] at hx
              rw [hx]
              exact ((letB_iff c).1 hb).1)
          exact ⟨res, r1, Ev.succ h1 (Ev.succ ej (Ev.bind hlt (Ev.congr (fun k => if_pos rfl) r2))), a, b, Ev.succ h2 (Ev.bind hrt (Ev.congr (fun k => by rw [if_pos rfl, if_neg (by omega)]) r3))⟩
theorem exc_ev (w : List Int) (hw : w.length ≤ 60000) (hne : w ≠ []) : ∃ res : Option S72, (∀ e, res = some e → GE e) ∧ Ev (fun k => hyphen_Set_exception.f k w) (res.map fun e => (keyOf e.f0, e.f1)) ∧
      ∃ a b, Ev (fun k => colophonref21_except.f k w) (match res with | none => (a, b, false) | some e => (e.f0, e.f1, true)) :=
  exc_l0 w hw hne w.length 0 [] [] (by omega) (by simp) (by simp) (fun h => absurd h (by omega)) (by simp)
def pairsOf (m : List Int) (r : List S90) : List (Int × List Int) := r.map fun y => (((enc (m.take y.f0.toNat)).length : Int), wd m y)
theorem words_pairs (s : ByteArray) (m : List Int) (hv : ∀ c ∈ m, valid c) (h : s.data.toList = enc m) (r : List S90) (hr : ∀ y ∈ r, 0 ≤ y.f0 ∧ y.f0 < y.f1 ∧ y.f1 ≤ (m.length : Int)) : Wd.words m (Wd.places s) r = pairsOf m r := by
  unfold Wd.words pairsOf
  refine List.map_congr_left (fun y hy => ?_)
  obtain ⟨a1, a2, a3⟩ := hr y hy
  have := (places_enc s m hv h).2 y.f0.toNat (by omega)
  rw [Int.toNat_of_nonneg a1] at this
  rw [this]
  rfl
theorem wf_small {c : Int} (h : 0 ≤ c ∧ c ≤ 255) : (Lit.int .i64 c).wf = true := by
  have e1 : IntKind.i64.min = -9223372036854775808 := rfl
  have e2 : IntKind.i64.max = 9223372036854775807 := rfl
  show (decide (IntKind.i64.min ≤ c) && decide (c ≤ IntKind.i64.max)) = true
  rw [e1, e2, decide_eq_true (by omega), decide_eq_true (by omega)]
  rfl
theorem cnt_letters : ∀ (l : List Int), (∀ c ∈ l, c ≠ 46) → cnt l = l.length
  | [], _ => rfl
  | c :: r, h => by
    have ih := cnt_letters r (fun x hx => h x (List.mem_cons_of_mem _ hx))
    unfold cnt at ih ⊢
    rw [List.filter_cons_of_pos (by simpa using h c List.mem_cons_self), List.length_cons, ih, List.length_cons]
theorem cnt_dots (b : Bool) : cnt (dot b) = 0 := by cases b <;> rfl
theorem cnt_sp {p : S66} (h : GP p) : cnt (sp p).1 = p.f0.length := by
  unfold sp
  rw [cnt_append, cnt_append, cnt_dots, cnt_dots, cnt_letters _ (fun c hc => let_ne (h.let_ c hc).1)]
  omega
theorem sp_wf {p : S66} (h : GP p) : ∀ c ∈ (sp p).1, (Lit.int .i64 c).wf = true := by
  intro c hc
  have hd : ∀ b, c ∈ dot b → c = 46 := by
    intro b hb
    cases b with
    | false => cases hb
    | true => exact List.mem_singleton.1 hb
  refine wf_small ?_
  unfold sp at hc
  rcases List.mem_append.1 hc with hc | hc
  · rcases List.mem_append.1 hc with hc | hc
    · have := hd _ hc
      omega
    · have := (h.let_ c hc).1
      rw [cls_two] at this
      omega
  · have := hd _ hc
    omega
def Evp (Q : Nat → Prop) : Prop := ∃ K, ∀ k, K ≤ k → Q k
theorem Evp.and {P Q : Nat → Prop} (h : Evp P) (h' : Evp Q) : Evp fun k => P k ∧ Q k := by
  obtain ⟨K, hK⟩ := h
  obtain ⟨K', hK'⟩ := h'
  exact ⟨K + K', fun k hk => ⟨hK k (by omega), hK' k (by omega)⟩⟩
theorem Evp.mono {P Q : Nat → Prop} (h : Evp P) (hi : ∀ k, P k → Q k) : Evp Q := by
  obtain ⟨K, hK⟩ := h
  exact ⟨K, fun k hk => hi k (hK k hk)⟩
theorem Ev.p {α : Type} {f : Nat → Option α} {v : α} (h : Ev f v) : Evp fun k => f k = some v := h
structure PatsR (m : List Int) (r : List S90) (ps : List S66) (ar' : List Trie.PN) (ps' : List S66) : Prop where
  says : Says (ps'.map sp) ar'
  gp : ∀ p ∈ ps', GP p
  len : ar'.length = 1 + nodesOf [] (sps ps')
  num : ps'.length = ps.length + r.length
  new : ∃ qs, ps' = ps ++ qs ∧ (r.map (wd m)).mapM parse = some qs
theorem nodes_le : ∀ (R Q : List (List Int)), (∀ x ∈ R, x.length ≤ 66) → nodesOf Q R ≤ 66 * R.length
  | [], Q, h => Nat.le_refl _
  | a :: R, Q, h => by
    have hfr : ∀ (le pre : List Int) (Q : List (List Int)), freshQ Q pre le ≤ le.length := by
      intro le
      induction le with
      | nil => intro pre Q; exact Nat.le_refl _
      | cons c r ih =>
        intro pre Q
        have := ih (pre ++ [c]) Q
        rw [freshQ, List.length_cons]
        split <;> omega
    have h1 := hfr a [] Q
    have h2 := h a List.mem_cons_self
    have h3 := nodes_le R (Q ++ [a]) (fun x hx => h x (List.mem_cons_of_mem _ hx))
    rw [nodesOf, List.length_cons]
    omega
theorem pats_ev (m : List Int) (hv : ∀ c ∈ m, valid c) (hm : m.length ≤ 60000) : ∀ (r : List S90) (ps : List S66) (ar : List Trie.PN), (∀ y ∈ r, 0 ≤ y.f0 ∧ y.f0 < y.f1 ∧ y.f1 ≤ (m.length : Int)) → Says (ps.map sp) ar → (∀ p ∈ ps, GP p) → ar.length = 1 + nodesOf [] (sps ps) → ps.length + r.length ≤ 100000 →
    Evp (fun k => Cp.PatsOK k (pairsOf m r) ar) ∧
    ((∃ at_ : Int, Ev (fun k => Cp.pats k (pairsOf m r) ar) (.inl at_) ∧ Ev (fun k => Rf.pats k m (r.map both) ps) (.inl at_)) ∨
     ∃ ar' ps', Ev (fun k => Cp.pats k (pairsOf m r) ar) (.inr ar') ∧ Ev (fun k => Rf.pats k m (r.map both) ps) (.inr ps') ∧ PatsR m r ps ar' ps')
  | [], ps, ar, hr, hs, hg, hl, hn => by
    have hnl := nodes_le (sps ps) [] (fun x hx => by obtain ⟨p, hp, rfl⟩ := List.mem_map.1 hx; exact sp_len (hg p hp))
    rw [List.length_map] at hnl
    refine ⟨⟨0, fun k _ => ⟨hs.wf.pos, by rw [hl]; omega⟩⟩, .inr ⟨ar, ps, Ev.all (fun k => rfl), Ev.all (fun k => rfl), hs, hg, hl, by simp, [], by simp, rfl⟩⟩
  | y :: r, ps, ar, hr, hs, hg, hl, hn => by
    have hnl := nodes_le (sps ps) [] (fun x hx => by obtain ⟨p, hp, rfl⟩ := List.mem_map.1 hx; exact sp_len (hg p hp))
    rw [List.length_map] at hnl
    rw [List.length_cons] at hn
    obtain ⟨y1, y2, y3⟩ := hr y List.mem_cons_self
    have har : 0 < ar.length ∧ ar.length ≤ 1000000000000 := ⟨hs.wf.pos, by rw [hl]; omega⟩
    have hwl : (wd m y).length = y.f1.toNat - y.f0.toNat := by
      unfold wd
      rw [List.length_drop, List.length_take]
      omega
    have hwne : wd m y ≠ [] := fun q => by
      rw [q, List.length_nil] at hwl
      omega
    have hws : (wd m y).length ≤ 60000 := by omega
    obtain ⟨pr, h1, h2⟩ := pattern_ev (wd m y) hws
    obtain ⟨a, b, c, d, h3⟩ := read_ev (wd m y) hws hwne
    have hplace : Ev (fun k => colophonref21_place.f k m y.f0) ((enc (m.take y.f0.toNat)).length : Int) := by
      have := place_ev m hv hm y.f0.toNat (by omega)
      rw [Int.toNat_of_nonneg y1] at this
      exact this
    have epair : pairsOf m (y :: r) = (((enc (m.take y.f0.toNat)).length : Int), wd m y) :: pairsOf m r := rfl
    rw [epair]
    have ebad : parse (wd m y) = none → Ev (fun k => Rf.pats k m ((y :: r).map both) ps) (.inl ((enc (m.take y.f0.toNat)).length : Int)) := by
      intro hp
      rw [hp] at h3
      refine Ev.bind (f := fun k => colophonref21_read.f k (wd m y)) h3 ?_
      exact Ev.congr (fun k => if_neg (fun (q : false = true) => by cases q)) (Ev.bind hplace (Ev.all fun k => rfl))
    cases hp : parse (wd m y) with
    | none =>
      rw [hp] at h2
      rcases h2 with rfl | ⟨le, lv, rfl, d1, d2, d3, d4⟩
      · refine ⟨?_, .inl ⟨_, ?_, ebad hp⟩⟩
        · refine h1.p.mono (fun k hk => ⟨har, fun le lv n q => ?_⟩)
          rw [hk] at q
          injection q with q
          cases q
        · refine Ev.bind h1 (Ev.all fun k => rfl)
      · obtain ⟨_, _, p3⟩ := says_put hs le lv 0 (by rw [d1]; rfl) (by rw [d2, d1]) 
        refine ⟨?_, .inl ⟨_, ?_, ebad hp⟩⟩
        · refine h1.p.mono (fun k hk => ⟨har, fun le' lv' n q => ?_⟩)
          rw [hk] at q
          injection q with q
          injection q with q
          injection q with q1 q2
          injection q2 with q2 q3
          subst q1 q2 q3
          exact ⟨⟨fun c hc => wf_small (by have := d4 c hc; omega), by rw [d2]; rfl, by omega, by omega, by omega, by omega⟩, p3, fun z => absurd rfl z⟩
        · refine Ev.bind h1 (Ev.all fun k => ?_)
          exact if_pos rfl
    | some p =>
      rw [hp] at h2 h3
      have gp := parse_good hp
      have gl := gp.len
      have gv := gp.lev
      have gne := List.length_pos_iff.2 gp.ne
      have hcn := cnt_sp gp
      have hsl := sp_len gp
      dsimp only at h2
      subst h2
      have hn0 : ¬ (p.f0.length : Int) = 0 := by omega
      obtain ⟨p1, p2, p3⟩ := says_put hs (sp p).1 p.f3 (p.f0.length : Int) (by rw [hcn]) (by rw [hcn, gv])
      have hs' : Says ((ps ++ [p]).map sp) (Trie.put ar (sp p).1 p.f3 (p.f0.length : Int)) := by
        rw [List.map_append]
        exact p1
      have hg' : ∀ q ∈ ps ++ [p], GP q := fun q hq => by
        rcases List.mem_append.1 hq with hq | hq
        · exact hg q hq
        · rw [List.mem_singleton] at hq
          rw [hq]
          exact gp
      have hl' : (Trie.put ar (sp p).1 p.f3 (p.f0.length : Int)).length = 1 + nodesOf [] (sps (ps ++ [p])) := by
        have e : sps (ps ++ [p]) = sps ps ++ [(sp p).1] := by simp [sps]
        have e2 : (ps.map sp).map (·.1) = sps ps := by simp [sps]
        rw [p2, fresh_eq hs, e2, e, nodesOf_snoc, List.nil_append, hl, Nat.add_assoc]
      obtain ⟨i1, i2⟩ := pats_ev m hv hm r (ps ++ [p]) _ (fun z hz => hr z (List.mem_cons_of_mem _ hz)) hs' hg' hl' (by simp; omega)
      have stepP : ∀ {v}, Ev (fun k => Cp.pats k (pairsOf m r) (Trie.put ar (sp p).1 p.f3 (p.f0.length : Int))) v → Ev (fun k => Cp.pats k ((((enc (m.take y.f0.toNat)).length : Int), wd m y) :: pairsOf m r) ar) v := by
        intro v hvv
        refine Ev.bind h1 (Ev.congr (fun k => ?_) hvv)
        exact if_neg hn0
      have stepR : ∀ {v}, Ev (fun k => Rf.pats k m (r.map both) (ps ++ [p])) v → Ev (fun k => Rf.pats k m ((y :: r).map both) ps) v := by
        intro v hvv
        refine Ev.bind (f := fun k => colophonref21_read.f k (wd m y)) h3 (Ev.congr (fun k => ?_) hvv)
        exact if_pos rfl
      refine ⟨?_, ?_⟩
      · refine (h1.p.and i1).mono (fun k hk => ⟨har, fun le' lv' n q => ?_⟩)
        obtain ⟨hk1, hk2⟩ := hk
        rw [hk1] at q
        injection q with q
        injection q with q
        injection q with q1 q2
        injection q2 with q2 q3
        subst q1 q2 q3
        exact ⟨⟨sp_wf gp, by omega, by omega, by omega, by omega, by omega⟩, p3, fun _ => hk2⟩
      · rcases i2 with ⟨at_, j1, j2⟩ | ⟨ar', ps', j1, j2, j3⟩
        · exact .inl ⟨at_, stepP j1, stepR j2⟩
        · refine .inr ⟨ar', ps', stepP j1, stepR j2, j3.says, j3.gp, j3.len, ?_, ?_⟩
          · rw [j3.num, List.length_append, List.length_singleton, List.length_cons]
            omega
          · obtain ⟨qs, k1, k2⟩ := j3.new
            refine ⟨p :: qs, by rw [k1]; simp, ?_⟩
            rw [List.map_cons, List.mapM_cons, hp, k2]
            rfl
end Go.Proofs.YtenhfmlkdcfbbaaDoor.Law21
