/- law21, the plain law: the program's set and the reference's. -/
import Derived.Test.YtenhfmlkdcfbbaaDoorLj
namespace Go.Proofs.YtenhfmlkdcfbbaaDoor.Law21
open Go.RowKit Go.Proofs.YtenhfmlkdcfbbaaDoorW.PrintWords Go.Proofs.YtenhfmlkdcfbbaaDoorW.PrintLast Go.Proofs.YtenhfmlkdcfbbaaDoorW.PrintMore Go.Proofs.YtenhfmlkdcfbbaaDoor.PHyphenPoints Go.Proofs.YtenhfmlkdcfbbaaDoor.LawW
set_option linter.unusedVariables false
open LawE (valid enc enc_cons)
theorem findE_snoc (e : S72) (w : List Int) : ∀ (es : List S72), findE (es ++ [e]) w = match findE es w with | some p => some p | none => if e.f0 = w then some e.f1 else none
  | [] => rfl
  | a :: es => by
    rw [List.cons_append, findE, findE, findE_snoc e w es]
    by_cases h : a.f0 = w
    · rw [if_pos h, if_pos h]
    · rw [if_neg h, if_neg h]
theorem key_inj {a b : List Int} (ha : ∀ c ∈ a, valid c) (hb : ∀ c ∈ b, valid c) : keyOf a = keyOf b ↔ a = b := by
  unfold keyOf
  rw [data_inj]
  exact ⟨enc_inj ha hb, fun h => by rw [h]⟩
theorem KN_snoc {kn : List (ByteArray × List Int)} {es : List S72} (h : KN kn es) (e : S72) (he : GE e) : KN (Trie.kput kn (keyOf e.f0) e.f1) (es ++ [e]) := by
  intro w hw
  have hv := let_valid he.2.2.2
  rw [findE_snoc]
  have h0 := h e.f0 hv
  have h1 := h w hw
  have ek : (⟨(enc w).toArray⟩ : ByteArray) = keyOf w := rfl
  have ek0 : (⟨(enc e.f0).toArray⟩ : ByteArray) = keyOf e.f0 := rfl
  rw [ek] at h1 ⊢
  rw [ek0] at h0
  unfold Trie.kput
  by_cases hs : (Trie.kfind kn (keyOf e.f0)).isSome = true
  · rw [if_pos hs, h1]
    cases hf : findE es w with
    | some p => rfl
    | none =>
      show none = if e.f0 = w then _ else _
      rw [if_neg (fun q => by rw [h0, q, hf] at hs; cases hs)]
  · rw [if_neg hs, Trie.kfind]
    by_cases q : keyOf e.f0 = keyOf w
    · have q2 := (key_inj hv hw).1 q
      rw [if_pos q, ← q2, ← h0]
      cases hf : Trie.kfind kn (keyOf e.f0) with
      | some p => rw [hf] at hs; exact absurd rfl hs
      | none =>
        show _ = if e.f0 = e.f0 then _ else _
        rw [if_pos rfl]
    · rw [if_neg q, h1]
      cases hf : findE es w with
      | some p => rfl
      | none =>
        show none = if e.f0 = w then _ else _
        rw [if_neg (fun z => q (by rw [z]))]
theorem kput_len (kn : List (ByteArray × List Int)) (k : ByteArray) (p : List Int) : (Trie.kput kn k p).length ≤ kn.length + 1 := by
  unfold Trie.kput
  split
  · omega
  · exact Nat.le_refl _
theorem key_size {l : List Int} (h : l.length ≤ 64) : (keyOf l).size ≤ 9223372036854775807 := by
  have := LawE.enc_len l
  have e : (keyOf l).size = (enc l).length := by
    unfold keyOf
    show (enc l).toArray.size = _
    simp
  omega
theorem excs_ev (m : List Int) (hv : ∀ c ∈ m, valid c) (hm : m.length ≤ 60000) : ∀ (r : List S90) (es : List S72) (kn : List (ByteArray × List Int)), (∀ y ∈ r, 0 ≤ y.f0 ∧ y.f0 < y.f1 ∧ y.f1 ≤ (m.length : Int)) → KN kn es → (∀ e ∈ es, GE e) → kn.length ≤ es.length → es.length + r.length ≤ 100000 →
    Evp (fun k => Cp.ExcsOK k (pairsOf m r) kn) ∧
    ((∃ at_ : Int, Ev (fun k => Cp.excs k (pairsOf m r) kn) (.inl at_) ∧ Ev (fun k => Rf.excs k m (r.map both) es) (.inl at_)) ∨
     ∃ kn' es', Ev (fun k => Cp.excs k (pairsOf m r) kn) (.inr kn') ∧ Ev (fun k => Rf.excs k m (r.map both) es) (.inr es') ∧ KN kn' es' ∧ (∀ e ∈ es', GE e) ∧ es'.length = es.length + r.length)
  | [], es, kn, hr, hs, hg, hl, hn => ⟨⟨0, fun k _ => trivial⟩, .inr ⟨kn, es, Ev.all (fun k => rfl), Ev.all (fun k => rfl), hs, hg, by simp⟩⟩
  | y :: r, es, kn, hr, hs, hg, hl, hn => by
    rw [List.length_cons] at hn
    obtain ⟨y1, y2, y3⟩ := hr y List.mem_cons_self
    have hkl : kn.length ≤ 1000000000000 := by omega
    have hwl : (wd m y).length = y.f1.toNat - y.f0.toNat := by
      unfold wd
      rw [List.length_drop, List.length_take]
      omega
    have hwne : wd m y ≠ [] := fun q => by
      rw [q, List.length_nil] at hwl
      omega
    have hws : (wd m y).length ≤ 60000 := by omega
    obtain ⟨res, g1, h1, a, b, h3⟩ := exc_ev (wd m y) hws hwne
    have hplace : Ev (fun k => colophonref21_place.f k m y.f0) ((enc (m.take y.f0.toNat)).length : Int) := by
      have := place_ev m hv hm y.f0.toNat (by omega)
      rw [Int.toNat_of_nonneg y1] at this
      exact this
    have epair : pairsOf m (y :: r) = (((enc (m.take y.f0.toNat)).length : Int), wd m y) :: pairsOf m r := rfl
    rw [epair]
    cases res with
    | none =>
      refine ⟨?_, .inl ⟨_, Ev.bind h1 (Ev.all fun k => rfl), ?_⟩⟩
      · refine h1.p.mono (fun k hk => ⟨hkl, fun key pts q => ?_⟩)
        rw [hk] at q
        injection q with q
        cases q
      · refine Ev.bind (f := fun k => colophonref21_except.f k (wd m y)) h3 ?_
        exact Ev.congr (fun k => if_neg (fun (q : false = true) => by cases q)) (Ev.bind hplace (Ev.all fun k => rfl))
    | some e =>
      have ge := g1 e rfl
      have hs' := KN_snoc hs e ge
      have hkl2 := kput_len kn (keyOf e.f0) e.f1
      have hg' : ∀ q ∈ es ++ [e], GE q := fun q hq => by
        rcases List.mem_append.1 hq with hq | hq
        · exact hg q hq
        · rw [List.mem_singleton] at hq
          rw [hq]
          exact ge
      obtain ⟨i1, i2⟩ := excs_ev m hv hm r (es ++ [e]) _ (fun z hz => hr z (List.mem_cons_of_mem _ hz)) hs' hg' (by simp; omega) (by simp; omega)
      have stepP : ∀ {v}, Ev (fun k => Cp.excs k (pairsOf m r) (Trie.kput kn (keyOf e.f0) e.f1)) v → Ev (fun k => Cp.excs k ((((enc (m.take y.f0.toNat)).length : Int), wd m y) :: pairsOf m r) kn) v := fun hvv => Ev.bind h1 hvv
      have stepR : ∀ {v}, Ev (fun k => Rf.excs k m (r.map both) (es ++ [e])) v → Ev (fun k => Rf.excs k m ((y :: r).map both) es) v := by
        intro v hvv
        refine Ev.bind (f := fun k => colophonref21_except.f k (wd m y)) h3 (Ev.congr (fun k => ?_) hvv)
        exact if_pos rfl
      refine ⟨?_, ?_⟩
      · refine (h1.p.and i1).mono (fun k hk => ⟨hkl, fun key pts q => ?_⟩)
        obtain ⟨hk1, hk2⟩ := hk
        rw [hk1] at q
        injection q with q
        injection q with q
        injection q with q1 q2
        subst q1 q2
        exact ⟨key_size ge.1, hk2⟩
      · rcases i2 with ⟨at_, j1, j2⟩ | ⟨kn', es', j1, j2, j3, j4, j5⟩
        · exact .inl ⟨at_, stepP j1, stepR j2⟩
        · exact .inr ⟨kn', es', stepP j1, stepR j2, j3, j4, by rw [j5]; simp; omega⟩
structure Good (a0 a1 : ByteArray) (ar : List Trie.PN) (kn : List (ByteArray × List Int)) (ps : List S66) (es : List S72) : Prop where
  says : Says (ps.map sp) ar
  gp : ∀ p ∈ ps, GP p
  np : ps.length ≤ 100000
  len : ar.length = 1 + nodesOf [] (sps ps)
  kn : KN kn es
  ge : ∀ e ∈ es, GE e
  ne : es.length ≤ 100000
  text : ∃ m, (∀ c ∈ m, valid c) ∧ a0.data.toList = enc m ∧ (split m []).mapM parse = some ps
  none : a1 = ⟨#[]⟩ → es = []
structure Both (a0 a1 : ByteArray) (s : Option Cp.HS) (t : Option Rf.RS) (at_ er : Int) : Prop where
  c : Ev (fun k => hyphen_Compile.f k a0 a1) (s, at_, er)
  o : Evp (fun k => hyphen_Compile.OK k a0 a1)
  d : Ev (fun k => colophonref21_Compile.f k a0 a1) (t, at_, er)
  p : Evp (fun k => colophonref21_Compile.OK k a0 a1)
  what : (er ≠ 0 ∧ s = none ∧ t = none) ∨ (er = 0 ∧ ∃ ar kn ps es, s = some (ar, kn) ∧ t = some (ps, es) ∧ Good a0 a1 ar kn ps es)
theorem enc_size (s : ByteArray) (m : List Int) (h : s.data.toList = enc m) : m.length ≤ s.size := by
  have := LawE.enc_len m
  have := congrArg List.length h
  rw [size_data] at this
  omega
theorem compile_ev (a0 a1 : ByteArray) (h0 : a0.size ≤ 6100) (h1 : a1.size ≤ 6100) : ∃ s t at_ er, Both a0 a1 s t at_ er := by
  have big : ¬ (1048576 < a0.size ∨ 1048576 < a1.size) := by omega
  rcases decode_cases a0 (by omega) with ⟨m, m1, m2, m3, m4⟩ | ⟨at_, n1, m3, m4⟩
  rotate_left
  · 
    refine ⟨none, none, at_, 40, ?_, ?_, ?_, ?_, .inl ⟨by decide, rfl, rfl⟩⟩
    · unfold hyphen_Compile.f
      exact Ev.congr (fun k => if_neg big) (Ev.bind m3 (Ev.all fun k => if_pos (show (40 : Int) ≠ 0 by decide)))
    · refine m3.p.mono (fun k hk l1 l2 a b u v q1 => ?_)
      rw [hk] at q1
      injection q1 with q1
      injection q1 with _ q1
      injection q1 with _ q1
      cases q1
    · unfold colophonref21_Compile.f
      exact Ev.congr (fun k => if_neg big) (Ev.bind m4 (Ev.all fun k => if_pos (show (40 : Int) ≠ 0 by decide)))
    · 
      rcases decode_cases a1 (by omega) with ⟨x, x1, x2, x3, x4⟩ | ⟨at2, _, x3, x4⟩
      · obtain ⟨v, v1, v2, v3, v4, v5⟩ := words_ev x (by have := enc_size a1 x x2; omega)
        have hx := enc_size a1 x x2
        refine ((m4.p.and x4.p).and v2.p).mono (fun k hk => ⟨fun l a u q1 _ => ?_, fun l a u q1 q2 => ?_⟩)
        · rw [hk.1.1] at q1
          injection q1 with q1
          injection q1 with _ q1
          injection q1 with _ q1
          cases q1
        · rw [hk.1.2] at q1
          injection q1 with q1
          injection q1 with q1 _
          subst q1
          rw [hk.2] at q2
          injection q2 with q2
          subst q2
          refine ⟨by omega, by rw [List.length_map]; omega, fun y hy => ?_⟩
          obtain ⟨z, hz, rfl⟩ := List.mem_map.1 hy
          exact v5 z hz
      · refine (m4.p.and x4.p).mono (fun k hk => ⟨fun l a u q1 _ => ?_, fun l a u q1 _ => ?_⟩)
        · rw [hk.1] at q1
          injection q1 with q1
          injection q1 with _ q1
          injection q1 with _ q1
          cases q1
        · rw [hk.2] at q1
          injection q1 with q1
          injection q1 with _ q1
          injection q1 with _ q1
          cases q1
  have hml := enc_size a0 m m2
  obtain ⟨u, u1, u2, u3, u4, u5⟩ := words_ev m (by omega)
  have hOKm : m.length ≤ 1048576 ∧ u.length ≤ 1048576 ∧ ∀ y ∈ u, 0 ≤ y.f0 ∧ y.f0 < y.f1 ∧ y.f1 ≤ (m.length : Int) := ⟨by omega, by omega, u5⟩
  have hplm := (places_enc a0 m m1 m2).1
  have hwm := words_pairs a0 m m1 m2 u u5
  rcases decode_cases a1 (by omega) with ⟨x, x1, x2, x3, x4⟩ | ⟨at2, n2, x3, x4⟩
  rotate_left
  · 
    refine ⟨none, none, at2, 40, ?_, ?_, ?_, ?_, .inl ⟨by decide, rfl, rfl⟩⟩
    · unfold hyphen_Compile.f
      exact Ev.congr (fun k => if_neg big) (Ev.bind m3 (Ev.congr (fun k => if_neg (show ¬ (0 : Int) ≠ 0 by decide)) (Ev.bind x3 (Ev.all fun k => if_pos (show (40 : Int) ≠ 0 by decide)))))
    · refine x3.p.mono (fun k hk l1 l2 a b u v _ q1 => ?_)
      rw [hk] at q1
      injection q1 with q1
      injection q1 with _ q1
      injection q1 with _ q1
      cases q1
    · unfold colophonref21_Compile.f
      exact Ev.congr (fun k => if_neg big) (Ev.bind m4 (Ev.congr (fun k => if_neg (show ¬ (0 : Int) ≠ 0 by decide)) (Ev.bind x4 (Ev.all fun k => if_pos (show (40 : Int) ≠ 0 by decide)))))
    · refine ((m4.p.and x4.p).and u2.p).mono (fun k hk => ⟨fun l a v q1 q2 => ?_, fun l a v q1 _ => ?_⟩)
      · rw [hk.1.1] at q1
        injection q1 with q1
        injection q1 with q1 _
        subst q1
        rw [hk.2] at q2
        injection q2 with q2
        subst q2
        refine ⟨by omega, by rw [List.length_map]; omega, fun y hy => ?_⟩
        obtain ⟨z, hz, rfl⟩ := List.mem_map.1 hy
        exact u5 z hz
      · rw [hk.1.2] at q1
        injection q1 with q1
        injection q1 with _ q1
        injection q1 with _ q1
        cases q1
  have hxl := enc_size a1 x x2
  obtain ⟨v, v1, v2, v3, v4, v5⟩ := words_ev x (by omega)
  have hplx := (places_enc a1 x x1 x2).1
  have hwx := words_pairs a1 x x1 x2 v v5
  have hKN : KN [] [] := fun w _ => rfl
  obtain ⟨pOK, pres⟩ := pats_ev m m1 (by omega) u [] [Trie.PN.z] u5 says_nil (by simp) rfl (by simp; omega)
  obtain ⟨eOK, eres⟩ := excs_ev x x1 (by omega) v [] [] v5 hKN (by simp) (Nat.le_refl _) (by simp; omega)
  have oC : Evp (fun k => hyphen_Compile.OK k a0 a1) := by
    refine ((((m3.p.and x3.p).and (u1.p.and v1.p)).and pOK).and eOK).mono (fun k hk l1 l2 a b u' v' q1 q2 q3 q4 => ?_)
    obtain ⟨⟨⟨⟨k1, k2⟩, k3, k4⟩, k5⟩, k6⟩ := hk
    rw [k1] at q1
    injection q1 with q1
    injection q1 with q1 _
    subst q1
    rw [k2] at q2
    injection q2 with q2
    injection q2 with q2 _
    subst q2
    rw [k3] at q3
    injection q3 with q3
    subst q3
    rw [k4] at q4
    injection q4 with q4
    subst q4
    rw [hwm, hwx]
    exact ⟨⟨by omega, by omega, fun y hy => by have := u5 y hy; rw [hplm]; omega⟩, ⟨by omega, by omega, fun y hy => by have := v5 y hy; rw [hplx]; omega⟩, k5, k6⟩
  have oR : Evp (fun k => colophonref21_Compile.OK k a0 a1) := by
    refine ((m4.p.and x4.p).and (u2.p.and v2.p)).mono (fun k hk => ⟨fun l a w q1 q2 => ?_, fun l a w q1 q2 => ?_⟩)
    · obtain ⟨⟨k1, k2⟩, k3, k4⟩ := hk
      rw [k1] at q1
      injection q1 with q1
      injection q1 with q1 _
      subst q1
      rw [k3] at q2
      injection q2 with q2
      subst q2
      refine ⟨by omega, by rw [List.length_map]; omega, fun y hy => ?_⟩
      obtain ⟨z, hz, rfl⟩ := List.mem_map.1 hy
      exact u5 z hz
    · obtain ⟨⟨k1, k2⟩, k3, k4⟩ := hk
      rw [k2] at q1
      injection q1 with q1
      injection q1 with q1 _
      subst q1
      rw [k4] at q2
      injection q2 with q2
      subst q2
      refine ⟨by omega, by rw [List.length_map]; omega, fun y hy => ?_⟩
      obtain ⟨z, hz, rfl⟩ := List.mem_map.1 hy
      exact v5 z hz
  have goC : ∀ {r : Option Cp.HS × Int × Int}, Ev (α := Option Cp.HS × Int × Int) (fun k => (Cp.pats k (pairsOf m u) [Trie.PN.z]).bind fun q => match q with
      | .inl at_ => some (none, at_, 210)
      | .inr ar => (Cp.excs k (pairsOf x v) []).bind fun q => match q with
        | .inl at_ => some (none, at_, 210)
        | .inr kn => some (some (ar, kn), 0, 0)) r → Ev (fun k => hyphen_Compile.f k a0 a1) r := by
    intro r hr
    unfold hyphen_Compile.f
    refine Ev.congr (fun k => if_neg big) (Ev.bind m3 (Ev.congr (fun k => if_neg (show ¬ (0 : Int) ≠ 0 by decide)) (Ev.bind x3 (Ev.congr (fun k => if_neg (show ¬ (0 : Int) ≠ 0 by decide)) (Ev.bind u1 (Ev.bind v1 ?_))))))
    rw [hwm, hwx]
    exact hr
  have goR : ∀ {r : Option Rf.RS × Int × Int}, Ev (α := Option Rf.RS × Int × Int) (fun k => (Rf.pats k m (u.map both) []).bind fun q => match q with
      | .inl at_ => some (none, at_, 210)
      | .inr ps => (colophonref04_Words.f k x).bind fun v => (Rf.excs k x v []).bind fun q => match q with
        | .inl at_ => some (none, at_, 210)
        | .inr es => some (some (ps, es), 0, 0)) r → Ev (fun k => colophonref21_Compile.f k a0 a1) r := by
    intro r hr
    unfold colophonref21_Compile.f
    exact Ev.congr (fun k => if_neg big) (Ev.bind m4 (Ev.congr (fun k => if_neg (show ¬ (0 : Int) ≠ 0 by decide)) (Ev.bind x4 (Ev.congr (fun k => if_neg (show ¬ (0 : Int) ≠ 0 by decide)) (Ev.bind u2 hr)))))
  rcases pres with ⟨at_, p1, p2⟩ | ⟨ar, ps, p1, p2, p3⟩
  · exact ⟨none, none, at_, 210, goC (Ev.bind p1 (Ev.all fun k => rfl)), oC, goR (Ev.bind p2 (Ev.all fun k => rfl)), oR, .inl ⟨by decide, rfl, rfl⟩⟩
  · rcases eres with ⟨at_, e1, e2⟩ | ⟨kn, es, e1, e2, e3, e4, e5⟩
    · exact ⟨none, none, at_, 210, goC (Ev.bind p1 (Ev.bind e1 (Ev.all fun k => rfl))), oC, goR (Ev.bind p2 (Ev.bind v2 (Ev.bind e2 (Ev.all fun k => rfl)))), oR, .inl ⟨by decide, rfl, rfl⟩⟩
    · refine ⟨some (ar, kn), some (ps, es), 0, 0, goC (Ev.bind p1 (Ev.bind e1 (Ev.all fun k => rfl))), oC, goR (Ev.bind p2 (Ev.bind v2 (Ev.bind e2 (Ev.all fun k => rfl)))), oR, .inr ⟨rfl, ar, kn, ps, es, rfl, rfl, p3.says, p3.gp, ?_, p3.len, e3, e4, ?_, ⟨m, m1, m2, ?_⟩, fun q => ?_⟩⟩
      · rw [p3.num, List.length_nil]
        omega
      · rw [e5, List.length_nil]
        omega
      · obtain ⟨qs, k1, k2⟩ := p3.new
        rw [k1, ← u3, k2]
        rfl
      · subst q
        have : x = [] := List.eq_nil_of_length_eq_zero (by have : (⟨#[]⟩ : ByteArray).size = 0 := rfl; omega)
        have hv0 : v = [] := List.eq_nil_of_length_eq_zero (by rw [this] at v4; simpa using v4)
        refine List.eq_nil_of_length_eq_zero ?_
        rw [e5, hv0]
        rfl
end Go.Proofs.YtenhfmlkdcfbbaaDoor.Law21
