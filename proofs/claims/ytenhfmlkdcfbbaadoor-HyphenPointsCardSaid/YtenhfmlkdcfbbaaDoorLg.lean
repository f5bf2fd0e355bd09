/- law21, the plain law: the program's methods say what the reference's say. -/
import Derived.Test.YtenhfmlkdcfbbaaDoorLf
import Derived.Test.YtenhfmlkdcfbbaaDoorLd
namespace Go.Proofs.YtenhfmlkdcfbbaaDoor.Law21
open Go.RowKit Go.Proofs.YtenhfmlkdcfbbaaDoorW.PrintWords Go.Proofs.YtenhfmlkdcfbbaaDoorW.PrintLast Go.Proofs.YtenhfmlkdcfbbaaDoorW.PrintMore Go.Proofs.YtenhfmlkdcfbbaaDoor.PHyphenPoints Go.Proofs.YtenhfmlkdcfbbaaDoor.LawW
set_option linter.unusedVariables false
theorem cls_two (c : Int) : cls c = 2 ↔ (65 ≤ c ∧ c ≤ 90) ∨ (97 ≤ c ∧ c ≤ 122) ∨ (192 ≤ c ∧ c ≤ 255 ∧ c ≠ 215 ∧ c ≠ 247) := by
  have h : ∃ v, utf_Class.f 5 c = some v ∧ (v = 2 ↔ (65 ≤ c ∧ c ≤ 90) ∨ (97 ≤ c ∧ c ≤ 122) ∨ (192 ≤ c ∧ c ≤ 255 ∧ c ≠ 215 ∧ c ≠ 247)) := by
    by_cases h1 : 0 ≤ c ∧ c ≤ 255
    · have all : ∀ n : Fin 256, ∃ v ∈ utf_Class.f 5 (n.val : Int), (v = 2 ↔ (65 ≤ (n.val : Int) ∧ (n.val : Int) ≤ 90) ∨ (97 ≤ (n.val : Int) ∧ (n.val : Int) ≤ 122) ∨ (192 ≤ (n.val : Int) ∧ (n.val : Int) ≤ 255 ∧ (n.val : Int) ≠ 215 ∧ (n.val : Int) ≠ 247)) := by decide +kernel
      obtain ⟨v, hv, hq⟩ := all ⟨c.toNat, by omega⟩
      have e : ((c.toNat : Nat) : Int) = c := by omega
      simp only [e] at hv hq
      exact ⟨v, hv, hq⟩
    · obtain ⟨v, hv⟩ := class_some c
      refine ⟨v, hv, ?_⟩
      have hno : ¬ ((65 ≤ c ∧ c ≤ 90) ∨ (97 ≤ c ∧ c ≤ 122) ∨ (192 ≤ c ∧ c ≤ 255 ∧ c ≠ 215 ∧ c ≠ 247)) := by omega
      refine ⟨fun hv2 => absurd ?_ id, fun q => absurd q hno⟩
      subst hv2
      obtain ⟨b, hb⟩ := point_f c
      unfold utf_Class.f at hv
      rw [hb, Option.bind_some] at hv
      cases b with
      | false => simp at hv
      | true =>
        rw [if_pos rfl, if_neg (by omega), if_neg (by omega), if_neg (by omega), show (c == 32) = false from beq_eq_false_iff_ne.2 (by omega), utf_Class.j0, if_neg (by decide)] at hv
        by_cases h2 : 65 ≤ c
        · rw [if_pos h2, if_neg (by omega), if_pos (by omega), if_neg (by omega), if_pos (by omega), if_neg (by omega), utf_Class.j1, if_neg (by decide), if_pos (by omega), decide_eq_false (by omega), utf_Class.j2, if_neg (by decide), if_neg (by omega), if_pos (by omega), if_neg (by omega)] at hv
          simp at hv
        · rw [if_neg h2, if_neg (by omega), if_neg (by omega), utf_Class.j1, if_neg (by decide), if_neg (by omega), utf_Class.j2, if_neg (by decide), if_pos (by omega)] at hv
          simp at hv
  obtain ⟨v, hv, hq⟩ := h
  unfold cls
  rw [hv]
  exact hq
theorem low_cases (c : Int) (h : cls c = 2) : cls (lowV c) = 2 ∧ lowV (lowV c) = lowV c ∧ lowV c ≠ 46 ∧ 0 ≤ lowV c ∧ lowV c ≤ 255 := by
  rw [cls_two] at h
  refine ⟨?_, low_low c, ?_⟩
  · rw [cls_two]
    unfold lowV
    split
    · rename_i q
      rw [lowB_iff] at q
      omega
    · rename_i q
      rw [lowB_iff] at q
      omega
  · unfold lowV
    split
    · rename_i q
      rw [lowB_iff] at q
      omega
    · rename_i q
      rw [lowB_iff] at q
      omega
theorem let_ne {c : Int} (h : cls c = 2) : c ≠ 46 := by
  rw [cls_two] at h
  omega
theorem may_sm {l : List Int} (h : mayB l = true) : sm l = l.map lowV ∧ sm l ≠ [] ∧ (sm l).length = l.length ∧ l.length ≤ 64 ∧ ∀ c ∈ sm l, cls c = 2 ∧ c ≠ 46 ∧ 0 ≤ c ∧ c ≤ 255 := by
  have e : sm l = l.map lowV := if_pos h
  unfold mayB at h
  simp only [Bool.and_eq_true, decide_eq_true_eq, List.all_eq_true] at h
  obtain ⟨h1, h2, h3⟩ := h
  refine ⟨e, ?_, by rw [e, List.length_map], h2, fun c hc => ?_⟩
  · rw [e]
    intro q
    have := congrArg List.length q
    rw [List.length_map, List.length_nil] at this
    omega
  · rw [e] at hc
    obtain ⟨d, hd, rfl⟩ := List.mem_map.1 hc
    obtain ⟨q1, q2, q3, q4, q5⟩ := low_cases d (h3 d hd)
    exact ⟨q1, q3, q4, q5⟩
theorem not_may {l : List Int} (h : mayB l = false) : sm l = [] := if_neg (by rw [h]; decide)
theorem adds_nn (ar : List Trie.PN) (f : Nat) : ∀ (qs : List Nat) (o : List Int), (∀ q ∈ qs, f + (Lv.lvs ar q).length ≤ o.length) → (∀ j : Nat, 0 ≤ rd o (j : Int)) → ∀ j : Nat, 0 ≤ rd (Lv.adds ar f o qs) (j : Int)
  | [], o, h, hn => hn
  | q :: r, o, h, hn => by
    rw [Lv.adds]
    exact adds_nn ar f r _ (fun p hp => by rw [lev_len]; exact h p (List.mem_cons_of_mem _ hp)) (lev_nn _ _ _ hn (h q List.mem_cons_self))
theorem loop_nn (ar : List Trie.PN) (d : List Int) : ∀ (n i : Nat) (o : List Int), (∀ m, i ≤ m → m < i + n → ∀ q ∈ Wy.path ar 0 (d.drop m), (m - 1) + (Lv.lvs ar q).length ≤ o.length) → (∀ j : Nat, 0 ≤ rd o (j : Int)) → ∀ j : Nat, 0 ≤ rd (Lv.loop ar d n i o) (j : Int)
  | 0, i, o, h, hn => hn
  | n + 1, i, o, h, hn => by
    rw [Lv.loop]
    exact loop_nn ar d n (i + 1) _ (fun m h1 h2 q hq => by rw [adds_len]; exact h m (by omega) (by omega) q hq) (adds_nn ar _ _ _ (fun q hq => h i (Nat.le_refl _) (by omega) q hq) hn)
theorem zeros_nn (n : Nat) (j : Nat) : 0 ≤ rd (List.replicate n 0) (j : Int) := by
  unfold rd
  rw [Int.toNat_natCast, List.getD_eq_getElem?_getD, List.getElem?_replicate]
  split <;> simp
theorem plevels_nn {P : List (List Int × List Int)} {ar : List Trie.PN} (h : Says P ar) (l : List Int) (j : Nat) : 0 ≤ rd (Lv.levels ar l) (j : Int) := by
  unfold Lv.levels
  exact loop_nn _ _ _ _ _ (fun m _ h2 q hq => by rw [List.length_replicate]; exact lvs_fit h l m (by omega) q hq) (zeros_nn _) j
theorem levels_same (ps : List S66) (ar : List Trie.PN) (hs : Says (ps.map sp) ar) (hg : ∀ p ∈ ps, GP p) (hn : ps.length ≤ 1000000) (l : List Int) :
    Ev (fun k => colophonref21_Set_Levels.f k ps l) (if sm l = [] then [] else Lv.levels ar (sm l)) := by
  have e : ∀ k, colophonref21_Set_Levels.f k ps l = (colophonref21_may.f k l).bind fun t => colophonref21_Set_Levels.j0 k ps l (!t) := by
    intro k
    unfold colophonref21_Set_Levels.f
    rw [if_neg (by decide)]
  refine Ev.congr e (Ev.bind (may_ev l) ?_)
  cases hm : mayB l with
  | false =>
    rw [not_may hm, if_pos rfl]
    exact Ev.one (fun k => by rw [colophonref21_Set_Levels.j0, if_pos (by rfl)])
  | true =>
    obtain ⟨s1, s2, s3, s4, s5⟩ := may_sm hm
    rw [if_neg s2]
    obtain ⟨r, r1, r2, r3, r4⟩ := levels_l0 ps (sm l) hg hn (by omega) ps.length 0 (List.replicate ((sm l).length + 1) 0) (by omega) (List.length_replicate ..) (zeros_nn _)
    have er : r = Lv.levels ar (sm l) := by
      refine at_ext (by rw [r2, levels_len]) r3 (plevels_nn hs _) (fun j v hv => ?_)
      rw [r4, levels_at hs _ _ _ hv]
      constructor
      · rintro (q | ⟨p, hp, b, h1, h2, h3⟩)
        · exact absurd q (not_at_zeros _ _ _ hv)
        · have gp := hg p (by simpa using hp)
          obtain ⟨m, m1, m2, m3, m4⟩ := (stands (fun c hc => (s5 c hc).2.1) (fun c hc => let_ne (gp.let_ c hc).1) gp.ne p.f1 p.f2 p.f3 j v).2 ⟨b, h1.1, h1.2.1, h1.2.2.1, h1.2.2.2, h2, h3⟩
          exact ⟨m, m1, sp p, List.mem_map_of_mem (by simpa using hp), fun q => gp.ne (by have := congrArg List.length q; simp [sp] at this; exact this.2.1), m2, m3, m4⟩
      · rintro ⟨m, m1, q, hq, m2, m3, m4, m5⟩
        obtain ⟨p, hp, rfl⟩ := List.mem_map.1 hq
        have gp := hg p hp
        obtain ⟨b, b1, b2, b3, b4, b5, b6⟩ := (stands (fun c hc => (s5 c hc).2.1) (fun c hc => let_ne (gp.let_ c hc).1) gp.ne p.f1 p.f2 p.f3 j v).1 ⟨m, m1, m3, m4, m5⟩
        exact .inr ⟨p, by simpa using hp, b, ⟨b1, b2, b3, b4⟩, b5, b6⟩
    rw [← er]
    have e1 : wrap64 (((sm l).length : Int) + 1) = (((sm l).length + 1 : Nat) : Int) := by rw [w_in (by omega)]; omega
    have e2 : ∀ k, colophonref21_Set_Levels.j0 (k + 1) ps l (!true) = (colophonref04_Lowers.f k l).bind fun t => if 0 ≤ wrap64 ((t.length : Int) + 1) then (if (wrap64 ((t.length : Int) + 1)).toNat ≤ 35184372088832 then colophonref21_Set_Levels.l0 k ps t (List.replicate (wrap64 ((t.length : Int) + 1)).toNat 0) 0 else none) else none := by
      intro k
      rw [colophonref21_Set_Levels.j0, if_neg (by decide)]
    have h35 : (sm l).length + 1 ≤ 35184372088832 := by omega
    refine Ev.succ e2 (Ev.bind (lowers_ev l s4) (Ev.congr (g := fun k => colophonref21_Set_Levels.l0 k ps (sm l) (List.replicate ((sm l).length + 1) 0) ((0 : Nat) : Int)) (fun k => ?_) r1))
    rw [← s1, e1, if_pos (Int.natCast_nonneg _), Int.toNat_natCast, if_pos h35]
    rfl
theorem plevels_ev (s : Option Cp.HS) (l : List Int) : Ev (fun k => hyphen_Set_Levels.f k s l) (match s with | none => [] | some s => if sm l = [] then [] else Lv.levels s.1 (sm l)) := by
  unfold hyphen_Set_Levels.f
  refine Ev.bind (small_ev l) (Ev.all (fun k => ?_))
  cases s with
  | none => rfl
  | some s =>
    show (if (sm l).length = 0 then some [] else some (Lv.levels s.1 (sm l))) = some (if sm l = [] then [] else Lv.levels s.1 (sm l))
    by_cases h : sm l = []
    · rw [if_pos h, if_pos (by rw [h]; rfl)]
    · rw [if_neg h, if_neg (fun q => h (List.eq_nil_of_length_eq_zero q))]
def odds (lv : List Int) : Nat → Nat → List Int
  | 0, _ => []
  | d + 1, i => if Int.tmod (rd lv (i : Int)) 2 = 1 then (i : Int) :: odds lv d (i + 1) else odds lv d (i + 1)
theorem odds_len (lv : List Int) : ∀ (d i : Nat), (odds lv d i).length ≤ d
  | 0, _ => Nat.le_refl _
  | d + 1, i => by
    have := odds_len lv d (i + 1)
    rw [odds]
    split
    · simp; omega
    · omega
theorem podds (w lv : List Int) (hw : w.length ≤ 64) (hl : lv.length = w.length + 1) : ∀ (d i : Nat) (o : List Int), i + d + 2 = w.length → o.length ≤ i → Ev (fun k => hyphen_Set_Points.l0 k w o lv (i : Int)) (o ++ odds lv d i)
  | 0, i, o, hd, ho => by
    refine Ev.one (fun k => ?_)
    rw [hyphen_Set_Points.l0, if_neg (by omega), odds, List.append_nil]
  | d + 1, i, o, hd, ho => by
    have c1 : (i : Int) ≤ (w.length : Int) - 3 := by omega
    have c2 : (0 : Int) ≤ (i : Int) ∧ (i : Int) < (lv.length : Int) ∧ o.length < 17592186044416 := by omega
    have e : ∀ k, hyphen_Set_Points.l0 (k + 1) w o lv (i : Int) = if Int.tmod (rd lv (i : Int)) 2 = 1 then hyphen_Set_Points.l0 k w (o ++ [(i : Int)]) lv ((i + 1 : Nat) : Int) else hyphen_Set_Points.l0 k w o lv ((i + 1 : Nat) : Int) := by
      intro k
      rw [hyphen_Set_Points.l0, if_pos c1, if_pos c2]
      rfl
    refine Ev.succ e ?_
    rw [odds]
    by_cases h : Int.tmod (rd lv (i : Int)) 2 = 1
    · rw [if_pos h]
      have := podds w lv hw hl d (i + 1) (o ++ [(i : Int)]) (by omega) (by simp; omega)
      exact Ev.congr (fun k => if_pos h) (by simpa using this)
    · rw [if_neg h]
      exact Ev.congr (fun k => if_neg h) (podds w lv hw hl d (i + 1) o (by omega) (by omega))
theorem rodds (w lv : List Int) (hw : w.length ≤ 64) (hl : lv.length = w.length + 1) : ∀ (d i : Nat) (o : List Int), 2 ≤ i → i + d + 2 = w.length → o.length ≤ i → Ev (fun k => colophonref21_Set_Points.l1 k lv w o (i : Int)) (o ++ odds lv d i)
  | 0, i, o, h2, hd, ho => by
    have e0 : wrap64 ((w.length : Int) - 3) = (w.length : Int) - 3 := w_in (by omega)
    refine Ev.one (fun k => ?_)
    rw [colophonref21_Set_Points.l1, e0, if_neg (by omega), odds, List.append_nil]
  | d + 1, i, o, h2, hd, ho => by
    have c1 : (i : Int) ≤ (w.length : Int) - 3 := by omega
    have c2 : (w.length : Int) ≥ 5 := by omega
    have c3 : (0 : Int) ≤ (i : Int) := Int.natCast_nonneg _
    have c4 : (i : Int) < (lv.length : Int) := by omega
    have c5 : o.length < 17592186044416 := by omega
    have q1 : i + 1 + d + 2 = w.length := by omega
    have q2 : (o ++ [(i : Int)]).length ≤ i + 1 := by simp; omega
    have e0 : wrap64 ((w.length : Int) - 3) = (w.length : Int) - 3 := w_in (by omega)
    have e1 : wrap64 ((i : Int) + 1) = ((i + 1 : Nat) : Int) := by rw [w_in (by omega)]; omega
    have e : ∀ k, colophonref21_Set_Points.l1 (k + 1) lv w o (i : Int) = if Int.tmod (rd lv (i : Int)) 2 = 1 then colophonref21_Set_Points.l1 k lv w (o ++ [(i : Int)]) ((i + 1 : Nat) : Int) else colophonref21_Set_Points.l1 k lv w o ((i + 1 : Nat) : Int) := by
      intro k
      rw [colophonref21_Set_Points.l1, e0, if_pos c1, if_pos c2, if_pos c3, if_pos c4, if_pos c5, e1]
    refine Ev.succ e ?_
    rw [odds]
    by_cases h : Int.tmod (rd lv (i : Int)) 2 = 1
    · rw [if_pos h]
      have := rodds w lv hw hl d (i + 1) (o ++ [(i : Int)]) (by omega) q1 q2
      exact Ev.congr (fun k => if_pos h) (by simpa using this)
    · rw [if_neg h]
      exact Ev.congr (fun k => if_neg h) (rodds w lv hw hl d (i + 1) o (by omega) q1 (by omega))
def findE : List S72 → List Int → Option (List Int)
  | [], _ => none
  | e :: r, w => if e.f0 = w then some e.f1 else findE r w
theorem rd72 {ps : List S72} {i : Nat} (h : i < ps.length) : rd_T72 ps (i : Int) = ps[i] := by
  unfold rd_T72
  rw [Int.toNat_natCast, List.getD_eq_getElem?_getD, List.getElem?_eq_getElem h]
  rfl
def GE (e : S72) : Prop := e.f0.length ≤ 64 ∧ e.f1.length ≤ 70000 ∧ e.f0 ≠ [] ∧ ∀ c ∈ e.f0, cls c = 2
theorem rpts_l0 (es : List S72) (hg : ∀ e ∈ es, GE e) (hn : es.length ≤ 1000000) (w lv : List Int) (hw : w.length ≤ 64) (hl : lv.length = w.length + 1) : ∀ (d i : Nat), i + d = es.length →
    Ev (fun k => colophonref21_Set_Points.l0 k es lv w (i : Int)) (match findE (es.drop i) w with | some p => p | none => if w.length < 5 then [] else odds lv (w.length - 4) 2)
  | 0, i, hd => by
    rw [List.drop_eq_nil_of_le (by omega)]
    show Ev _ (if w.length < 5 then [] else odds lv (w.length - 4) 2)
    have e : ∀ k, colophonref21_Set_Points.l0 (k + 1) es lv w (i : Int) = colophonref21_Set_Points.l1 k lv w [] 2 := by
      intro k
      rw [colophonref21_Set_Points.l0, if_neg (by omega)]
    refine Ev.succ e ?_
    by_cases h : w.length < 5
    · rw [if_pos h]
      have c0 : ¬ (2 : Int) ≤ (w.length : Int) - 3 := by omega
      have e0 : wrap64 ((w.length : Int) - 3) = (w.length : Int) - 3 := w_in (by omega)
      exact Ev.one (fun k => by rw [colophonref21_Set_Points.l1, e0, if_neg c0])
    · rw [if_neg h]
      have := rodds w lv hw hl (w.length - 4) 2 [] (Nat.le_refl _) (by omega) (by simp)
      exact this
  | d + 1, i, hd => by
    have hi : i < es.length := by omega
    have c1 : (i : Int) < (es.length : Int) := by omega
    have q1 : i + 1 + d = es.length := by omega
    have ge := hg _ (List.getElem_mem hi)
    have e1 : wrap64 ((i : Int) + 1) = ((i + 1 : Nat) : Int) := by rw [w_in (by omega)]; omega
    rw [List.drop_eq_getElem_cons hi, findE]
    have ih := rpts_l0 es hg hn w lv hw hl d (i + 1) q1
    by_cases hlen : es[i].f0.length = w.length
    · have e : ∀ k, colophonref21_Set_Points.l0 (k + 1) es lv w (i : Int) = (colophonref21_fits.f k w es[i].f0 0).bind fun t => if t = true then (if ([] : List Int).length + es[i].f1.length < 17592186044416 then some (([] : List Int) ++ es[i].f1) else none) else colophonref21_Set_Points.l0 k es lv w ((i + 1 : Nat) : Int) := by
        intro k
        rw [colophonref21_Set_Points.l0, if_pos c1, if_pos (Int.natCast_nonneg _), rd72 hi, if_pos (by omega), e1]
        rfl
      have hf := fits_ev w es[i].f0 0 (by omega) (by omega) (by have := ge.1; omega)
      refine Ev.succ e (Ev.bind (by simpa using hf) ?_)
      by_cases hp : w <+: es[i].f0
      · have he : es[i].f0 = w := (hp.eq_of_length hlen.symm).symm
        rw [decide_eq_true hp, if_pos he]
        refine Ev.all (fun k => ?_)
        rw [if_pos rfl, if_pos (by have := ge.2.1; simp; omega), List.nil_append]
      · have he : ¬ es[i].f0 = w := fun q => hp (by rw [q]; exact List.prefix_rfl)
        rw [decide_eq_false hp, if_neg he]
        exact Ev.congr (fun k => if_neg (by decide)) ih
    · have he : ¬ es[i].f0 = w := fun q => hlen (by rw [q])
      rw [if_neg he]
      refine Ev.succ (fun k => ?_) ih
      rw [colophonref21_Set_Points.l0, if_pos c1, if_pos (Int.natCast_nonneg _), rd72 hi, if_neg (by omega), e1]
def ptsOf (ar : List Trie.PN) (es : List S72) (l : List Int) : List Int :=
  if sm l = [] then [] else match findE es (sm l) with | some p => p | none => if (sm l).length < 5 then [] else odds (Lv.levels ar (sm l)) ((sm l).length - 4) 2
theorem rpoints_ev (ps : List S66) (ar : List Trie.PN) (hs : Says (ps.map sp) ar) (hg : ∀ p ∈ ps, GP p) (hn : ps.length ≤ 1000000) (es : List S72) (hge : ∀ e ∈ es, GE e) (hne : es.length ≤ 1000000) (l : List Int) :
    Ev (fun k => colophonref21_Set_Points.f k es l ps) (ptsOf ar es l) := by
  unfold colophonref21_Set_Points.f ptsOf
  refine Ev.bind (levels_same ps ar hs hg hn l) ?_
  by_cases h : sm l = []
  · rw [if_pos h, if_pos h]
    exact Ev.all (fun k => by rw [if_pos (by simp)])
  · rw [if_neg h, if_neg h]
    have hm : mayB l = true := by
      cases q : mayB l with
      | true => rfl
      | false => exact absurd (not_may q) h
    obtain ⟨s1, s2, s3, s4, s5⟩ := may_sm hm
    have hll := levels_len ar (sm l)
    refine Ev.congr (fun k => if_neg (by rw [hll]; omega)) (Ev.bind (lowers_ev l s4) ?_)
    have := rpts_l0 es hge hne (sm l) (Lv.levels ar (sm l)) (by omega) hll es.length 0 (by omega)
    rw [List.drop_zero] at this
    rw [← s1]
    exact this
def KN (kn : List (ByteArray × List Int)) (es : List S72) : Prop := ∀ w : List Int, (∀ c ∈ w, LawE.valid c) → Trie.kfind kn ⟨(LawE.enc w).toArray⟩ = findE es w
theorem ppoints_ev (ar : List Trie.PN) (kn : List (ByteArray × List Int)) (es : List S72) (hk : KN kn es) (l : List Int) : Ev (fun k => hyphen_Set_Points.f k (some (ar, kn)) l) (ptsOf ar es l) := by
  unfold hyphen_Set_Points.f ptsOf
  refine Ev.bind (small_ev l) ?_
  by_cases h : sm l = []
  · rw [if_pos h]
    refine Ev.all (fun k => ?_)
    show (if (sm l).length = 0 then _ else _) = _
    rw [if_pos (by rw [h]; rfl)]
  · rw [if_neg h]
    have hm : mayB l = true := by
      cases q : mayB l with
      | true => rfl
      | false => exact absurd (not_may q) h
    obtain ⟨s1, s2, s3, s4, s5⟩ := may_sm hm
    have hv : ∀ c ∈ sm l, LawE.valid c := fun c hc => by
      have := s5 c hc
      unfold LawE.valid
      omega
    have henc : Ev (fun k => utf_Encode.f k (sm l)) ((⟨(LawE.enc (sm l)).toArray⟩ : ByteArray), 0) := ⟨100000, fun k hk => by show utf_Encode.f k (sm l) = _; rw [LawE.encode_f _ (by omega) k hk, if_pos hv]⟩
    have hh : ¬ (sm l).length = 0 := fun q => s2 (List.eq_nil_of_length_eq_zero q)
    refine Ev.congr (fun k => if_neg hh) (Ev.bind henc ?_)
    show Ev (fun k => match Trie.kfind kn ⟨(LawE.enc (sm l)).toArray⟩ with | some p => some p | none => _) _
    rw [hk _ hv]
    cases hf : findE es (sm l) with
    | some p => exact Ev.all (fun k => rfl)
    | none =>
      show Ev (fun k => if (sm l).length < 5 then some [] else _) (if (sm l).length < 5 then [] else _)
      by_cases h5 : (sm l).length < 5
      · rw [if_pos h5]
        exact Ev.all (fun k => if_pos h5)
      · rw [if_neg h5]
        have hp := plevels_ev (some (ar, kn)) l
        have e1 : (match (some (ar, kn) : Option Cp.HS) with | none => [] | some s => if sm l = [] then [] else Lv.levels s.1 (sm l)) = Lv.levels ar (sm l) := if_neg h
        rw [e1] at hp
        refine Ev.congr (fun k => if_neg h5) (Ev.bind hp ?_)
        have := podds (sm l) (Lv.levels ar (sm l)) (by omega) (levels_len ar (sm l)) ((sm l).length - 4) 2 [] (by omega) (by simp)
        exact this
end Go.Proofs.YtenhfmlkdcfbbaaDoor.Law21
