/- law21, the plain law: the constant check, and what the laws' functions ask. -/
import Derived.Test.YtenhfmlkdcfbbaaDoorLk
import Derived.Test.YtenhfmlkdcfbbaaDoorWk
namespace Go.Proofs.YtenhfmlkdcfbbaaDoor.Law21
open Go.RowKit Go.Proofs.YtenhfmlkdcfbbaaDoorW.PrintWords Go.Proofs.YtenhfmlkdcfbbaaDoorW.PrintLast Go.Proofs.YtenhfmlkdcfbbaaDoorW.PrintMore Go.Proofs.YtenhfmlkdcfbbaaDoor.PHyphenPoints Go.Proofs.YtenhfmlkdcfbbaaDoor.LawW
set_option linter.unusedVariables false
open LawE (valid enc enc_cons)
theorem Ev.mono {α : Type} {f : Nat → Option α} {v : α} {k : Nat} (hm : ∀ k, LeO (f k) (f (k + 1))) (h : f k = some v) : Ev f v := ⟨k, fun k' hk => at_rounds (g := f) hm hk h⟩
theorem rpats_mono (a : List Int) : ∀ (r : List S69) (ps : List S66) (k : Nat), LeO (Rf.pats k a r ps) (Rf.pats (k + 1) a r ps)
  | [], ps, k => LeO.refl _
  | y :: r, ps, k => by
    unfold Rf.pats
    exact LeO.bind (colophonref21_read.mono _ _) (fun t => LeO.ite (rpats_mono a r _ k) (LeO.bind (colophonref21_place.mono _ _ _) (fun _ => LeO.refl _)))
theorem rexcs_mono (a : List Int) : ∀ (r : List S69) (ps : List S72) (k : Nat), LeO (Rf.excs k a r ps) (Rf.excs (k + 1) a r ps)
  | [], ps, k => LeO.refl _
  | y :: r, ps, k => by
    unfold Rf.excs
    exact LeO.bind (colophonref21_except.mono _ _) (fun t => LeO.ite (rexcs_mono a r _ k) (LeO.bind (colophonref21_place.mono _ _ _) (fun _ => LeO.refl _)))
theorem rcompile_mono (p x : ByteArray) (k : Nat) : LeO (colophonref21_Compile.f k p x) (colophonref21_Compile.f (k + 1) p x) := by
  unfold colophonref21_Compile.f
  refine LeO.ite (LeO.refl _) (LeO.bind (colophonref04_Decode.mono _ _) (fun d => LeO.ite (LeO.refl _) (LeO.bind (colophonref04_Decode.mono _ _) (fun e => LeO.ite (LeO.refl _) (LeO.bind (colophonref04_Words.mono _ _) (fun u => LeO.bind (rpats_mono _ _ _ _) (fun q => ?_)))))))
  cases q with
  | inl a => exact LeO.refl _
  | inr ps => exact LeO.bind (colophonref04_Words.mono _ _) (fun v => LeO.bind (rexcs_mono _ _ _ _) (fun q => LeO.refl _))
theorem good_levels {a0 a1 : ByteArray} {ar : List Trie.PN} {kn : List (ByteArray × List Int)} {ps : List S66} {es : List S72} (h : Good a0 a1 ar kn ps es) (l : List Int) :
    Ev (fun k => hyphen_Set_Levels.f k (some (ar, kn)) l) (if sm l = [] then [] else Lv.levels ar (sm l)) ∧ Evp (fun k => hyphen_Set_Levels.OK k (some (ar, kn)) l) ∧
    Ev (fun k => colophonref21_Set_Levels.f k ps l) (if sm l = [] then [] else Lv.levels ar (sm l)) := by
  refine ⟨plevels_ev (some (ar, kn)) l, ?_, levels_same ps ar h.says h.gp (by have := h.np; omega) l⟩
  refine (small_ev l).p.mono (fun k hk w t q1 q2 q3 => ?_)
  rw [hk] at q1
  injection q1 with q1
  injection q2 with q2
  subst q1 q2
  have hm : mayB l = true := by
    cases q : mayB l with
    | true => rfl
    | false => exact absurd (by rw [not_may q]; rfl) q3
  obtain ⟨s1, s2, s3, s4, s5⟩ := may_sm hm
  exact ⟨⟨by omega, fun c hc => wf_small (s5 c hc).2.2, lvs_fit h.says _⟩, h.says.wf.pos⟩
theorem find_ge : ∀ (es : List S72) (w p : List Int), (∀ e ∈ es, GE e) → findE es w = some p → p.length ≤ 70000
  | [], w, p, hg, h => by cases h
  | e :: es, w, p, hg, h => by
    rw [findE] at h
    by_cases q : e.f0 = w
    · rw [if_pos q] at h
      injection h with h
      subst h
      exact (hg e List.mem_cons_self).2.1
    · rw [if_neg q] at h
      exact find_ge es w p (fun x hx => hg x (List.mem_cons_of_mem _ hx)) h
theorem good_points {a0 a1 : ByteArray} {ar : List Trie.PN} {kn : List (ByteArray × List Int)} {ps : List S66} {es : List S72} (h : Good a0 a1 ar kn ps es) (l : List Int) :
    Ev (fun k => hyphen_Set_Points.f k (some (ar, kn)) l) (ptsOf ar es l) ∧ Evp (fun k => hyphen_Set_Points.OK k (some (ar, kn)) l) ∧ Ev (fun k => colophonref21_Set_Points.f k es l ps) (ptsOf ar es l) := by
  refine ⟨ppoints_ev ar kn es h.kn l, ?_, rpoints_ev ps ar h.says h.gp (by have := h.np; omega) es h.ge (by have := h.ne; omega) l⟩
  obtain ⟨_, h2, _⟩ := good_levels h l
  refine (h2.and ((small_ev l).p.and ⟨100000, fun k hk => hk⟩)).mono (fun k hk => ⟨hk.1, fun w t key e q1 q2 q3 => ?_⟩)
  obtain ⟨_, hk1, hk2⟩ := hk
  rw [hk1] at q1
  injection q1 with q1
  injection q2 with q2
  subst q1 q2
  have hlen : (sm l).length ≤ 64 := by
    cases q : mayB l with
    | true => have := may_sm q; omega
    | false => rw [not_may q]; simp
  have hv : ∀ c ∈ sm l, valid c := by
    cases q : mayB l with
    | true =>
      intro c hc
      have := (may_sm q).2.2.2.2 c hc
      unfold valid
      omega
    | false => rw [not_may q]; simp
  rw [LawE.encode_f _ (by omega) k hk2, if_pos hv] at q3
  injection q3 with q3
  injection q3 with q3 _
  subst q3
  refine ⟨hlen, key_size hlen, fun p hp => ?_⟩
  have := find_ge es (sm l) p h.ge (by rw [← hp]; exact (h.kn _ hv).symm)
  omega
theorem same_ev (l : List Int) (hl : l.length ≤ 100000) : Ev (fun k => colophonkeep_Same.f k l l) true := by
  have key : ∀ (d i : Nat), i + d = l.length → Ev (fun k => colophonkeep_Same.l0 k l l (i : Int)) true := by
    intro d
    induction d with
    | zero =>
      intro i hd
      refine Ev.one (fun k => ?_)
      rw [colophonkeep_Same.l0, if_neg (by omega)]
    | succ d ih =>
      intro i hd
      have c1 : (i : Int) < (l.length : Int) := by omega
      have q1 : i + 1 + d = l.length := by omega
      have e1 : wrap64 ((i : Int) + 1) = ((i + 1 : Nat) : Int) := by rw [w_in (by omega)]; omega
      refine Ev.succ (fun k => ?_) (ih (i + 1) q1)
      rw [colophonkeep_Same.l0, if_pos c1, if_pos (Int.natCast_nonneg _), if_pos c1, if_pos rfl, e1]
  have := key l.length 0 (by omega)
  exact Ev.congr (fun k => by unfold colophonkeep_Same.f; rw [if_pos rfl]; rfl) this
theorem ints_f (l : List Int) : colophonkeep_Ints.f l 100 = some (l.take 100) := by
  unfold colophonkeep_Ints.f
  by_cases h : (l.length : Int) > 100
  · rw [if_pos h, if_pos (by omega), if_pos (by omega)]
    simp only [Option.bind_some, List.nil_append, List.length_nil]
    rw [if_pos (by rw [List.length_take]; omega)]
    rfl
  · rw [if_neg h]
    simp only [Option.bind_some, List.nil_append, List.length_nil]
    rw [if_pos (by omega), List.take_of_length_le (by omega)]
def ps0 : List S66 := [⟨[104, 121, 112, 104], false, false, [0, 0, 3, 0, 0]⟩, ⟨[104, 101, 110], false, false, [0, 0, 2, 0]⟩, ⟨[104, 101, 110, 97], false, false, [0, 0, 0, 0, 4]⟩, ⟨[104, 101, 110, 97, 116], false, false, [0, 0, 0, 5, 0, 0]⟩, ⟨[110, 97], false, false, [1, 0, 0]⟩, ⟨[110, 97, 116], false, false, [0, 2, 0, 0]⟩, ⟨[116, 105, 111], false, false, [1, 0, 0, 0]⟩, ⟨[105, 111], false, false, [2, 0, 0]⟩, ⟨[111, 110], false, false, [0, 2, 0]⟩]
def es0 : List S72 := [⟨[116, 97, 98, 108, 101], [2]⟩]
def W1 : List Int := [72, 121, 112, 104, 101, 110, 97, 116, 105, 111, 110]
def W2 : List Int := [84, 65, 66, 76, 69]
theorem ref_wk : colophonref21_Compile.f 400 Wk.eng Wk.tab = some (some (ps0, es0), 0, 0) := by kernel_rfl
theorem word_W1 : colophonlaw21_word.f 400 Wk.hy = some W1 := by kernel_rfl
theorem word_W2 : colophonlaw21_word.f 400 Wk.tb = some W2 := by kernel_rfl
theorem pts_W1 : colophonref21_Set_Points.f 2000 es0 W1 ps0 = some [2, 6] := by kernel_rfl
theorem pts_W2 : colophonref21_Set_Points.f 2000 es0 W2 ps0 = some [2] := by kernel_rfl
theorem nodes_wk : 1 + nodesOf [] (sps ps0) = 19 := by decide +kernel
theorem wakes_ok : ∃ s W1 W2, Evp (fun k => Wk.Ok k s W1 W2) := by
  obtain ⟨s, t, at_, er, hb⟩ := compile_ev Wk.eng Wk.tab (by decide) (by decide)
  have hr : Ev (fun k => colophonref21_Compile.f k Wk.eng Wk.tab) (some (ps0, es0), 0, 0) := Ev.mono (rcompile_mono _ _) ref_wk
  have he := Ev.inj hb.d hr
  injection he with he1 he
  injection he with he2 he3
  subst he1 he2 he3
  rcases hb.what with ⟨q, _⟩ | ⟨_, ar, kn, ps, es, rfl, q, hg⟩
  · exact absurd rfl q
  injection q with q
  injection q with q1 q2
  subst q1 q2
  obtain ⟨p1, p2, p3⟩ := good_points hg W1
  obtain ⟨r1, r2, r3⟩ := good_points hg W2
  have e1 := Ev.inj p3 (Ev.mono (colophonref21_Set_Points.mono _ _ _) pts_W1)
  have e2 := Ev.inj r3 (Ev.mono (colophonref21_Set_Points.mono _ _ _) pts_W2)
  rw [e1] at p1
  rw [e2] at r1
  have hn : ar.length = 19 := by rw [hg.len, nodes_wk]
  have w1 : Ev (fun k => colophonlaw21_word.f k Wk.hy) W1 := Ev.mono (colophonlaw21_word.mono _) word_W1
  have w2 : Ev (fun k => colophonlaw21_word.f k Wk.tb) W2 := Ev.mono (colophonlaw21_word.mono _) word_W2
  have s1 := same_ev [2, 6] (by simp)
  have s2 := same_ev [2] (by simp)
  refine ⟨(ar, kn), W1, W2, ?_⟩
  refine ((((hb.c.p.and hb.o).and (w1.p.and (p1.p.and p2))).and (s1.p.and (w2.p.and (r1.p.and r2)))).and s2.p).mono (fun k hk => ?_)
  obtain ⟨⟨⟨⟨a1, a2⟩, a3, a4, a5⟩, a6, a7, a8, a9⟩, a10⟩ := hk
  exact ⟨a1, a2, a3, a4, a5, a6, a7, a8, a9, a10, hn⟩
end Go.Proofs.YtenhfmlkdcfbbaaDoor.Law21
