/- The plain law of HyphenCase: great letters are as small ones, for all texts and words. -/
import Derived.Test.YtenhfmlkdcfbbaaDoorLl
import Derived.Test.YtenhfmlkdcfbbaaDoorHs
namespace Go.Proofs.YtenhfmlkdcfbbaaDoor.Law21
open Go.RowKit Go.Proofs.YtenhfmlkdcfbbaaDoorW.PrintWords Go.Proofs.YtenhfmlkdcfbbaaDoorW.PrintLast Go.Proofs.YtenhfmlkdcfbbaaDoorW.PrintMore Go.Proofs.YtenhfmlkdcfbbaaDoor.PHyphenPoints Go.Proofs.YtenhfmlkdcfbbaaDoor.LawW
set_option linter.unusedVariables false
open LawE (valid enc enc_cons)
def pr (c : Int) : Bool × Int := (decide (cls c = 2), lowV c)
theorem sm_congr {a b : List Int} (h : a.map pr = b.map pr) : sm a = sm b := by
 have hl : a.length = b.length := by
  have := congrArg List.length h
  simpa using this
 have e1 : ∀ l : List Int, (l.all fun c => decide (cls c = 2)) = (l.map pr).all (·.1) := by
  intro l
  rw [List.all_map]
  rfl
 have e2 : ∀ l : List Int, l.map lowV = (l.map pr).map (·.2) := by
  intro l
  rw [List.map_map]
  rfl
 unfold sm mayB
 rw [e1 a, e1 b, e2 a, e2 b, hl, h]
theorem one_pr (great : List Bool) (mm : List Int) (j : Nat) (hj : j < mm.length) : (Cs.one great mm j).map pr = mm.map pr := by
 unfold Cs.one
 split
 ·rename_i h
  obtain ⟨_, h2, h3⟩ := h
  have he : rd mm (j : Int) = mm[j] := rd_at hj
  obtain ⟨c, hc⟩ : ∃ c, wrap64 (rd mm (j : Int) - 32) = c := ⟨_, rfl⟩
  rw [hc] at h2 h3 ⊢
  have hp : pr c = pr mm[j] := by
   obtain ⟨q1, q2, _⟩ := low_cases c h2
   unfold pr
   rw [← he, ← h3, q2, decide_eq_true h2, decide_eq_true q1]
  refine List.ext_getElem (by simp) (fun i h1 h2 => ?_)
  rw [List.getElem_map, List.getElem_map, List.getElem_set]
  split
  ·rename_i e
   subst e
   exact hp
  ·rfl
 ·rfl
theorem up_pr (great : List Bool) (l : List Int) : ∀ n, n ≤ l.length → (Cs.up great l n).map pr = l.map pr
 | 0, _ => rfl
 | n + 1, h => by
  rw [Cs.up, one_pr great _ n (by rw [Cs.up_len]; omega), up_pr great l n (by omega)]
theorem pureCase (a0 a1 : ByteArray) (l2 : List Int) (great : List Bool) : ∃ k, colophonlaw21_HyphenCase.f k a0 a1 l2 great = some true := by
 obtain ⟨s0, W1, W2, hw⟩ := wakes_ok
 have h5 : Evp (fun k => 5 ≤ k) := ⟨5, fun k hk => hk⟩
 have key : Evp (fun k => CaseOk k a0 a1 l2 great) := by
  by_cases hs : a0.size ≤ 3000 ∧ a1.size ≤ 3000
  ·obtain ⟨s, t, at_, er, hb⟩ := compile_ev a0 a1 (by omega) (by omega)
   have base := (hw.and h5).and (hb.c.p.and hb.o)
   rcases hb.what with ⟨her, rfl, rfl⟩ | ⟨her, ar, kn, ps, es, rfl, rfl, hg⟩
   ·refine base.mono (fun k hk => ?_)
    obtain ⟨⟨k1, k2⟩, k3, k4⟩ := hk
    exact ⟨⟨s0, W1, W2, k1⟩, k2, fun _ _ => ⟨none, at_, er, k3, k4, fun _ => rfl, fun q => absurd q her⟩⟩
   ·obtain ⟨l, hl⟩ : ∃ l, l2.take 100 = l := ⟨_, rfl⟩
    have hll : l.length ≤ 100 := by rw [← hl, List.length_take]; omega
    obtain ⟨m, hm⟩ : ∃ m, Cs.up great l (min l.length great.length) = m := ⟨_, rfl⟩
    have hsm : sm m = sm l := by rw [← hm]; exact sm_congr (up_pr great l _ (Nat.min_le_left _ _))
    have hi2 : colophonkeep_Ints.f l 100 = some l := by rw [ints_f, List.take_of_length_le hll]
    obtain ⟨p1, p2, _⟩ := good_points hg l
    obtain ⟨q1, q2, _⟩ := good_points hg m
    obtain ⟨v1, v2, _⟩ := good_levels hg l
    obtain ⟨z1, z2, _⟩ := good_levels hg m
    have eP : ptsOf ar es m = ptsOf ar es l := by unfold ptsOf; rw [hsm]
    rw [eP] at q1
    rw [hsm] at z1
    have hpl : (ptsOf ar es l).length ≤ 100000 := by
     unfold ptsOf
     by_cases h0 : sm l = []
     ·rw [if_pos h0]
      simp
     ·rw [if_neg h0]
      cases hf : findE es (sm l) with
      | some p => have := find_ge es _ p hg.ge hf; dsimp only; omega
      | none =>
       have hmm : mayB l = true := by
        cases q : mayB l with
        | true => rfl
        | false => exact absurd (not_may q) h0
       obtain ⟨_, _, s3, s4, _⟩ := may_sm hmm
       have := odds_len (Lv.levels ar (sm l)) ((sm l).length - 4) 2
       dsimp only
       split
       ·simp
       ·omega
    have hvl : (if sm l = [] then [] else Lv.levels ar (sm l)).length ≤ 100000 := by
     by_cases h0 : sm l = []
     ·rw [if_pos h0]
      simp
     ·have hmm : mayB l = true := by
       cases q : mayB l with
       | true => rfl
       | false => exact absurd (not_may q) h0
      obtain ⟨_, _, s3, s4, _⟩ := may_sm hmm
      rw [if_neg h0, levels_len]
      omega
    have sP := same_ev _ hpl
    have sV := same_ev _ hvl
    refine ((base.and ((p1.p.and p2).and (q1.p.and q2))).and (((v1.p.and v2).and (z1.p.and z2)).and (sP.p.and sV.p))).mono (fun k hk => ?_)
    obtain ⟨⟨⟨⟨k1, k2⟩, k3, k4⟩, ⟨k5, k6⟩, k7, k8⟩, ⟨⟨k9, k10⟩, k11, k12⟩, k13, k14⟩ := hk
    exact ⟨⟨s0, W1, W2, k1⟩, k2, fun _ _ => ⟨some (ar, kn), at_, er, k3, k4, fun q => absurd her q, fun _ => ⟨l, m, _, _, by rw [ints_f, hl], hi2, hll, hm.symm, k5, k6, k7, k8, k13, k9, k10, k11, k12, k14⟩⟩⟩
  ·exact (hw.and h5).mono (fun k hk => ⟨⟨s0, W1, W2, hk.1⟩, hk.2, fun h1 h2 => absurd ⟨h1, h2⟩ hs⟩)
 obtain ⟨K, hK⟩ := key
 refine ⟨K, ?_⟩
 unfold colophonlaw21_HyphenCase.f
 exact if_pos (hK K (Nat.le_refl _))
end Go.Proofs.YtenhfmlkdcfbbaaDoor.Law21
