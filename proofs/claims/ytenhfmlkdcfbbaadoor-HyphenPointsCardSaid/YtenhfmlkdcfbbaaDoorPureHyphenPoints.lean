/- The plain law of HyphenPoints: where every word may be parted, for all texts and words. -/
import Derived.Test.YtenhfmlkdcfbbaaDoorLl
import Derived.Test.YtenhfmlkdcfbbaaDoorHp
namespace Go.Proofs.YtenhfmlkdcfbbaaDoor.Law21
open Go.RowKit Go.Proofs.YtenhfmlkdcfbbaaDoorW.PrintWords Go.Proofs.YtenhfmlkdcfbbaaDoorW.PrintLast Go.Proofs.YtenhfmlkdcfbbaaDoorW.PrintMore Go.Proofs.YtenhfmlkdcfbbaaDoor.PHyphenPoints Go.Proofs.YtenhfmlkdcfbbaaDoor.LawW
set_option linter.unusedVariables false
open LawE (valid enc enc_cons)
theorem pts_len {a0 a1 : ByteArray} {ar : List Trie.PN} {kn : List (ByteArray × List Int)} {ps : List S66} {es : List S72} (h : Good a0 a1 ar kn ps es) (l : List Int) : (ptsOf ar es l).length ≤ 70000 := by
 unfold ptsOf
 by_cases h0 : sm l = []
 ·rw [if_pos h0]
  simp
 ·rw [if_neg h0]
  cases hf : findE es (sm l) with
  | some p => exact find_ge es _ p h.ge hf
  | none =>
   have hm : mayB l = true := by
    cases q : mayB l with
    | true => rfl
    | false => exact absurd (not_may q) h0
   obtain ⟨_, _, s3, s4, _⟩ := may_sm hm
   have := odds_len (Lv.levels ar (sm l)) ((sm l).length - 4) 2
   dsimp only
   split
   ·simp
   ·omega
theorem purePoints (a0 a1 : ByteArray) (l2 : List Int) : ∃ k, colophonlaw21_HyphenPoints.f k a0 a1 l2 = some true := by
 obtain ⟨s0, W1, W2, hw⟩ := wakes_ok
 have key : Evp (fun k => PointsOk k a0 a1 l2) := by
  by_cases hs : a0.size ≤ 3000 ∧ a1.size ≤ 3000
  ·obtain ⟨s, t, at_, er, hb⟩ := compile_ev a0 a1 (by omega) (by omega)
   have hn : (s = none ↔ t = none) ∧ ∃ q : List Int, q.length ≤ 70000 ∧ Ev (fun k => hyphen_Set_Points.f k s (l2.take 100)) q ∧ Evp (fun k => hyphen_Set_Points.OK k s (l2.take 100)) ∧ Ev (fun k => Rf.points k t (l2.take 100)) q := by
    rcases hb.what with ⟨_, rfl, rfl⟩ | ⟨_, ar, kn, ps, es, rfl, rfl, hg⟩
    ·refine ⟨by simp, [], by simp, ?_, ⟨0, fun k _ => ⟨fun w t _ q2 => (by cases q2), fun w t key e _ q2 => (by cases q2)⟩⟩, Ev.all fun k => rfl⟩
     unfold hyphen_Set_Points.f
     exact Ev.bind (small_ev _) (Ev.all fun k => rfl)
    ·obtain ⟨g1, g2, g3⟩ := good_points hg (l2.take 100)
     exact ⟨by simp, _, pts_len hg _, g1, g2, g3⟩
   obtain ⟨hn, q, q0, q1, q2, q3⟩ := hn
   have hsq := same_ev q (by omega)
   refine (hw.and (((hb.c.p.and hb.o).and (hb.d.p.and hb.p)).and ((q1.p.and q2).and (q3.p.and hsq.p)))).mono (fun k hk => ?_)
   obtain ⟨k1, ⟨⟨k2, k3⟩, k4, k5⟩, ⟨k6, k7⟩, k8, k9⟩ := hk
   exact ⟨⟨s0, W1, W2, k1⟩, fun _ _ => ⟨s, t, at_, er, l2.take 100, q, ⟨k2, k3, k4, k5, hn⟩, ints_f l2, k6, k7, k8, k9, by omega⟩⟩
  ·exact hw.mono (fun k hk => ⟨⟨s0, W1, W2, hk⟩, fun h1 h2 => absurd ⟨h1, h2⟩ hs⟩)
 obtain ⟨K, hK⟩ := key
 refine ⟨K, ?_⟩
 unfold colophonlaw21_HyphenPoints.f
 exact if_pos (hK K (Nat.le_refl _))
end Go.Proofs.YtenhfmlkdcfbbaaDoor.Law21
