/- The plain law of HyphenLevels: the levels of every word, pattern by pattern, for all texts and words. -/
import Derived.Test.YtenhfmlkdcfbbaaDoorLl
import Derived.Test.YtenhfmlkdcfbbaaDoorHl
namespace Go.Proofs.YtenhfmlkdcfbbaaDoor.Law21
open Go.RowKit Go.Proofs.YtenhfmlkdcfbbaaDoorW.PrintWords Go.Proofs.YtenhfmlkdcfbbaaDoorW.PrintLast Go.Proofs.YtenhfmlkdcfbbaaDoorW.PrintMore Go.Proofs.YtenhfmlkdcfbbaaDoor.PHyphenPoints Go.Proofs.YtenhfmlkdcfbbaaDoor.LawW
set_option linter.unusedVariables false
open LawE (valid enc enc_cons)
theorem pureLevels (a0 a1 : ByteArray) (l2 : List Int) : ∃ k, colophonlaw21_HyphenLevels.f k a0 a1 l2 = some true := by
 obtain ⟨s0, W1, W2, hw⟩ := wakes_ok
 have key : Evp (fun k => LevelsOk k a0 a1 l2) := by
  by_cases hs : a0.size ≤ 3000 ∧ a1.size ≤ 3000
  ·obtain ⟨s, t, at_, er, hb⟩ := compile_ev a0 a1 (by omega) (by omega)
   have hn : (s = none ↔ t = none) ∧ ∃ q : List Int, q.length ≤ 1000 ∧ Ev (fun k => hyphen_Set_Levels.f k s (l2.take 100)) q ∧ Evp (fun k => hyphen_Set_Levels.OK k s (l2.take 100)) ∧ Ev (fun k => Rf.levels k t (l2.take 100)) q := by
    rcases hb.what with ⟨_, rfl, rfl⟩ | ⟨_, ar, kn, ps, es, rfl, rfl, hg⟩
    ·exact ⟨by simp, [], by simp, plevels_ev none _, ⟨0, fun k _ w t _ q2 => by cases q2⟩, Ev.all fun k => rfl⟩
    ·obtain ⟨g1, g2, g3⟩ := good_levels hg (l2.take 100)
     refine ⟨by simp, _, ?_, g1, g2, g3⟩
     by_cases h0 : sm (l2.take 100) = []
     ·rw [if_pos h0]
      simp
     ·have hm : mayB (l2.take 100) = true := by
       cases q : mayB (l2.take 100) with
       | true => rfl
       | false => exact absurd (not_may q) h0
      obtain ⟨_, _, s3, s4, _⟩ := may_sm hm
      rw [if_neg h0, levels_len]
      omega
   obtain ⟨hn, q, q0, q1, q2, q3⟩ := hn
   have hsq := same_ev q (by omega)
   have hsm := same_ev (l2.take 100) (by rw [List.length_take]; omega)
   refine (hw.and (((hb.c.p.and hb.o).and (hb.d.p.and hb.p)).and ((q1.p.and q2).and (q3.p.and (hsq.p.and hsm.p))))).mono (fun k hk => ?_)
   obtain ⟨k1, ⟨⟨k2, k3⟩, k4, k5⟩, ⟨k6, k7⟩, k8, k9, k10⟩ := hk
   exact ⟨⟨s0, W1, W2, k1⟩, fun _ _ => ⟨s, t, at_, er, l2.take 100, q, ⟨k2, k3, k4, k5, hn⟩, ints_f l2, k6, k7, k8, k9, k10⟩⟩
  ·exact hw.mono (fun k hk => ⟨⟨s0, W1, W2, hk⟩, fun h1 h2 => absurd ⟨h1, h2⟩ hs⟩)
 obtain ⟨K, hK⟩ := key
 refine ⟨K, ?_⟩
 unfold colophonlaw21_HyphenLevels.f
 exact if_pos (hK K (Nat.le_refl _))
end Go.Proofs.YtenhfmlkdcfbbaaDoor.Law21
