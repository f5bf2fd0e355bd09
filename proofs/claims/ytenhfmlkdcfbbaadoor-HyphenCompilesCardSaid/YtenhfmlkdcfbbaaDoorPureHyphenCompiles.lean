/- The plain law of HyphenCompiles: which texts are patterns and exceptions, and how many nodes their trie has, for all texts. -/
import Derived.Test.YtenhfmlkdcfbbaaDoorLl
import Derived.Test.YtenhfmlkdcfbbaaDoorHc
namespace Go.Proofs.YtenhfmlkdcfbbaaDoor.Law21
open Go.RowKit Go.Proofs.YtenhfmlkdcfbbaaDoorW.PrintWords Go.Proofs.YtenhfmlkdcfbbaaDoorW.PrintLast Go.Proofs.YtenhfmlkdcfbbaaDoorW.PrintMore Go.Proofs.YtenhfmlkdcfbbaaDoor.PHyphenPoints Go.Proofs.YtenhfmlkdcfbbaaDoor.LawW
set_option linter.unusedVariables false
open LawE (valid enc enc_cons)
theorem pureCompiles (a0 a1 : ByteArray) (l2 : List Int) : ∃ k, colophonlaw21_HyphenCompiles.f k a0 a1 l2 = some true := by
 obtain ⟨s0, W1, W2, hw⟩ := wakes_ok
 have key : Evp (fun k => CompilesOk k a0 a1) := by
  by_cases hs : a0.size ≤ 3000 ∧ a1.size ≤ 3000
  ·obtain ⟨s, t, at_, er, hb⟩ := compile_ev a0 a1 (by omega) (by omega)
   have hn : Ev (fun k => Rf.nodes k t) (hyphen_Set_Nodes.f s) ∧ (s = none ↔ t = none) := by
    rcases hb.what with ⟨_, rfl, rfl⟩ | ⟨_, ar, kn, ps, es, rfl, rfl, hg⟩
    ·exact ⟨Ev.all fun k => rfl, by simp⟩
    ·exact ⟨good_nodes hg, by simp⟩
   refine (hw.and ((hb.c.p.and hb.o).and ((hb.d.p.and hb.p).and hn.1.p))).mono (fun k hk => ?_)
   obtain ⟨k1, ⟨k2, k3⟩, ⟨k4, k5⟩, k6⟩ := hk
   exact ⟨⟨s0, W1, W2, k1⟩, fun _ _ => ⟨s, t, at_, er, ⟨k2, k3, k4, k5, hn.2⟩, k6⟩⟩
  ·exact hw.mono (fun k hk => ⟨⟨s0, W1, W2, hk⟩, fun h1 h2 => absurd ⟨h1, h2⟩ hs⟩)
 obtain ⟨K, hK⟩ := key
 refine ⟨K, ?_⟩
 unfold colophonlaw21_HyphenCompiles.f
 exact if_pos (hK K (Nat.le_refl _))
end Go.Proofs.YtenhfmlkdcfbbaaDoor.Law21
