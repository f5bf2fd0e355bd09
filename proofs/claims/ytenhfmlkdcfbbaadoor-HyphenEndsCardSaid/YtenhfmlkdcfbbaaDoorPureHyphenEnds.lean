/- The plain law of HyphenEnds: no word is parted near its ends but by an exception, for all texts and words. -/
import Derived.Test.YtenhfmlkdcfbbaaDoorLl
import Derived.Test.YtenhfmlkdcfbbaaDoorHe
namespace Go.Proofs.YtenhfmlkdcfbbaaDoor.Law21
open Go.RowKit Go.Proofs.YtenhfmlkdcfbbaaDoorW.PrintWords Go.Proofs.YtenhfmlkdcfbbaaDoorW.PrintLast Go.Proofs.YtenhfmlkdcfbbaaDoorW.PrintMore Go.Proofs.YtenhfmlkdcfbbaaDoor.PHyphenPoints Go.Proofs.YtenhfmlkdcfbbaaDoor.LawW
set_option linter.unusedVariables false
open LawE (valid enc enc_cons)
theorem odds_spec (lv : List Int) : ∀ (d i : Nat), (∀ x ∈ odds lv d i, (i : Int) ≤ x ∧ x < ((i + d : Nat) : Int) ∧ Int.tmod (rd lv x) 2 = 1) ∧ (odds lv d i).Pairwise (· < ·)
 | 0, i => ⟨fun x hx => (by cases hx), List.Pairwise.nil⟩
 | d + 1, i => by
  obtain ⟨h1, h2⟩ := odds_spec lv d (i + 1)
  rw [odds]
  split
  ·rename_i h
   refine ⟨fun x hx => ?_, List.Pairwise.cons (fun x hx => ?_) h2⟩
   ·rcases List.mem_cons.1 hx with rfl | hx
    ·exact ⟨Int.le_refl _, by omega, h⟩
    ·obtain ⟨a, b, c⟩ := h1 x hx
     exact ⟨by omega, by omega, c⟩
   ·obtain ⟨a, _, _⟩ := h1 x hx
    omega
  ·refine ⟨fun x hx => ?_, h2⟩
   obtain ⟨a, b, c⟩ := h1 x hx
   exact ⟨by omega, by omega, c⟩
theorem pureEnds (a0 a1 : ByteArray) (l2 : List Int) : ∃ k, colophonlaw21_HyphenEnds.f k a0 a1 l2 = some true := by
 obtain ⟨s0, W1, W2, hw⟩ := wakes_ok
 have key : Evp (fun k => EndsOk k a0 a1 l2) := by
  by_cases hs : a0.size ≤ 3000 ∧ a1.size ≤ 3000
  ·obtain ⟨s, t, at_, er, hb⟩ := compile_ev a0 ⟨#[]⟩ (by omega) (by decide)
   have base := hw.and (hb.c.p.and hb.o)
   rcases hb.what with ⟨her, rfl, rfl⟩ | ⟨her, ar, kn, ps, es, rfl, rfl, hg⟩
   ·refine base.mono (fun k hk => ?_)
    obtain ⟨k1, k3, k4⟩ := hk
    exact ⟨⟨s0, W1, W2, k1⟩, fun _ _ => ⟨none, at_, er, k3, k4, fun q => absurd q her⟩⟩
   ·obtain ⟨m, hm⟩ : ∃ m, l2.take 100 = m := ⟨_, rfl⟩
    have hml : m.length ≤ 100 := by rw [← hm, List.length_take]; omega
    obtain ⟨p1, p2, _⟩ := good_points hg m
    obtain ⟨v1, v2, _⟩ := good_levels hg m
    have hes : es = [] := hg.none rfl
    subst hes
    have hq : ∃ q v : List Int, ptsOf ar [] m = q ∧ (if sm m = [] then [] else Lv.levels ar (sm m)) = v ∧ q.length ≤ 1000 ∧
      (∀ i : Nat, i < q.length → 2 ≤ rd q (i : Int) ∧ rd q (i : Int) ≤ (m.length : Int) - 3 ∧ (∀ h : Nat, i = h + 1 → rd q (h : Int) < rd q (i : Int)) ∧ v.length = m.length + 1 ∧ Int.tmod (rd v (rd q (i : Int))) 2 = 1) ∧ (5 ≤ m.length ∨ q.length = 0) := by
     refine ⟨_, _, rfl, rfl, ?_⟩
     have hpt : ptsOf ar [] m = if sm m = [] then [] else if (sm m).length < 5 then [] else odds (Lv.levels ar (sm m)) ((sm m).length - 4) 2 := rfl
     rw [hpt]
     by_cases h0 : sm m = []
     ·rw [if_pos h0]
      exact ⟨by simp, fun i hi => by simp at hi, .inr rfl⟩
     ·rw [if_neg h0, if_neg h0]
      have hmm : mayB m = true := by
       cases q : mayB m with
       | true => rfl
       | false => exact absurd (not_may q) h0
      obtain ⟨_, _, s3, s4, _⟩ := may_sm hmm
      by_cases h5 : (sm m).length < 5
      ·rw [if_pos h5]
       exact ⟨by simp, fun i hi => by simp at hi, .inr rfl⟩
      ·rw [if_neg h5]
       have hol := odds_len (Lv.levels ar (sm m)) ((sm m).length - 4) 2
       obtain ⟨o1, o2⟩ := odds_spec (Lv.levels ar (sm m)) ((sm m).length - 4) 2
       refine ⟨by omega, fun i hi => ?_, .inl (by omega)⟩
       have ei := rd_at hi
       obtain ⟨a, b, c⟩ := o1 _ (List.getElem_mem hi)
       refine ⟨by rw [ei]; omega, by rw [ei]; omega, fun h hih => ?_, by rw [levels_len, s3], by rw [ei]; exact c⟩
       have hh : h < (odds (Lv.levels ar (sm m)) ((sm m).length - 4) 2).length := by omega
       rw [ei, rd_at hh]
       exact List.pairwise_iff_getElem.1 o2 h i hh hi (by omega)
    obtain ⟨q, v, e1, e2, r1, r2, r3⟩ := hq
    rw [e1] at p1
    rw [e2] at v1
    refine (base.and ((p1.p.and p2).and (v1.p.and v2))).mono (fun k hk => ?_)
    obtain ⟨⟨k1, k3, k4⟩, ⟨k5, k6⟩, k7, k8⟩ := hk
    exact ⟨⟨s0, W1, W2, k1⟩, fun _ _ => ⟨some (ar, kn), at_, er, k3, k4, fun _ => ⟨m, q, v, by rw [ints_f, hm], k5, k6, k7, k8, r1, hml, r2, r3⟩⟩⟩
  ·exact hw.mono (fun k hk => ⟨⟨s0, W1, W2, hk⟩, fun h1 h2 => absurd ⟨h1, h2⟩ hs⟩)
 obtain ⟨K, hK⟩ := key
 refine ⟨K, ?_⟩
 unfold colophonlaw21_HyphenEnds.f
 exact if_pos (hK K (Nat.le_refl _))
end Go.Proofs.YtenhfmlkdcfbbaaDoor.Law21
