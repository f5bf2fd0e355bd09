/- The plain law of HyphenMore: with more patterns no level is less, for all texts and words. -/
import Derived.Test.YtenhfmlkdcfbbaaDoorLl
import Derived.Test.YtenhfmlkdcfbbaaDoorHm
namespace Go.Proofs.YtenhfmlkdcfbbaaDoor.Law21
open Go.RowKit Go.Proofs.YtenhfmlkdcfbbaaDoorW.PrintWords Go.Proofs.YtenhfmlkdcfbbaaDoorW.PrintLast Go.Proofs.YtenhfmlkdcfbbaaDoorW.PrintMore Go.Proofs.YtenhfmlkdcfbbaaDoor.PHyphenPoints Go.Proofs.YtenhfmlkdcfbbaaDoor.LawW
set_option linter.unusedVariables false
open LawE (valid enc enc_cons)
theorem nodesOf_append : ∀ (R S Q : List (List Int)), nodesOf Q (R ++ S) = nodesOf Q R + nodesOf (Q ++ R) S
 | [], S, Q => by simp [nodesOf]
 | a :: R, S, Q => by
  rw [List.cons_append, nodesOf, nodesOf, nodesOf_append R S]
  simp [Nat.add_assoc]
theorem mapM_app {α β : Type} (f : α → Option β) : ∀ (a b : List α) (r : List β), (a ++ b).mapM f = some r → ∃ x y, a.mapM f = some x ∧ b.mapM f = some y ∧ r = x ++ y
 | [], b, r, h => ⟨[], r, rfl, h, rfl⟩
 | c :: a, b, r, h => by
  rw [List.cons_append, List.mapM_cons] at h
  cases hc : f c with
  | none =>
   rw [hc] at h
   cases h
  | some d =>
   rw [hc] at h
   cases hm : (a ++ b).mapM f with
   | none =>
    rw [hm] at h
    cases h
   | some q =>
    rw [hm] at h
    have h' : some (d :: q) = some r := h
    injection h' with h'
    obtain ⟨x, y, e1, e2, e3⟩ := mapM_app f a b q hm
    exact ⟨d :: x, y, by rw [List.mapM_cons, hc, e1]; rfl, e2, by rw [← h', e3]; rfl⟩
theorem enc_one : enc [32] = [32] := by decide +kernel
theorem pureMore (a0 a1 : ByteArray) (l2 : List Int) (b0 : ByteArray) : ∃ k, colophonlaw21_HyphenMore.f k a0 a1 l2 b0 = some true := by
 obtain ⟨s0, W1, W2, hw⟩ := wakes_ok
 have key : Evp (fun k => MoreOk k a0 a1 b0 l2) := by
  by_cases hs : a0.size ≤ 3000 ∧ a1.size ≤ 3000 ∧ b0.size ≤ 3000
  ·have hz : (a0 ++ ⟨#[32]⟩ ++ b0).size ≤ 6100 := by
    rw [ByteArray.size_append, ByteArray.size_append]
    have : (⟨#[32]⟩ : ByteArray).size = 1 := rfl
    omega
   obtain ⟨s, t, at_, er, hb⟩ := compile_ev a0 a1 (by omega) (by omega)
   obtain ⟨s', t', at', er', hb'⟩ := compile_ev (a0 ++ ⟨#[32]⟩ ++ b0) a1 hz (by omega)
   have base := hw.and ((hb.c.p.and hb.o).and (hb'.c.p.and hb'.o))
   have hn : er ≠ 0 → s = none := by
    intro q
    rcases hb.what with ⟨_, e, _⟩ | ⟨e, _⟩
    ·exact e
    ·exact absurd e q
   have hn' : er' ≠ 0 → s' = none := by
    intro q
    rcases hb'.what with ⟨_, e, _⟩ | ⟨e, _⟩
    ·exact e
    ·exact absurd e q
   by_cases hboth : er = 0 ∧ er' = 0
   ·rcases hb.what with ⟨e, _⟩ | ⟨_, ar, kn, ps, es, rfl, rfl, hg⟩
    ·exact absurd hboth.1 e
    rcases hb'.what with ⟨e, _⟩ | ⟨_, ar', kn', ps', es', rfl, rfl, hg'⟩
    ·exact absurd hboth.2 e
    obtain ⟨l, hl⟩ : ∃ l, l2.take 100 = l := ⟨_, rfl⟩
    obtain ⟨v1, v2, _⟩ := good_levels hg l
    obtain ⟨z1, z2, _⟩ := good_levels hg' l
    have hps : ∃ qs, ps' = ps ++ qs := by
     obtain ⟨m, m1, m2, m3⟩ := hg.text
     obtain ⟨M, M1, M2, M3⟩ := hg'.text
     have hd : (a0 ++ ⟨#[32]⟩ ++ b0).data.toList = enc m ++ ([32] ++ b0.data.toList) := by
      rw [← m2]
      simp
     rw [M2] at hd
     have h32 : ∀ c ∈ m ++ [32], valid c := by
      intro c hc
      rcases List.mem_append.1 hc with hc | hc
      ·exact m1 c hc
      ·rw [List.mem_singleton] at hc
       unfold valid
       omega
     obtain ⟨M', e1, e2⟩ := enc_prefix (m ++ [32]) M b0.data.toList h32 M1 (by rw [enc_append, enc_one, List.append_assoc]; exact hd)
     rw [e1, List.append_assoc] at M3
     have e3 : split (m ++ ([32] ++ M')) [] = split m [] ++ split M' [] := split_append M' m []
     rw [e3] at M3
     obtain ⟨x, y, f1, f2, f3⟩ := mapM_app parse _ _ _ M3
     rw [m3] at f1
     injection f1 with f1
     exact ⟨y, by rw [f3, f1]⟩
    obtain ⟨qs, hqs⟩ := hps
    have hnodes : (ar.length : Int) ≤ (ar'.length : Int) := by
     have e1 := hg.len
     have e2 := hg'.len
     have e3 : sps ps' = sps ps ++ sps qs := by rw [hqs]; simp [sps]
     rw [e3, nodesOf_append] at e2
     omega
    have hlev : ∃ p q : List Int, (if sm l = [] then [] else Lv.levels ar (sm l)) = p ∧ (if sm l = [] then [] else Lv.levels ar' (sm l)) = q ∧ p.length = q.length ∧ p.length ≤ 1000 ∧ ∀ i : Nat, i < p.length → rd p (i : Int) ≤ rd q (i : Int) := by
     refine ⟨_, _, rfl, rfl, ?_⟩
     by_cases h0 : sm l = []
     ·rw [if_pos h0, if_pos h0]
      exact ⟨rfl, by simp, fun i hi => by simp at hi⟩
     ·rw [if_neg h0, if_neg h0, levels_len, levels_len]
      have hmm : mayB l = true := by
       cases q : mayB l with
       | true => rfl
       | false => exact absurd (not_may q) h0
      obtain ⟨_, _, s3, s4, _⟩ := may_sm hmm
      refine ⟨rfl, by omega, fun i hi => ?_⟩
      by_cases hp : 0 < rd (Lv.levels ar (sm l)) (i : Int)
      ·obtain ⟨mm, h1, p, h2, h3, h4, h5, h6⟩ := (levels_at hg.says (sm l) i _ hp).1 ⟨by rw [levels_len]; exact hi, Int.le_refl _⟩
       exact ((levels_at hg'.says (sm l) i _ hp).2 ⟨mm, h1, p, by rw [hqs, List.map_append]; exact List.mem_append_left _ h2, h3, h4, h5, h6⟩).2
      ·have := plevels_nn hg'.says (sm l) i
       omega
    obtain ⟨p, q, e1, e2, r1, r2, r3⟩ := hlev
    rw [e1] at v1
    rw [e2] at z1
    refine (base.and ((v1.p.and v2).and (z1.p.and z2))).mono (fun k hk => ?_)
    obtain ⟨⟨k1, ⟨k2, k3⟩, k4, k5⟩, ⟨k6, k7⟩, k8, k9⟩ := hk
    exact ⟨⟨s0, W1, W2, k1⟩, fun _ _ _ => ⟨_, _, _, _, _, _, k2, k3, k4, k5, hn, hn', fun _ _ => ⟨l, p, q, by rw [ints_f, hl], k6, k7, k8, k9, r1, hnodes, r2, r3⟩⟩⟩
   ·refine base.mono (fun k hk => ?_)
    obtain ⟨k1, ⟨k2, k3⟩, k4, k5⟩ := hk
    exact ⟨⟨s0, W1, W2, k1⟩, fun _ _ _ => ⟨_, _, _, _, _, _, k2, k3, k4, k5, hn, hn', fun q1 q2 => absurd ⟨q1, q2⟩ hboth⟩⟩
  ·exact hw.mono (fun k hk => ⟨⟨s0, W1, W2, hk⟩, fun h1 h2 h3 => absurd ⟨h1, h2, h3⟩ hs⟩)
 obtain ⟨K, hK⟩ := key
 refine ⟨K, ?_⟩
 unfold colophonlaw21_HyphenMore.f
 exact if_pos (hK K (Nat.le_refl _))
end Go.Proofs.YtenhfmlkdcfbbaaDoor.Law21
