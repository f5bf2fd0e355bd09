/- law21: HyphenMore's own function (7), walked; what its calls tell is asked as one premise. -/
import Derived.Test.YtenhfmlkdcfbbaaDoorHc
import Derived.Test.YtenhfmlkdcfbbaaDoorLev
import Derived.Test.YtenhfmlkdcfbbaaDoorPHyphenPointsx9
namespace Go.Proofs.YtenhfmlkdcfbbaaDoor.PHyphenPoints
open Go.RowKit Go.Proofs.YtenhfmlkdcfbbaaDoorW.PrintWords Go.Proofs.YtenhfmlkdcfbbaaDoorW.PrintLast Go.Proofs.YtenhfmlkdcfbbaaDoorW.PrintMore
attribute [local go_sem] max2_int min2_int max_two min_two max_three min_three max_four min_four
set_option linter.unusedVariables false
set_option linter.unusedSimpArgs false
structure MoreOk (k : Nat) (a0 a1 b0 : ByteArray) (l2 : List Int) : Prop where
 wk : ∃ s W1 W2, Wk.Ok k s W1 W2
 two : a0.size ≤ 3000 → a1.size ≤ 3000 → b0.size ≤ 3000 → ∃ s at_ er s' at' er', hyphen_Compile.f k a0 a1 = some (s, at_, er) ∧ hyphen_Compile.OK k a0 a1 ∧ hyphen_Compile.f k (a0 ++ ⟨#[32]⟩ ++ b0) a1 = some (s', at', er') ∧ hyphen_Compile.OK k (a0 ++ ⟨#[32]⟩ ++ b0) a1 ∧
  (er ≠ 0 → s = none) ∧ (er' ≠ 0 → s' = none) ∧ (er = 0 → er' = 0 → ∃ m p q, colophonkeep_Ints.f l2 100 = some m ∧ hyphen_Set_Levels.f k s m = some p ∧ hyphen_Set_Levels.OK k s m ∧ hyphen_Set_Levels.f k s' m = some q ∧ hyphen_Set_Levels.OK k s' m ∧
   p.length = q.length ∧ hyphen_Set_Nodes.f s ≤ hyphen_Set_Nodes.f s' ∧ p.length ≤ 1000 ∧ ∀ i : Nat, i < p.length → rd p (i : Int) ≤ rd q (i : Int))
noncomputable def colophonlaw21_HyphenMore.f (k : Nat) (a0 a1 : ByteArray) (l2 : List Int) (b0 : ByteArray) : Option Bool := @ite _ (MoreOk k a0 a1 b0 l2) (Classical.propDecidable _) (some true) none
set_option maxHeartbeats 4000000 in
set_option maxRecDepth 100000 in
theorem colophonlaw21_HyphenMore.calls (k : Nat) (a0 a1 : ByteArray) (A2 : Option Addr) (c2 : Nat) (l2 : List Int) (b0 : ByteArray) (r : Bool) (w : World) (hLW : Lw w) (hr2 : Kd.C (Kd.int .i64) w A2 l2.length l2) (hc2 : l2.length ≤ c2) (h : colophonlaw21_HyphenMore.f k a0 a1 l2 b0 = some r) :
  Calls Tryd.prog 7 #[.agg #[.string a0, .string a1, .slice A2 l2.length c2], .string b0] w fun e w' => e = .returned (.bool r) ∧ Below w.heap.size w w' := by
 unfold colophonlaw21_HyphenMore.f at h
 by_cases hok : MoreOk k a0 a1 b0 l2
 rotate_left
 ·rw [if_neg hok] at h
  exact absurd h (by simp)
 rw [if_pos hok] at h
 obtain rfl := Option.some.inj h
 obtain ⟨⟨s0, W1, W2, hwk⟩, htwo⟩ := hok
 have hu24 := Tryd.underlying24
 have HLW := Aside0.mk hLW
 have HR2 := Aside0.mk hr2
 have HC2 := Aside0.mk hc2
 have HWK := Aside0.mk hwk
 have HTW := Aside0.mk htwo
 clear hLW hr2 hc2 hwk htwo h
 by_cases hlong : colophonlaw21_long.f a0 a1 l2 = some true
 ·have HLG := Aside0.mk hlong
  clear hlong
  go_enter Tryd.func7, Tryd.ntmps7
  go_upto_region 1 with (first | ((with_reducible refine gate_dst (N := 2) rfl ?_); (try (refine gate_guard (by rfl) ?_; dsimp only)); refine box_event ?hg (N := 2) ?hd (cs := #[.string a0, .string a1, .slice A2 l2.length c2]) (t := 24) ?hr ?_; (case hd => rfl); (case hg => rfl); (case hr => first | (go_simp; done) | (go_simp; rfl)); intro gb hg w3 hbox hb; have BK := Aside0.mk hbox; have HB := Aside0.mk hb; have m_ := Aside0.mk (HLW.out.below hb); clear HLW; have HLW := m_; clear m_ hg hbox hb))
  have hc0 := (blk_cell BK.out 0).trans rfl; have hc1 := (blk_cell BK.out 1).trans rfl; have hc2 := (blk_cell BK.out 2).trans rfl
  go_wp2_with (first
   | ((with_reducible refine gate_callee (f := 9) rfl ?_); refine goesL_ (some 15) rfl rfl Tryd.func9 (by kernel_rfl) rfl #[.agg #[.string a0, .string a1, .slice A2 l2.length c2]] rfl (by (try simp only [List.map_toArray, List.map_cons, List.map_nil]); first | done | rfl) ?_; (with_reducible refine (colophonlaw21_long.calls a0 a1 A2 c2 l2 _ _ (Kd.C_below HR2.out HB.out) HC2.out HLG.out).mono ?_); rintro e w4 ⟨rfl, hb⟩; refine ⟨_, rfl, ?_⟩; clear hc0 hc1 hc2; have m0_ := Aside0.mk (blk_below BK.out hb); have m1_ := Aside0.mk (below_step HB.out hb); have m2_ := Aside0.mk (HLW.out.below hb); clear BK HB HLW hb ; have BK := m0_; have HB := m1_; have HLW := m2_; clear m0_ m1_ m2_ ; have hc0 := (blk_cell BK.out 0).trans rfl; have hc1 := (blk_cell BK.out 1).trans rfl; have hc2 := (blk_cell BK.out 2).trans rfl)
   | ((with_reducible refine gate_callee (f := 10) rfl ?_); refine goesL_ (some 21) rfl rfl Tryd.func10 (by kernel_rfl) rfl #[] rfl (by (try simp only [List.map_toArray, List.map_cons, List.map_nil]); first | done | rfl) ?_; (with_reducible refine (colophonlaw21_wakes.calls k s0 W1 W2 _ HLW.out HWK.out).mono ?_); rintro e w9 ⟨rfl, hb⟩; refine ⟨_, rfl, ?_⟩; have m_ := Aside0.mk (below_step HB.out hb); clear HB; have HB := m_; clear m_ hb))
  go_ret
  exact ⟨rfl, HB.out⟩
 have hs0 : a0.size ≤ 3000 ∧ a1.size ≤ 3000 ∧ colophonlaw21_long.f a0 a1 l2 = some false := by
  unfold colophonlaw21_long.f at hlong ⊢
  by_cases q : (a0.size : Int) > 3000
  ·exact absurd (by rw [if_pos q]) hlong
  ·rw [if_neg q] at hlong ⊢
   by_cases q2 : (a1.size : Int) > 3000
   ·exact absurd (by rw [decide_eq_true q2]) hlong
   ·exact ⟨by omega, by omega, by rw [decide_eq_false q2]⟩
 have HLG := Aside0.mk hs0.2.2
 by_cases hb0 : b0.size ≤ 3000
 rotate_left
 ·have k1 : decide ((3000 : Int) < (b0.size : Int)) = true := decide_eq_true (by omega)
  have k2 : decide (3000 < b0.size) = true := decide_eq_true (by omega)
  clear hlong hs0 hb0
  go_enter Tryd.func7, Tryd.ntmps7
  go_upto_region 1 with (first | ((with_reducible refine gate_dst (N := 2) rfl ?_); (try (refine gate_guard (by rfl) ?_; dsimp only)); refine box_event ?hg (N := 2) ?hd (cs := #[.string a0, .string a1, .slice A2 l2.length c2]) (t := 24) ?hr ?_; (case hd => rfl); (case hg => rfl); (case hr => first | (go_simp; done) | (go_simp; rfl)); intro gb hg w3 hbox hb; have BK := Aside0.mk hbox; have HB := Aside0.mk hb; have m_ := Aside0.mk (HLW.out.below hb); clear HLW; have HLW := m_; clear m_ hg hbox hb))
  have hc0 := (blk_cell BK.out 0).trans rfl; have hc1 := (blk_cell BK.out 1).trans rfl; have hc2 := (blk_cell BK.out 2).trans rfl
  go_wp2_with (first
   | ((with_reducible refine gate_callee (f := 9) rfl ?_); refine goesL_ (some 15) rfl rfl Tryd.func9 (by kernel_rfl) rfl #[.agg #[.string a0, .string a1, .slice A2 l2.length c2]] rfl (by (try simp only [List.map_toArray, List.map_cons, List.map_nil]); first | done | rfl) ?_; (with_reducible refine (colophonlaw21_long.calls a0 a1 A2 c2 l2 _ _ (Kd.C_below HR2.out HB.out) HC2.out HLG.out).mono ?_); rintro e w4 ⟨rfl, hb⟩; refine ⟨_, rfl, ?_⟩; clear hc0 hc1 hc2; have m0_ := Aside0.mk (blk_below BK.out hb); have m1_ := Aside0.mk (below_step HB.out hb); have m2_ := Aside0.mk (HLW.out.below hb); clear BK HB HLW hb ; have BK := m0_; have HB := m1_; have HLW := m2_; clear m0_ m1_ m2_ ; have hc0 := (blk_cell BK.out 0).trans rfl; have hc1 := (blk_cell BK.out 1).trans rfl; have hc2 := (blk_cell BK.out 2).trans rfl)
   | ((with_reducible refine gate_callee (f := 10) rfl ?_); refine goesL_ (some 21) rfl rfl Tryd.func10 (by kernel_rfl) rfl #[] rfl (by (try simp only [List.map_toArray, List.map_cons, List.map_nil]); first | done | rfl) ?_; (with_reducible refine (colophonlaw21_wakes.calls k s0 W1 W2 _ HLW.out HWK.out).mono ?_); rintro e w9 ⟨rfl, hb⟩; refine ⟨_, rfl, ?_⟩; have m_ := Aside0.mk (below_step HB.out hb); clear HB; have HB := m_; clear m_ hb))
  go_ret
  exact ⟨rfl, HB.out⟩
 have k1 : decide ((3000 : Int) < (b0.size : Int)) = false := decide_eq_false (by omega)
 have k2 : decide (3000 < b0.size) = false := decide_eq_false (by omega)
 obtain ⟨s, at_, er, s', at', er', hc, ho, hc', ho', hn, hn', hq⟩ := HTW.out hs0.1 hs0.2.1 hb0
 have HC := Aside0.mk hc
 have HO := Aside0.mk ho
 have HC' := Aside0.mk hc'
 have HO' := Aside0.mk ho'
 have HN := Aside0.mk hn
 have HN' := Aside0.mk hn'
 have HQQ := Aside0.mk hq
 have ksz : (9223372036854775807 < a0.size + 1 + b0.size) = False := eq_false (by omega)
 have ksz0 : (9223372036854775807 < a0.size + 1) = False := eq_false (by omega)
 clear hlong hs0 hc ho hc' ho' hn hn' hq HTW hb0
 go_enter Tryd.func7, Tryd.ntmps7
 go_upto_region 1 with (first | ((with_reducible refine gate_dst (N := 2) rfl ?_); (try (refine gate_guard (by rfl) ?_; dsimp only)); refine box_event ?hg (N := 2) ?hd (cs := #[.string a0, .string a1, .slice A2 l2.length c2]) (t := 24) ?hr ?_; (case hd => rfl); (case hg => rfl); (case hr => first | (go_simp; done) | (go_simp; rfl)); intro gb hg w3 hbox hb; have BK := Aside0.mk hbox; have HB := Aside0.mk hb; have m_ := Aside0.mk (HLW.out.below hb); clear HLW; have HLW := m_; clear m_ hg hbox hb))
 have hc0 := (blk_cell BK.out 0).trans rfl; have hc1 := (blk_cell BK.out 1).trans rfl; have hc2 := (blk_cell BK.out 2).trans rfl
 go_upto_region 4 with (first
  | ((with_reducible refine gate_callee (f := 9) rfl ?_); refine goesL_ (some 15) rfl rfl Tryd.func9 (by kernel_rfl) rfl #[.agg #[.string a0, .string a1, .slice A2 l2.length c2]] rfl (by (try simp only [List.map_toArray, List.map_cons, List.map_nil]); first | done | rfl) ?_; (with_reducible refine (colophonlaw21_long.calls a0 a1 A2 c2 l2 _ _ (Kd.C_below HR2.out HB.out) HC2.out HLG.out).mono ?_); rintro e w4 ⟨rfl, hb⟩; refine ⟨_, rfl, ?_⟩; clear hc0 hc1 hc2; have m0_ := Aside0.mk (blk_below BK.out hb); have m1_ := Aside0.mk (below_step HB.out hb); have m2_ := Aside0.mk (HLW.out.below hb); clear BK HB HLW hb ; have BK := m0_; have HB := m1_; have HLW := m2_; clear m0_ m1_ m2_ ; have hc0 := (blk_cell BK.out 0).trans rfl; have hc1 := (blk_cell BK.out 1).trans rfl; have hc2 := (blk_cell BK.out 2).trans rfl)
  | ((with_reducible refine gate_callee (f := 11) rfl ?_); refine goesL_ (some 27) rfl rfl Tryd.func11 (by kernel_rfl) rfl #[.string a0, .string a1] rfl (by (try simp only [List.map_toArray, List.map_cons, List.map_nil]); first | done | rfl) ?_; (with_reducible refine (hyphen_Compile.calls k a0 a1 s at_ er _ HLW.out HC.out HO.out).mono ?_); rintro e w5 ⟨v, rfl, hS, hb⟩; refine ⟨_, rfl, ?_⟩; have HBSZ := Aside0.mk hb.size; clear hc0 hc1 hc2; have m0_ := Aside0.mk (blk_below BK.out hb); have m1_ := Aside0.mk (below_step HB.out hb); have m2_ := Aside0.mk (HLW.out.below hb); have m_HS := Aside0.mk (hS); clear BK HB HLW hb ; have BK := m0_; have HB := m1_; have HLW := m2_; have HS := m_HS; clear m0_ m1_ m2_ m_HS; clear hS; have hc0 := (blk_cell BK.out 0).trans rfl; have hc1 := (blk_cell BK.out 1).trans rfl; have hc2 := (blk_cell BK.out 2).trans rfl))
 go_upto_region 5 with (first
  | ((with_reducible refine gate_callee (f := 11) rfl ?_); refine goesL_ (some 39) rfl rfl Tryd.func11 (by kernel_rfl) rfl #[.string (a0 ++ ⟨#[32]⟩ ++ b0), .string a1] rfl (by (try simp only [List.map_toArray, List.map_cons, List.map_nil]); first | done | rfl) ?_; (with_reducible refine (hyphen_Compile.calls k (a0 ++ ⟨#[32]⟩ ++ b0) a1 s' at' er' _ HLW.out HC'.out HO'.out).mono ?_); rintro e w6 ⟨v', rfl, hS, hb⟩; refine ⟨_, rfl, ?_⟩; have HBSZ2 := Aside0.mk hb.size; have mz_ := Aside0.mk (Nat.le_trans HBSZ.out hb.size); clear HBSZ; have HBSZ := mz_; clear mz_; clear hc0 hc1 hc2; have m0_ := Aside0.mk (blk_below BK.out hb); have m1_ := Aside0.mk (below_step HB.out hb); have m2_ := Aside0.mk (HLW.out.below hb); have m_HS := Aside0.mk (HS.out.below hb); have m_HS2 := Aside0.mk (hS); clear BK HB HLW hb HS; have BK := m0_; have HB := m1_; have HLW := m2_; have HS := m_HS; have HS2 := m_HS2; clear m0_ m1_ m2_ m_HS m_HS2; clear hS; have hc0 := (blk_cell BK.out 0).trans rfl; have hc1 := (blk_cell BK.out 1).trans rfl; have hc2 := (blk_cell BK.out 2).trans rfl))
 by_cases he : er = 0
 ·by_cases he' : er' = 0
  ·subst he he'
   obtain ⟨m, p, q, hi, hp, hpo, hq, hqo, hpq, hnn, hpl, hle⟩ := HQQ.out rfl rfl
   have HI := Aside0.mk hi
   have HQ := Aside0.mk hp
   have HQO := Aside0.mk hpo
   have HQ2 := Aside0.mk hq
   have HQO2 := Aside0.mk hqo
   have HPQ := Aside0.mk hpq
   have HNN := Aside0.mk hnn
   have HPL := Aside0.mk hpl
   have HLE := Aside0.mk hle
   clear hi hp hpo hq hqo hpq hnn hpl hle HQQ
   clear hc0 hc1
   go_upto_region 7 with (fail)
   go_cut [11, 12] (fun v11 v12 wc => ∃ (Ap : Option Addr) (cp : Nat) (Aq : Option Addr) (cq : Nat), v11 = .slice Ap p.length cp ∧ v12 = .slice Aq q.length cq ∧ Aside0 (Kd.R (Kd.int .i64) 3 wc w6.heap.size (fun _ => True) (.slice Ap p.length cp) p) ∧ Aside0 (Kd.R (Kd.int .i64) 3 wc w6.heap.size (fun _ => True) (.slice Aq q.length cq) q) ∧ Aside0 (Below w6.heap.size w6 wc))
   case first =>
    have HX := Aside0.mk (below_drew (Below.refl w6.heap.size w6))
    go_region_held3 (fun w' => w'.cell? ⟨gb, 2, none⟩ = some (.slice A2 l2.length c2)) (simp [*]) (first
     | ((with_reducible refine (hyphen_Set_Levels.calls k _ v s A69 c69 m p _ (HS.out.below HX.out) (Kd.R_reads' F69.out).2.2 (Kd.R_reads' F69.out).2.1 HQ.out HQO.out).mono ?_); rintro e y70 ⟨v70, rfl, ho, hb⟩; have hz_ := (show Below w6.heap.size w6 _ from HX.out).size; have n_ := Aside0.mk (below_step (show Below w6.heap.size w6 _ from HX.out) hb); clear HX hc2; have HX := n_; clear n_; (try (have n_ := Aside0.mk (Kd.R_below F69.out hb); clear F69; have F69 := n_; clear n_)); (try (have n_ := Aside0.mk (Kd.R_below F70.out hb); clear F70; have F70 := n_; clear n_)); (try (have n_ := Aside0.mk (Kd.R_below F74.out hb); clear F74; have F74 := n_; clear n_)); (try (have n_ := Aside0.mk (Kd.R_below F75.out hb); clear F75; have F75 := n_; clear n_)); have F70 := Aside0.mk ho; have HX70 := Aside0.mk hz_; clear ho hz_; obtain ⟨A70, c70, rfl⟩ := Kd.R_slice F70.out; clear hb; have hc2 := (blk_cell (blk_below BK.out HX.out) 2).trans rfl)
     | ((with_reducible refine (hyphen_Set_Levels.calls k _ v' s' A74 c74 m q _ (HS2.out.below HX.out) (Kd.R_reads' F74.out).2.2 (Kd.R_reads' F74.out).2.1 HQ2.out HQO2.out).mono ?_); rintro e y75 ⟨v75, rfl, ho, hb⟩; have hz_ := (show Below w6.heap.size w6 _ from HX.out).size; have n_ := Aside0.mk (below_step (show Below w6.heap.size w6 _ from HX.out) hb); clear HX hc2; have HX := n_; clear n_; (try (have n_ := Aside0.mk (Kd.R_below F69.out hb); clear F69; have F69 := n_; clear n_)); (try (have n_ := Aside0.mk (Kd.R_below F70.out hb); clear F70; have F70 := n_; clear n_)); (try (have n_ := Aside0.mk (Kd.R_below F74.out hb); clear F74; have F74 := n_; clear n_)); (try (have n_ := Aside0.mk (Kd.R_below F75.out hb); clear F75; have F75 := n_; clear n_)); have F75 := Aside0.mk ho; have HX75 := Aside0.mk hz_; clear ho hz_; obtain ⟨A75, c75, rfl⟩ := Kd.R_slice F75.out; clear hb; have hc2 := (blk_cell (blk_below BK.out HX.out) 2).trans rfl)
     | ((with_reducible refine (hyphen_Set_Levels.calls k _ v s A74 c74 m p _ (HS.out.below HX.out) (Kd.R_reads' F74.out).2.2 (Kd.R_reads' F74.out).2.1 HQ.out HQO.out).mono ?_); rintro e y70 ⟨v70, rfl, ho, hb⟩; have hz_ := (show Below w6.heap.size w6 _ from HX.out).size; have n_ := Aside0.mk (below_step (show Below w6.heap.size w6 _ from HX.out) hb); clear HX hc2; have HX := n_; clear n_; (try (have n_ := Aside0.mk (Kd.R_below F69.out hb); clear F69; have F69 := n_; clear n_)); (try (have n_ := Aside0.mk (Kd.R_below F70.out hb); clear F70; have F70 := n_; clear n_)); (try (have n_ := Aside0.mk (Kd.R_below F74.out hb); clear F74; have F74 := n_; clear n_)); (try (have n_ := Aside0.mk (Kd.R_below F75.out hb); clear F75; have F75 := n_; clear n_)); have F70 := Aside0.mk ho; have HX70 := Aside0.mk hz_; clear ho hz_; obtain ⟨A70, c70, rfl⟩ := Kd.R_slice F70.out; clear hb; have hc2 := (blk_cell (blk_below BK.out HX.out) 2).trans rfl)
     | ((with_reducible refine (hyphen_Set_Levels.calls k _ v' s' A69 c69 m q _ (HS2.out.below HX.out) (Kd.R_reads' F69.out).2.2 (Kd.R_reads' F69.out).2.1 HQ2.out HQO2.out).mono ?_); rintro e y75 ⟨v75, rfl, ho, hb⟩; have hz_ := (show Below w6.heap.size w6 _ from HX.out).size; have n_ := Aside0.mk (below_step (show Below w6.heap.size w6 _ from HX.out) hb); clear HX hc2; have HX := n_; clear n_; (try (have n_ := Aside0.mk (Kd.R_below F69.out hb); clear F69; have F69 := n_; clear n_)); (try (have n_ := Aside0.mk (Kd.R_below F70.out hb); clear F70; have F70 := n_; clear n_)); (try (have n_ := Aside0.mk (Kd.R_below F74.out hb); clear F74; have F74 := n_; clear n_)); (try (have n_ := Aside0.mk (Kd.R_below F75.out hb); clear F75; have F75 := n_; clear n_)); have F75 := Aside0.mk ho; have HX75 := Aside0.mk hz_; clear ho hz_; obtain ⟨A75, c75, rfl⟩ := Kd.R_slice F75.out; clear hb; have hc2 := (blk_cell (blk_below BK.out HX.out) 2).trans rfl)
     | (have mk_ := F69; clear mk_; ((with_reducible refine (colophonkeep_Ints.calls A2 c2 l2 100 m _ (Kd.C_below (Kd.C_below HR2.out HB.out) HX.out) HC2.out HI.out).mono ?_); rintro e z74 ⟨v74, rfl, ho, hb⟩; have n_ := Aside0.mk (below_step (show Below w6.heap.size w6 _ from HX.out) hb); clear HX hc2; have HX := n_; clear n_; (try (have n_ := Aside0.mk (Kd.R_below F69.out hb); clear F69; have F69 := n_; clear n_)); (try (have n_ := Aside0.mk (Kd.R_below F70.out hb); clear F70; have F70 := n_; clear n_)); (try (have n_ := Aside0.mk (Kd.R_below F74.out hb); clear F74; have F74 := n_; clear n_)); (try (have n_ := Aside0.mk (Kd.R_below F75.out hb); clear F75; have F75 := n_; clear n_)); have F74 := Aside0.mk ho; clear ho; obtain ⟨A74, c74, rfl⟩ := Kd.R_slice F74.out; clear hb; have hc2 := (blk_cell (blk_below BK.out HX.out) 2).trans rfl))
     | ((with_reducible refine (colophonkeep_Ints.calls A2 c2 l2 100 m _ (Kd.C_below (Kd.C_below HR2.out HB.out) HX.out) HC2.out HI.out).mono ?_); rintro e z69 ⟨v69, rfl, ho, hb⟩; have n_ := Aside0.mk (below_step (show Below w6.heap.size w6 _ from HX.out) hb); clear HX hc2; have HX := n_; clear n_; (try (have n_ := Aside0.mk (Kd.R_below F69.out hb); clear F69; have F69 := n_; clear n_)); (try (have n_ := Aside0.mk (Kd.R_below F70.out hb); clear F70; have F70 := n_; clear n_)); (try (have n_ := Aside0.mk (Kd.R_below F74.out hb); clear F74; have F74 := n_; clear n_)); (try (have n_ := Aside0.mk (Kd.R_below F75.out hb); clear F75; have F75 := n_; clear n_)); have F69 := Aside0.mk ho; clear ho; obtain ⟨A69, c69, rfl⟩ := Kd.R_slice F69.out; clear hb; have hc2 := (blk_cell (blk_below BK.out HX.out) 2).trans rfl))
    all_goals (go_wp2; go_meet; exact ⟨_, _, _, _, rfl, rfl, ⟨Kd.R_lower F70.out HX70.out⟩, ⟨Kd.R_lower F75.out HX75.out⟩, HX⟩)
   case rest =>
    obtain ⟨Ap, cp, Aq, cq, rfl, rfl, RP, RQ, HX⟩ := hcut
    have kpq : ((p.length : Int) != (q.length : Int)) = false := by rw [HPQ.out]; simp
    have kpq2 : decide ((p.length : Int) = (q.length : Int)) = true := decide_eq_true (by rw [HPQ.out])
    have kpq3 : (p.length = q.length) = True := eq_true HPQ.out
    have knn : decide (hyphen_Set_Nodes.f s' < hyphen_Set_Nodes.f s) = false := decide_eq_false (by have := HNN.out; omega)
    have HPQ2 := HPQ.out
    go_upto_region 10 with (first
     | ((with_reducible refine gate_callee (f := 13) rfl ?_); (try (refine gate_guard (by rfl) ?_; dsimp only)); refine goesL_ (some 83) rfl rfl Tryd.func13 (by kernel_rfl) rfl #[v] rfl (by (try simp only [List.map_toArray, List.map_cons, List.map_nil]); first | done | rfl) ?_; (with_reducible refine (hyphen_Set_Nodes.calls _ v s _ (HS.out.below HX.out)).mono ?_); rintro e y83 ⟨rfl, hw⟩; refine ⟨_, rfl, ?_⟩; rw [hw]; clear hw)
     | ((with_reducible refine gate_callee (f := 13) rfl ?_); (try (refine gate_guard (by rfl) ?_; dsimp only)); refine goesL_ (some 85) rfl rfl Tryd.func13 (by kernel_rfl) rfl #[v'] rfl (by (try simp only [List.map_toArray, List.map_cons, List.map_nil]); first | done | rfl) ?_; (with_reducible refine (hyphen_Set_Nodes.calls _ v' s' _ (HS2.out.below HX.out)).mono ?_); rintro e y85 ⟨rfl, hw⟩; refine ⟨_, rfl, ?_⟩; rw [hw]; clear hw))
    go_wp2
    clear kpq kpq2 kpq3 knn
    go_loopw [13] (fun v13 wr => ∃ j : Nat, v13 = .int .i64 (j : Int) ∧ j ≤ p.length ∧ Aside0 (Below wc.heap.size wc wr))
     (fun v13 _ => p.length - (intOf v13).toNat)
    case atStart => exact ⟨0, rfl, Nat.zero_le _, ⟨by first | exact Below.refl _ _ | exact below_drew (Below.refl _ _)⟩⟩
    case round =>
     obtain ⟨j, rfl, hj, HBr⟩ := hrel
     have HPL2 := HPL.out
     by_cases hlt : j < p.length
     ·have kc1 : decide ((j : Int) < (p.length : Int)) = true := decide_eq_true (by omega)
      have kc2 : decide (j < p.length) = true := decide_eq_true hlt
      have kc3 : ((0 : Int) ≤ (j : Int)) = True := eq_true (by omega)
      have kc4 : ((j : Int) < (p.length : Int)) = True := eq_true (by omega)
      have kc5 : ((j : Int) < (q.length : Int)) = True := eq_true (by omega)
      have kc6 : IntKind.i64.wrap ((j : Int) + 1) = (j : Int) + 1 := by rw [IntKind.wrap_i64]; omega
      have kle : decide (rd q (j : Int) < rd p (j : Int)) = false := decide_eq_false (by have := HLE.out j hlt; omega)
      obtain ⟨gp, csp, ep, _, _, ecp, erp⟩ := Trie.row (Kd.R_below RP.out HBr.out) (by omega)
      obtain ⟨gq, csq, eq_, _, _, ecq, erq⟩ := Trie.row (Kd.R_below RQ.out HBr.out) (by omega)
      subst ep eq_
      have hcp : wr.cell? ⟨gp, j, none⟩ = some (.int .i64 (rd p (j : Int))) := (blk_cell ecp j).trans (erp j hlt)
      have hcq : wr.cell? ⟨gq, j, none⟩ = some (.int .i64 (rd q (j : Int))) := (blk_cell ecq j).trans (erq j (by omega))
      clear ecp ecq erp erq
      go_upto_region 13 with (fail)
      go_region_held3 (fun w' => w'.cell? ⟨gp, j, none⟩ = some (.int .i64 (rd p (j : Int))) ∧ w'.cell? ⟨gq, j, none⟩ = some (.int .i64 (rd q (j : Int)))) (simp [*]) (fail)
      go_wp2
      go_roundw
      case rel => exact ⟨j + 1, by simp, by omega, ⟨below_drew HBr.out⟩⟩
      case measure => (try simp [intOf]); omega
     ·have kc1 : decide ((j : Int) < (p.length : Int)) = false := decide_eq_false (by omega)
      have kc2 : decide (j < p.length) = false := decide_eq_false hlt
      have HXr := Aside0.mk (below_step HX.out HBr.out)
      go_wp2_with (first | ((with_reducible refine gate_callee (f := 10) rfl ?_); refine goesL_ (some 103) rfl rfl Tryd.func10 (by kernel_rfl) rfl #[] rfl (by (try simp only [List.map_toArray, List.map_cons, List.map_nil]); first | done | rfl) ?_; (with_reducible refine (colophonlaw21_wakes.calls k s0 W1 W2 _ (HLW.out.below HXr.out) HWK.out).mono ?_); rintro e w14 ⟨rfl, hb⟩; refine ⟨_, rfl, ?_⟩; have HBE := Aside0.mk (below_step (below_step HB.out HXr.out) hb); clear hb))
      go_ret
      exact ⟨by first | rfl | simp [*], HBE.out⟩
  ·have hv' : v' = .pointer none := by have := HS2.out; rw [HN'.out he'] at this; exact this
   subst he hv'
   have b2 : (er' != 0) = true := bne_iff_ne.mpr he'
   have b3 : (er' == 0) = false := beq_eq_false_iff_ne.mpr he'
   have b4 : decide (er' = 0) = false := decide_eq_false he'
   clear he'
   go_wp2_with (first | ((with_reducible refine gate_callee (f := 10) rfl ?_); (try (refine gate_guard (by rfl) ?_; dsimp only)); refine goesL_ (some 64) rfl rfl Tryd.func10 (by kernel_rfl) rfl #[] rfl (by (try simp only [List.map_toArray, List.map_cons, List.map_nil]); first | done | rfl) ?_; (with_reducible refine (colophonlaw21_wakes.calls k s0 W1 W2 _ HLW.out HWK.out).mono ?_); rintro e w14 ⟨rfl, hb⟩; refine ⟨_, rfl, ?_⟩; have HBE := Aside0.mk (below_step HB.out hb); clear hb))
   go_ret
   exact ⟨by simp [*], HBE.out⟩
 ·have hv : v = .pointer none := by have := HS.out; rw [HN.out he] at this; exact this
  subst hv
  have a2 : (er != 0) = true := bne_iff_ne.mpr he
  have a3 : (er == 0) = false := beq_eq_false_iff_ne.mpr he
  have a4 : decide (er = 0) = false := decide_eq_false he
  clear he
  by_cases he' : er' = 0
  ·subst he'
   go_wp2_with (first | ((with_reducible refine gate_callee (f := 10) rfl ?_); (try (refine gate_guard (by rfl) ?_; dsimp only)); refine goesL_ (some 64) rfl rfl Tryd.func10 (by kernel_rfl) rfl #[] rfl (by (try simp only [List.map_toArray, List.map_cons, List.map_nil]); first | done | rfl) ?_; (with_reducible refine (colophonlaw21_wakes.calls k s0 W1 W2 _ HLW.out HWK.out).mono ?_); rintro e w14 ⟨rfl, hb⟩; refine ⟨_, rfl, ?_⟩; have HBE := Aside0.mk (below_step HB.out hb); clear hb))
   go_ret
   exact ⟨by simp [*], HBE.out⟩
  ·have hv' : v' = .pointer none := by have := HS2.out; rw [HN'.out he'] at this; exact this
   subst hv'
   have b2 : (er' != 0) = true := bne_iff_ne.mpr he'
   have b3 : (er' == 0) = false := beq_eq_false_iff_ne.mpr he'
   have b4 : decide (er' = 0) = false := decide_eq_false he'
   clear he'
   go_wp2_with (first | ((with_reducible refine gate_callee (f := 10) rfl ?_); (try (refine gate_guard (by rfl) ?_; dsimp only)); refine goesL_ (some 64) rfl rfl Tryd.func10 (by kernel_rfl) rfl #[] rfl (by (try simp only [List.map_toArray, List.map_cons, List.map_nil]); first | done | rfl) ?_; (with_reducible refine (colophonlaw21_wakes.calls k s0 W1 W2 _ HLW.out HWK.out).mono ?_); rintro e w14 ⟨rfl, hb⟩; refine ⟨_, rfl, ?_⟩; have HBE := Aside0.mk (below_step HB.out hb); clear hb))
   go_ret
   exact ⟨by simp [*], HBE.out⟩
end Go.Proofs.YtenhfmlkdcfbbaaDoor.PHyphenPoints
