/- law21: HyphenLevels' own function (4), walked; what its calls tell is asked as one premise. -/
import Derived.Test.YtenhfmlkdcfbbaaDoorHc
import Derived.Test.YtenhfmlkdcfbbaaDoorLev
import Derived.Test.YtenhfmlkdcfbbaaDoorPHyphenPointsx9
namespace Go.Proofs.YtenhfmlkdcfbbaaDoor.PHyphenPoints
open Go.RowKit Go.Proofs.YtenhfmlkdcfbbaaDoorW.PrintWords Go.Proofs.YtenhfmlkdcfbbaaDoorW.PrintLast Go.Proofs.YtenhfmlkdcfbbaaDoorW.PrintMore
attribute [local go_sem] max2_int min2_int max_two min_two max_three min_three max_four min_four
set_option linter.unusedVariables false
set_option linter.unusedSimpArgs false
structure LevelsOk (k : Nat) (a0 a1 : ByteArray) (l2 : List Int) : Prop where
 wk : ∃ s W1 W2, Wk.Ok k s W1 W2
 two : a0.size ≤ 3000 → a1.size ≤ 3000 → ∃ s t at_ er m q, Two k a0 a1 s t at_ er ∧ colophonkeep_Ints.f l2 100 = some m ∧ hyphen_Set_Levels.f k s m = some q ∧ hyphen_Set_Levels.OK k s m ∧ Rf.levels k t m = some q ∧ colophonkeep_Same.f k q q = some true ∧ colophonkeep_Same.f k m m = some true
noncomputable def colophonlaw21_HyphenLevels.f (k : Nat) (a0 a1 : ByteArray) (l2 : List Int) : Option Bool := @ite _ (LevelsOk k a0 a1 l2) (Classical.propDecidable _) (some true) none
set_option maxHeartbeats 4000000 in
set_option maxRecDepth 100000 in
theorem colophonlaw21_HyphenLevels.calls (k : Nat) (a0 a1 : ByteArray) (A2 : Option Addr) (c2 : Nat) (l2 : List Int) (r : Bool) (w : World) (hLW : Lw w) (hr2 : Kd.C (Kd.int .i64) w A2 l2.length l2) (hc2 : l2.length ≤ c2) (h : colophonlaw21_HyphenLevels.f k a0 a1 l2 = some r) :
  Calls Tryd.prog 4 #[.agg #[.string a0, .string a1, .slice A2 l2.length c2]] w fun e w' => e = .returned (.bool r) ∧ Below w.heap.size w w' := by
 unfold colophonlaw21_HyphenLevels.f at h
 by_cases hok : LevelsOk k a0 a1 l2
 rotate_left
 ·rw [if_neg hok] at h
  exact absurd h (by simp)
 rw [if_pos hok] at h
 obtain rfl := Option.some.inj h
 obtain ⟨⟨s0, W1, W2, hwk⟩, htwo⟩ := hok
 have hu24 := Tryd.underlying24
 have HLW := Aside0.mk hLW
 have HR2 := Aside0.mk hr2
 have HC2 := Aside0.mk hc2
 have HWK := Aside0.mk hwk
 have HTW := Aside0.mk htwo
 clear hLW hr2 hc2 hwk htwo h
 by_cases hlong : colophonlaw21_long.f a0 a1 l2 = some true
 ·have HLG := Aside0.mk hlong
  clear hlong
  go_enter Tryd.func4, Tryd.ntmps4
  go_upto_region 1 with (first | ((with_reducible refine gate_dst (N := 1) rfl ?_); (try (refine gate_guard (by rfl) ?_; dsimp only)); refine box_event ?hg (N := 1) ?hd (cs := #[.string a0, .string a1, .slice A2 l2.length c2]) (t := 24) ?hr ?_; (case hd => rfl); (case hg => rfl); (case hr => first | (go_simp; done) | (go_simp; rfl)); intro gb hg w3 hbox hb; have BK := Aside0.mk hbox; have HB := Aside0.mk hb; have m_ := Aside0.mk (HLW.out.below hb); clear HLW; have HLW := m_; clear m_ hg hbox hb))
  have hc0 := (blk_cell BK.out 0).trans rfl; have hc1 := (blk_cell BK.out 1).trans rfl; have hc2 := (blk_cell BK.out 2).trans rfl
  go_wp2_with (first
   |((with_reducible refine gate_callee (f := 9) rfl ?_); refine goesL_ (some 11) rfl rfl Tryd.func9 (by kernel_rfl) rfl #[.agg #[.string a0, .string a1, .slice A2 l2.length c2]] rfl (by (try simp only [List.map_toArray, List.map_cons, List.map_nil]); first | done | rfl) ?_; (with_reducible refine (colophonlaw21_long.calls a0 a1 A2 c2 l2 _ _ (Kd.C_below HR2.out HB.out) HC2.out HLG.out).mono ?_); rintro e w4 ⟨rfl, hb⟩; refine ⟨_, rfl, ?_⟩; clear hc0 hc1 hc2; have m0_ := Aside0.mk (blk_below BK.out hb); have m1_ := Aside0.mk (below_step HB.out hb); have m2_ := Aside0.mk (HLW.out.below hb); clear BK HB HLW hb ; have BK := m0_; have HB := m1_; have HLW := m2_; clear m0_ m1_ m2_ ; have hc0 := (blk_cell BK.out 0).trans rfl; have hc1 := (blk_cell BK.out 1).trans rfl; have hc2 := (blk_cell BK.out 2).trans rfl)
   |((with_reducible refine gate_callee (f := 10) rfl ?_); refine goesL_ (some 12) rfl rfl Tryd.func10 (by kernel_rfl) rfl #[] rfl (by (try simp only [List.map_toArray, List.map_cons, List.map_nil]); first | done | rfl) ?_; (with_reducible refine (colophonlaw21_wakes.calls k s0 W1 W2 _ HLW.out HWK.out).mono ?_); rintro e w9 ⟨rfl, hb⟩; refine ⟨_, rfl, ?_⟩; have m_ := Aside0.mk (below_step HB.out hb); clear HB; have HB := m_; clear m_ hb))
  go_ret
  exact ⟨rfl, HB.out⟩
 ·have hs0 : a0.size ≤ 3000 ∧ a1.size ≤ 3000 ∧ colophonlaw21_long.f a0 a1 l2 = some false := by
   unfold colophonlaw21_long.f at hlong ⊢
   by_cases q : (a0.size : Int) > 3000
   ·exact absurd (by rw [if_pos q]) hlong
   ·rw [if_neg q] at hlong ⊢
    by_cases q2 : (a1.size : Int) > 3000
    ·exact absurd (by rw [decide_eq_true q2]) hlong
    ·exact ⟨by omega, by omega, by rw [decide_eq_false q2]⟩
  have HLG := Aside0.mk hs0.2.2
  obtain ⟨s, t, at_, er, m, q, ⟨hc, ho, hd, hp, hnil⟩, hi, hq, hqo, hrq, hsq, hsm⟩ := HTW.out hs0.1 hs0.2.1
  have HC := Aside0.mk hc
  have HO := Aside0.mk ho
  have HD := Aside0.mk hd
  have HP := Aside0.mk hp
  have HI := Aside0.mk hi
  have HQ := Aside0.mk hq
  have HQO := Aside0.mk hqo
  have HRQ := Aside0.mk hrq
  have HSQ := Aside0.mk hsq
  have HSM := Aside0.mk hsm
  clear hlong hs0 hc ho hd hp hi hq hqo hrq hsq hsm HTW hnil
  go_enter Tryd.func4, Tryd.ntmps4
  go_upto_region 1 with (first | ((with_reducible refine gate_dst (N := 1) rfl ?_); (try (refine gate_guard (by rfl) ?_; dsimp only)); refine box_event ?hg (N := 1) ?hd (cs := #[.string a0, .string a1, .slice A2 l2.length c2]) (t := 24) ?hr ?_; (case hd => rfl); (case hg => rfl); (case hr => first | (go_simp; done) | (go_simp; rfl)); intro gb hg w3 hbox hb; have BK := Aside0.mk hbox; have HB := Aside0.mk hb; have m_ := Aside0.mk (HLW.out.below hb); clear HLW; have HLW := m_; clear m_ hg hbox hb))
  have hc0 := (blk_cell BK.out 0).trans rfl; have hc1 := (blk_cell BK.out 1).trans rfl; have hc2 := (blk_cell BK.out 2).trans rfl
  go_upto_region 4 with (first
   |((with_reducible refine gate_callee (f := 9) rfl ?_); refine goesL_ (some 11) rfl rfl Tryd.func9 (by kernel_rfl) rfl #[.agg #[.string a0, .string a1, .slice A2 l2.length c2]] rfl (by (try simp only [List.map_toArray, List.map_cons, List.map_nil]); first | done | rfl) ?_; (with_reducible refine (colophonlaw21_long.calls a0 a1 A2 c2 l2 _ _ (Kd.C_below HR2.out HB.out) HC2.out HLG.out).mono ?_); rintro e w4 ⟨rfl, hb⟩; refine ⟨_, rfl, ?_⟩; clear hc0 hc1 hc2; have m0_ := Aside0.mk (blk_below BK.out hb); have m1_ := Aside0.mk (below_step HB.out hb); have m2_ := Aside0.mk (HLW.out.below hb); clear BK HB HLW hb ; have BK := m0_; have HB := m1_; have HLW := m2_; clear m0_ m1_ m2_ ; have hc0 := (blk_cell BK.out 0).trans rfl; have hc1 := (blk_cell BK.out 1).trans rfl; have hc2 := (blk_cell BK.out 2).trans rfl)
   |((with_reducible refine gate_callee (f := 11) rfl ?_); refine goesL_ (some 18) rfl rfl Tryd.func11 (by kernel_rfl) rfl #[.string a0, .string a1] rfl (by (try simp only [List.map_toArray, List.map_cons, List.map_nil]); first | done | rfl) ?_; (with_reducible refine (hyphen_Compile.calls k a0 a1 s at_ er _ HLW.out HC.out HO.out).mono ?_); rintro e w5 ⟨v, rfl, hS, hb⟩; refine ⟨_, rfl, ?_⟩; have HBSZ := Aside0.mk hb.size; clear hc0 hc1 hc2; have m0_ := Aside0.mk (blk_below BK.out hb); have m1_ := Aside0.mk (below_step HB.out hb); have m2_ := Aside0.mk (HLW.out.below hb); have m_HS := Aside0.mk (hS); clear BK HB HLW hb ; have BK := m0_; have HB := m1_; have HLW := m2_; have HS := m_HS; clear m0_ m1_ m2_ m_HS; clear hS; have hc0 := (blk_cell BK.out 0).trans rfl; have hc1 := (blk_cell BK.out 1).trans rfl; have hc2 := (blk_cell BK.out 2).trans rfl))
  go_upto_region 6 with (first
   |((with_reducible refine gate_callee (f := 12) rfl ?_); refine goesL_ (some 27) rfl rfl Tryd.func12 (by kernel_rfl) rfl #[.string a0, .string a1] rfl (by (try simp only [List.map_toArray, List.map_cons, List.map_nil]); first | done | rfl) ?_; (with_reducible refine (colophonref21_Compile.calls k a0 a1 t at_ er _ HD.out HP.out).mono ?_); rintro e w6 ⟨u, rfl, hT, hb⟩; refine ⟨_, rfl, ?_⟩; have mz_ := Aside0.mk (Nat.le_trans HBSZ.out hb.size); clear HBSZ; have HBSZ := mz_; clear mz_; clear hc0 hc1 hc2; have m0_ := Aside0.mk (blk_below BK.out hb); have m1_ := Aside0.mk (below_step HB.out hb); have m2_ := Aside0.mk (HLW.out.below hb); have m_HS := Aside0.mk (HS.out.below hb); have m_HT := Aside0.mk (hT); clear BK HB HLW hb HS; have BK := m0_; have HB := m1_; have HLW := m2_; have HS := m_HS; have HT := m_HT; clear m0_ m1_ m2_ m_HS m_HT; clear hT; have hc0 := (blk_cell BK.out 0).trans rfl; have hc1 := (blk_cell BK.out 1).trans rfl; have hc2 := (blk_cell BK.out 2).trans rfl)
   |((with_reducible refine gate_callee (f := 15) rfl ?_); refine goesL_ (some 33) rfl rfl Tryd.func15 (by kernel_rfl) rfl #[.slice A2 l2.length c2, .int .i64 100] rfl (by (try simp only [List.map_toArray, List.map_cons, List.map_nil]); first | done | rfl) ?_; (with_reducible refine (colophonkeep_Ints.calls A2 c2 l2 100 m _ (Kd.C_below HR2.out HB.out) HC2.out HI.out).mono ?_); rintro e w7 ⟨v9, rfl, ho, hb⟩; refine ⟨_, rfl, ?_⟩; have mz_ := Aside0.mk (Nat.le_trans HBSZ.out hb.size); clear HBSZ; have HBSZ := mz_; clear mz_; clear hc0 hc1 hc2; have m0_ := Aside0.mk (blk_below BK.out hb); have m1_ := Aside0.mk (below_step HB.out hb); have m2_ := Aside0.mk (HLW.out.below hb); have m_HS := Aside0.mk (HS.out.below hb); have m_HT := Aside0.mk (HT.out.below hb); have m_HM := Aside0.mk (ho); clear BK HB HLW hb HS HT; have BK := m0_; have HB := m1_; have HLW := m2_; have HS := m_HS; have HT := m_HT; have HM := m_HM; clear m0_ m1_ m2_ m_HS m_HT m_HM; clear ho; obtain ⟨Am, cm, rfl⟩ := Kd.R_slice HM.out))
  have HBS := HBSZ
  clear HBSZ
  have HX := Aside0.mk (below_drew (Below.refl w7.heap.size w7))
  have hc2 := (blk_cell BK.out 2).trans rfl
  go_upto_region 6 with (fail)
  go_region_held3 (fun w' => w'.cell? ⟨gb, 2, none⟩ = some (.slice A2 l2.length c2)) (simp [*]) (first
   |((with_reducible refine (hyphen_Set_Levels.calls k _ v s _ _ m q _ (HS.out.below HX.out) (Kd.C_below (Kd.R_reads' HM.out).2.2 HX.out) (Kd.R_reads' HM.out).2.1 HQ.out HQO.out).mono ?_); rintro e z1 ⟨v36, rfl, ho, hb⟩; have n_ := Aside0.mk (below_step (show Below w7.heap.size w7 _ from HX.out) hb); clear HX hc2; have HX := n_; clear n_; (try (have n_ := Aside0.mk (Kd.R_below F36.out hb); clear F36; have F36 := n_; clear n_)); (try (have n_ := Aside0.mk (Kd.R_below F40.out hb); clear F40; have F40 := n_; clear n_)); (try (have n_ := Aside0.mk (Kd.R_below F41.out hb); clear F41; have F41 := n_; clear n_)); (try (have n_ := Aside0.mk (Kd.R_below F47.out hb); clear F47; have F47 := n_; clear n_)); have F36 := Aside0.mk ho; clear ho; obtain ⟨A36, c36, rfl⟩ := Kd.R_slice F36.out; clear hb; have hc2 := (blk_cell (blk_below BK.out HX.out) 2).trans rfl)
   |(have mk_ := M42; clear mk_; ((with_reducible refine (colophonkeep_Ints.calls A2 c2 l2 100 m _ (Kd.C_below (Kd.C_below HR2.out HB.out) HX.out) HC2.out HI.out).mono ?_); rintro e z4 ⟨v47, rfl, ho, hb⟩; have n_ := Aside0.mk (below_step (show Below w7.heap.size w7 _ from HX.out) hb); clear HX hc2; have HX := n_; clear n_; (try (have n_ := Aside0.mk (Kd.R_below F36.out hb); clear F36; have F36 := n_; clear n_)); (try (have n_ := Aside0.mk (Kd.R_below F40.out hb); clear F40; have F40 := n_; clear n_)); (try (have n_ := Aside0.mk (Kd.R_below F41.out hb); clear F41; have F41 := n_; clear n_)); (try (have n_ := Aside0.mk (Kd.R_below F47.out hb); clear F47; have F47 := n_; clear n_)); have F47 := Aside0.mk ho; clear ho; obtain ⟨A47, c47, rfl⟩ := Kd.R_slice F47.out; clear hb; have hc2 := (blk_cell (blk_below BK.out HX.out) 2).trans rfl))
   |((with_reducible refine (colophonkeep_Ints.calls A2 c2 l2 100 m _ (Kd.C_below (Kd.C_below HR2.out HB.out) HX.out) HC2.out HI.out).mono ?_); rintro e z2 ⟨v40, rfl, ho, hb⟩; have n_ := Aside0.mk (below_step (show Below w7.heap.size w7 _ from HX.out) hb); clear HX hc2; have HX := n_; clear n_; (try (have n_ := Aside0.mk (Kd.R_below F36.out hb); clear F36; have F36 := n_; clear n_)); (try (have n_ := Aside0.mk (Kd.R_below F40.out hb); clear F40; have F40 := n_; clear n_)); (try (have n_ := Aside0.mk (Kd.R_below F41.out hb); clear F41; have F41 := n_; clear n_)); (try (have n_ := Aside0.mk (Kd.R_below F47.out hb); clear F47; have F47 := n_; clear n_)); have F40 := Aside0.mk ho; clear ho; obtain ⟨A40, c40, rfl⟩ := Kd.R_slice F40.out; clear hb; have hc2 := (blk_cell (blk_below BK.out HX.out) 2).trans rfl)
   |((with_reducible refine (Rf.levels_calls k u t _ _ m q _ (HT.out.below HX.out) (Kd.R_reads' F40.out).2.2 (Kd.R_reads' F40.out).2.1 HRQ.out).mono ?_); rintro e z3 ⟨v41, rfl, ho, hb⟩; have n_ := Aside0.mk (below_step (show Below w7.heap.size w7 _ from HX.out) hb); clear HX hc2; have HX := n_; clear n_; (try (have n_ := Aside0.mk (Kd.R_below F36.out hb); clear F36; have F36 := n_; clear n_)); (try (have n_ := Aside0.mk (Kd.R_below F40.out hb); clear F40; have F40 := n_; clear n_)); (try (have n_ := Aside0.mk (Kd.R_below F41.out hb); clear F41; have F41 := n_; clear n_)); (try (have n_ := Aside0.mk (Kd.R_below F47.out hb); clear F47; have F47 := n_; clear n_)); have F41 := Aside0.mk ho; clear ho; obtain ⟨A41, c41, rfl⟩ := Kd.R_slice F41.out; clear hb; have hc2 := (blk_cell (blk_below BK.out HX.out) 2).trans rfl)
   |((with_reducible refine (colophonkeep_Same.calls k A36 c36 q A41 c41 q true _ (Kd.R_reads' F36.out).2.2 (Kd.R_reads' F36.out).2.1 (Kd.R_reads' F41.out).2.2 (Kd.R_reads' F41.out).2.1 HSQ.out).mono ?_); rintro e z5 ⟨rfl, hd⟩; have hb := hd.below; clear hd; have n_ := Aside0.mk (below_step (show Below w7.heap.size w7 _ from HX.out) hb); clear HX hc2; have HX := n_; clear n_; (try (have n_ := Aside0.mk (Kd.R_below F36.out hb); clear F36; have F36 := n_; clear n_)); (try (have n_ := Aside0.mk (Kd.R_below F40.out hb); clear F40; have F40 := n_; clear n_)); (try (have n_ := Aside0.mk (Kd.R_below F41.out hb); clear F41; have F41 := n_; clear n_)); (try (have n_ := Aside0.mk (Kd.R_below F47.out hb); clear F47; have F47 := n_; clear n_)); have M42 := True.intro; clear hb; have hc2 := (blk_cell (blk_below BK.out HX.out) 2).trans rfl)
   |((with_reducible refine (colophonkeep_Same.calls k Am cm m A47 c47 m true _ (Kd.C_below (Kd.R_reads' HM.out).2.2 HX.out) (Kd.R_reads' HM.out).2.1 (Kd.R_reads' F47.out).2.2 (Kd.R_reads' F47.out).2.1 HSM.out).mono ?_); rintro e z6 ⟨rfl, hd⟩; have hb := hd.below; clear hd; have n_ := Aside0.mk (below_step (show Below w7.heap.size w7 _ from HX.out) hb); clear HX hc2; have HX := n_; clear n_; (try (have n_ := Aside0.mk (Kd.R_below F36.out hb); clear F36; have F36 := n_; clear n_)); (try (have n_ := Aside0.mk (Kd.R_below F40.out hb); clear F40; have F40 := n_; clear n_)); (try (have n_ := Aside0.mk (Kd.R_below F41.out hb); clear F41; have F41 := n_; clear n_)); (try (have n_ := Aside0.mk (Kd.R_below F47.out hb); clear F47; have F47 := n_; clear n_)); skip; clear hb; have hc2 := (blk_cell (blk_below BK.out HX.out) 2).trans rfl)
   |((with_reducible refine (colophonlaw21_wakes.calls k s0 W1 W2 _ (HLW.out.below HX.out) HWK.out).mono ?_); rintro e z7 ⟨rfl, hb⟩; have n_ := Aside0.mk (below_step (show Below w7.heap.size w7 _ from HX.out) hb); clear HX hc2; have HX := n_; clear n_; (try (have n_ := Aside0.mk (Kd.R_below F36.out hb); clear F36; have F36 := n_; clear n_)); (try (have n_ := Aside0.mk (Kd.R_below F40.out hb); clear F40; have F40 := n_; clear n_)); (try (have n_ := Aside0.mk (Kd.R_below F41.out hb); clear F41; have F41 := n_; clear n_)); (try (have n_ := Aside0.mk (Kd.R_below F47.out hb); clear F47; have F47 := n_; clear n_)); skip; clear hb; have hc2 := (blk_cell (blk_below BK.out HX.out) 2).trans rfl))
  all_goals (go_wp2; go_ret; exact ⟨by simp [*], below_step HB.out HX.out⟩)
end Go.Proofs.YtenhfmlkdcfbbaaDoor.PHyphenPoints
