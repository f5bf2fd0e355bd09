/- law21: HyphenPoints' own function (5), walked; what its calls tell is asked as one premise. -/
import Derived.Test.YtenhfmlkdcfbbaaDoorHc
import Derived.Test.YtenhfmlkdcfbbaaDoorPts
import Derived.Test.YtenhfmlkdcfbbaaDoorPHyphenPointsx9
namespace Go.Proofs.YtenhfmlkdcfbbaaDoor.PHyphenPoints
open Go.RowKit Go.Proofs.YtenhfmlkdcfbbaaDoorW.PrintWords Go.Proofs.YtenhfmlkdcfbbaaDoorW.PrintLast Go.Proofs.YtenhfmlkdcfbbaaDoorW.PrintMore
attribute [local go_sem] max2_int min2_int max_two min_two max_three min_three max_four min_four
set_option linter.unusedVariables false
set_option linter.unusedSimpArgs false
structure PointsOk (k : Nat) (a0 a1 : ByteArray) (l2 : List Int) : Prop where
 wk : ∃ s W1 W2, Wk.Ok k s W1 W2
 two : a0.size ≤ 3000 → a1.size ≤ 3000 → ∃ s t at_ er m q, Two k a0 a1 s t at_ er ∧ colophonkeep_Ints.f l2 100 = some m ∧ hyphen_Set_Points.f k s m = some q ∧ hyphen_Set_Points.OK k s m ∧ Rf.points k t m = some q ∧ colophonkeep_Same.f k q q = some true ∧ q.length ≤ 100000
noncomputable def colophonlaw21_HyphenPoints.f (k : Nat) (a0 a1 : ByteArray) (l2 : List Int) : Option Bool := @ite _ (PointsOk k a0 a1 l2) (Classical.propDecidable _) (some true) none
set_option maxHeartbeats 4000000 in
set_option maxRecDepth 100000 in
theorem colophonlaw21_HyphenPoints.calls (k : Nat) (a0 a1 : ByteArray) (A2 : Option Addr) (c2 : Nat) (l2 : List Int) (r : Bool) (w : World) (hLW : Lw w) (hr2 : Kd.C (Kd.int .i64) w A2 l2.length l2) (hc2 : l2.length ≤ c2) (h : colophonlaw21_HyphenPoints.f k a0 a1 l2 = some r) :
  Calls Tryd.prog 5 #[.agg #[.string a0, .string a1, .slice A2 l2.length c2]] w fun e w' => e = .returned (.bool r) ∧ Below w.heap.size w w' := by
 unfold colophonlaw21_HyphenPoints.f at h
 by_cases hok : PointsOk k a0 a1 l2
 rotate_left
 ·rw [if_neg hok] at h
  exact absurd h (by simp)
 rw [if_pos hok] at h
 obtain rfl := Option.some.inj h
 obtain ⟨⟨s0, W1, W2, hwk⟩, htwo⟩ := hok
 have hu24 := Tryd.underlying24
 have HLW := Aside0.mk hLW
 have HR2 := Aside0.mk hr2
 have HC2 := Aside0.mk hc2
 have HWK := Aside0.mk hwk
 have HTW := Aside0.mk htwo
 clear hLW hr2 hc2 hwk htwo h
 by_cases hlong : colophonlaw21_long.f a0 a1 l2 = some true
 ·have HLG := Aside0.mk hlong
  clear hlong
  go_enter Tryd.func5, Tryd.ntmps5
  go_upto_region 1 with (first | ((with_reducible refine gate_dst (N := 1) rfl ?_); (try (refine gate_guard (by rfl) ?_; dsimp only)); refine box_event ?hg (N := 1) ?hd (cs := #[.string a0, .string a1, .slice A2 l2.length c2]) (t := 24) ?hr ?_; (case hd => rfl); (case hg => rfl); (case hr => first | (go_simp; done) | (go_simp; rfl)); intro gb hg w3 hbox hb; have BK := Aside0.mk hbox; have HB := Aside0.mk hb; have m_ := Aside0.mk (HLW.out.below hb); clear HLW; have HLW := m_; clear m_ hg hbox hb))
  have hc0 := (blk_cell BK.out 0).trans rfl; have hc1 := (blk_cell BK.out 1).trans rfl; have hc2 := (blk_cell BK.out 2).trans rfl
  go_wp2_with (first
   |((with_reducible refine gate_callee (f := 9) rfl ?_); refine goesL_ (some 14) rfl rfl Tryd.func9 (by kernel_rfl) rfl #[.agg #[.string a0, .string a1, .slice A2 l2.length c2]] rfl (by (try simp only [List.map_toArray, List.map_cons, List.map_nil]); first | done | rfl) ?_; (with_reducible refine (colophonlaw21_long.calls a0 a1 A2 c2 l2 _ _ (Kd.C_below HR2.out HB.out) HC2.out HLG.out).mono ?_); rintro e w4 ⟨rfl, hb⟩; refine ⟨_, rfl, ?_⟩; clear hc0 hc1 hc2; have m0_ := Aside0.mk (blk_below BK.out hb); have m1_ := Aside0.mk (below_step HB.out hb); have m2_ := Aside0.mk (HLW.out.below hb); clear BK HB HLW hb ; have BK := m0_; have HB := m1_; have HLW := m2_; clear m0_ m1_ m2_ ; have hc0 := (blk_cell BK.out 0).trans rfl; have hc1 := (blk_cell BK.out 1).trans rfl; have hc2 := (blk_cell BK.out 2).trans rfl)
   |((with_reducible refine gate_callee (f := 10) rfl ?_); refine goesL_ (some 15) rfl rfl Tryd.func10 (by kernel_rfl) rfl #[] rfl (by (try simp only [List.map_toArray, List.map_cons, List.map_nil]); first | done | rfl) ?_; (with_reducible refine (colophonlaw21_wakes.calls k s0 W1 W2 _ HLW.out HWK.out).mono ?_); rintro e w9 ⟨rfl, hb⟩; refine ⟨_, rfl, ?_⟩; have m_ := Aside0.mk (below_step HB.out hb); clear HB; have HB := m_; clear m_ hb))
  go_ret
  exact ⟨rfl, HB.out⟩
 ·have hs0 : a0.size ≤ 3000 ∧ a1.size ≤ 3000 ∧ colophonlaw21_long.f a0 a1 l2 = some false := by
   unfold colophonlaw21_long.f at hlong ⊢
   by_cases q : (a0.size : Int) > 3000
   ·exact absurd (by rw [if_pos q]) hlong
   ·rw [if_neg q] at hlong ⊢
    by_cases q2 : (a1.size : Int) > 3000
    ·exact absurd (by rw [decide_eq_true q2]) hlong
    ·exact ⟨by omega, by omega, by rw [decide_eq_false q2]⟩
  have HLG := Aside0.mk hs0.2.2
  obtain ⟨s, t, at_, er, m, q, ⟨hc, ho, hd, hp, hnil⟩, hi, hq, hqo, hrq, hsq, hql⟩ := HTW.out hs0.1 hs0.2.1
  have HC := Aside0.mk hc
  have HO := Aside0.mk ho
  have HD := Aside0.mk hd
  have HP := Aside0.mk hp
  have HI := Aside0.mk hi
  have HQ := Aside0.mk hq
  have HQO := Aside0.mk hqo
  have HRQ := Aside0.mk hrq
  have HSQ := Aside0.mk hsq
  have HQL := Aside0.mk hql
  clear hlong hs0 hc ho hd hp hi hq hqo hrq hsq hql HTW hnil
  go_enter Tryd.func5, Tryd.ntmps5
  go_upto_region 1 with (first | ((with_reducible refine gate_dst (N := 1) rfl ?_); (try (refine gate_guard (by rfl) ?_; dsimp only)); refine box_event ?hg (N := 1) ?hd (cs := #[.string a0, .string a1, .slice A2 l2.length c2]) (t := 24) ?hr ?_; (case hd => rfl); (case hg => rfl); (case hr => first | (go_simp; done) | (go_simp; rfl)); intro gb hg w3 hbox hb; have BK := Aside0.mk hbox; have HB := Aside0.mk hb; have m_ := Aside0.mk (HLW.out.below hb); clear HLW; have HLW := m_; clear m_ hg hbox hb))
  have hc0 := (blk_cell BK.out 0).trans rfl; have hc1 := (blk_cell BK.out 1).trans rfl; have hc2 := (blk_cell BK.out 2).trans rfl
  go_upto_region 4 with (first
   |((with_reducible refine gate_callee (f := 9) rfl ?_); refine goesL_ (some 14) rfl rfl Tryd.func9 (by kernel_rfl) rfl #[.agg #[.string a0, .string a1, .slice A2 l2.length c2]] rfl (by (try simp only [List.map_toArray, List.map_cons, List.map_nil]); first | done | rfl) ?_; (with_reducible refine (colophonlaw21_long.calls a0 a1 A2 c2 l2 _ _ (Kd.C_below HR2.out HB.out) HC2.out HLG.out).mono ?_); rintro e w4 ⟨rfl, hb⟩; refine ⟨_, rfl, ?_⟩; clear hc0 hc1 hc2; have m0_ := Aside0.mk (blk_below BK.out hb); have m1_ := Aside0.mk (below_step HB.out hb); have m2_ := Aside0.mk (HLW.out.below hb); clear BK HB HLW hb ; have BK := m0_; have HB := m1_; have HLW := m2_; clear m0_ m1_ m2_ ; have hc0 := (blk_cell BK.out 0).trans rfl; have hc1 := (blk_cell BK.out 1).trans rfl; have hc2 := (blk_cell BK.out 2).trans rfl)
   |((with_reducible refine gate_callee (f := 11) rfl ?_); refine goesL_ (some 21) rfl rfl Tryd.func11 (by kernel_rfl) rfl #[.string a0, .string a1] rfl (by (try simp only [List.map_toArray, List.map_cons, List.map_nil]); first | done | rfl) ?_; (with_reducible refine (hyphen_Compile.calls k a0 a1 s at_ er _ HLW.out HC.out HO.out).mono ?_); rintro e w5 ⟨v, rfl, hS, hb⟩; refine ⟨_, rfl, ?_⟩; have HBSZ := Aside0.mk hb.size; clear hc0 hc1 hc2; have m0_ := Aside0.mk (blk_below BK.out hb); have m1_ := Aside0.mk (below_step HB.out hb); have m2_ := Aside0.mk (HLW.out.below hb); have m_HS := Aside0.mk (hS); clear BK HB HLW hb ; have BK := m0_; have HB := m1_; have HLW := m2_; have HS := m_HS; clear m0_ m1_ m2_ m_HS; clear hS; have hc0 := (blk_cell BK.out 0).trans rfl; have hc1 := (blk_cell BK.out 1).trans rfl; have hc2 := (blk_cell BK.out 2).trans rfl))
  go_upto_region 6 with (first
   |((with_reducible refine gate_callee (f := 12) rfl ?_); refine goesL_ (some 30) rfl rfl Tryd.func12 (by kernel_rfl) rfl #[.string a0, .string a1] rfl (by (try simp only [List.map_toArray, List.map_cons, List.map_nil]); first | done | rfl) ?_; (with_reducible refine (colophonref21_Compile.calls k a0 a1 t at_ er _ HD.out HP.out).mono ?_); rintro e w6 ⟨u, rfl, hT, hb⟩; refine ⟨_, rfl, ?_⟩; have mz_ := Aside0.mk (Nat.le_trans HBSZ.out hb.size); clear HBSZ; have HBSZ := mz_; clear mz_; clear hc0 hc1 hc2; have m0_ := Aside0.mk (blk_below BK.out hb); have m1_ := Aside0.mk (below_step HB.out hb); have m2_ := Aside0.mk (HLW.out.below hb); have m_HS := Aside0.mk (HS.out.below hb); have m_HT := Aside0.mk (hT); clear BK HB HLW hb HS; have BK := m0_; have HB := m1_; have HLW := m2_; have HS := m_HS; have HT := m_HT; clear m0_ m1_ m2_ m_HS m_HT; clear hT; have hc0 := (blk_cell BK.out 0).trans rfl; have hc1 := (blk_cell BK.out 1).trans rfl; have hc2 := (blk_cell BK.out 2).trans rfl)
   |((with_reducible refine gate_callee (f := 15) rfl ?_); refine goesL_ (some 36) rfl rfl Tryd.func15 (by kernel_rfl) rfl #[.slice A2 l2.length c2, .int .i64 100] rfl (by (try simp only [List.map_toArray, List.map_cons, List.map_nil]); first | done | rfl) ?_; (with_reducible refine (colophonkeep_Ints.calls A2 c2 l2 100 m _ (Kd.C_below HR2.out HB.out) HC2.out HI.out).mono ?_); rintro e w7 ⟨v9, rfl, ho, hb⟩; refine ⟨_, rfl, ?_⟩; have mz_ := Aside0.mk (Nat.le_trans HBSZ.out hb.size); clear HBSZ; have HBSZ := mz_; clear mz_; clear hc0 hc1 hc2; have m0_ := Aside0.mk (blk_below BK.out hb); have m1_ := Aside0.mk (below_step HB.out hb); have m2_ := Aside0.mk (HLW.out.below hb); have m_HS := Aside0.mk (HS.out.below hb); have m_HT := Aside0.mk (HT.out.below hb); have m_HM := Aside0.mk (ho); clear BK HB HLW hb HS HT; have BK := m0_; have HB := m1_; have HLW := m2_; have HS := m_HS; have HT := m_HT; have HM := m_HM; clear m0_ m1_ m2_ m_HS m_HT m_HM; clear ho; obtain ⟨Am, cm, rfl⟩ := Kd.R_slice HM.out))
  have HBS := HBSZ
  clear HBSZ
  go_wp2_with (first
   |((with_reducible refine gate_callee (f := 19) rfl ?_); refine goesL_ (some 39) rfl rfl Tryd.func19 (by kernel_rfl) rfl #[v, .slice Am m.length cm] rfl (by (try simp only [List.map_toArray, List.map_cons, List.map_nil]); first | done | rfl) ?_; (with_reducible refine (hyphen_Set_Points.calls k _ v s _ _ m q _ HS.out HBS.out (Kd.R_reads' HM.out).2.2 (Kd.R_reads' HM.out).2.1 HQ.out HQO.out).mono ?_); rintro e w8 ⟨v10, rfl, ho, hb⟩; refine ⟨_, rfl, ?_⟩; have HA := Aside0.mk ho; have HBA := Aside0.mk hb; clear ho hb; obtain ⟨Aa, ca, rfl⟩ := Kd.R_slice HA.out)
   |((with_reducible refine gate_callee (f := 19) rfl ?_); refine goesL_ (some 42) rfl rfl Tryd.func19 (by kernel_rfl) rfl #[v, .slice Am m.length cm] rfl (by (try simp only [List.map_toArray, List.map_cons, List.map_nil]); first | done | rfl) ?_; (with_reducible refine (hyphen_Set_Points.calls k _ v s _ _ m q _ (HS.out.below HBA.out) (Nat.le_trans HBS.out HBA.out.size) (Kd.C_below (Kd.R_reads' HM.out).2.2 HBA.out) (Kd.R_reads' HM.out).2.1 HQ.out HQO.out).mono ?_); rintro e w9 ⟨v11, rfl, ho, hb⟩; refine ⟨_, rfl, ?_⟩; have HBb := Aside0.mk ho; have HSZ8 := Aside0.mk (show w7.heap.size ≤ w8.heap.size from HBA.out.size); have HA9 := Aside0.mk (Kd.R_below HA.out hb); have HB9 := Aside0.mk (below_step HBA.out hb); have HBA9 := Aside0.mk hb; clear ho hb; obtain ⟨Ab, cb, rfl⟩ := Kd.R_slice HBb.out))
  have HBA9b := Aside0.mk (Kd.R_bound HBb.out)
  obtain ⟨ga, hga⟩ : ∃ ga, 0 < q.length → Aa = some ⟨ga, 0, none⟩ ∧ w7.heap.size ≤ ga ∧ ga < w8.heap.size ∧ ∃ cells, w9.heap[ga]? = some (.cells cells 3 (0, 0)) ∧ q.length ≤ cells.size := by
   by_cases hq0 : 0 < q.length
   ·obtain ⟨ga, e1, e2, _, e3, _⟩ := Wd.blk HA.out hq0
    obtain ⟨ga', cells, e4, _, _, e5, e6⟩ := Trie.row HA9.out hq0
    rw [e1] at e4
    injection e4 with e4
    injection e4 with e4
    subst e4
    refine ⟨ga, fun _ => ⟨e1, e2, e3, cells, e5, ?_⟩⟩
    have := e6 (q.length - 1) (by omega)
    obtain ⟨hlt, _⟩ := Array.getElem?_eq_some_iff.1 this
    omega
   ·exact ⟨0, fun h => absurd h hq0⟩
  have HGA := Aside0.mk hga
  clear hga
  go_loopw [12] (fun v12 wr => ∃ j : Nat, v12 = .int .i64 (j : Int) ∧ j ≤ q.length ∧ Aside0 (Below w7.heap.size w7 wr) ∧ Aside0 (Kd.R (Kd.int .i64) 3 wr w8.heap.size (fun _ => True) (.slice Ab q.length cb) q) ∧ Aside0 (0 < q.length → ∃ cells, wr.heap[ga]? = some (.cells cells 3 (0, 0)) ∧ q.length ≤ cells.size))
   (fun v12 _ => q.length - (intOf v12).toNat)
  case atStart => exact ⟨0, rfl, Nat.zero_le _, HB9, HBb, ⟨fun h => (HGA.out h).2.2.2⟩⟩
  case round =>
   obtain ⟨j, rfl, hj, HBr, HBbr, HGr⟩ := hrel
   have HQL2 := HQL.out
   by_cases hlt : j < q.length
   ·have kc1 : decide ((j : Int) < (q.length : Int)) = true := decide_eq_true (by omega)
    have kc2 : decide (j < q.length) = true := decide_eq_true hlt
    have kc3 : ((0 : Int) ≤ (j : Int)) = True := eq_true (by omega)
    have kc4 : ((j : Int) < (q.length : Int)) = True := eq_true (by omega)
    have kc6 : IntKind.i64.wrap ((j : Int) + 1) = (j : Int) + 1 := by rw [IntKind.wrap_i64]; omega
    obtain ⟨eA, g1, g2, _⟩ := HGA.out (by omega)
    obtain ⟨cells, hcs, hcz⟩ := HGr.out (by omega)
    subst eA
    have hcell : wr.cell? ⟨ga, j, none⟩ = some cells[j] := (blk_cell hcs j).trans (Array.getElem?_eq_getElem (by omega))
    have hfro := blk_frozen hcs j
    have HCS := Aside0.mk hcs
    have HG12 := Aside0.mk (And.intro g1 g2)
    clear hcs g1 g2
    go_wp2
    go_roundw
    case rel => exact ⟨j + 1, by simp, by omega, ⟨below_set HBr.out HG12.out.1⟩, ⟨Kd.R_mono (Kd.R_far (p := ⟨ga, j, none⟩) (Kd.R_bound HBbr.out) (fun k_ hk => by have := hk.2.1; have := HG12.out.2; show k_ ≠ ga; omega) _) (fun _ _ => trivial)⟩, ⟨fun _ => ⟨_, blk_put HCS.out j _ rfl, by simpa using hcz⟩⟩⟩
    case measure => (try simp [intOf]); omega
   ·have kc1 : decide ((j : Int) < (q.length : Int)) = false := decide_eq_false (by omega)
    have kc2 : decide (j < q.length) = false := decide_eq_false hlt
    go_wp2_with (first
     |((with_reducible refine gate_callee (f := 20) rfl ?_); refine goesL_ (some 55) rfl rfl Tryd.func20 (by kernel_rfl) rfl #[u, .slice Am m.length cm] rfl (by (try simp only [List.map_toArray, List.map_cons, List.map_nil]); first | done | rfl) ?_; (with_reducible refine (Rf.points_calls k u t _ _ m q _ (HT.out.below HBr.out) (Kd.C_below (Kd.R_reads' HM.out).2.2 HBr.out) (Kd.R_reads' HM.out).2.1 HRQ.out).mono ?_); rintro e w10 ⟨v55, rfl, ho, hb⟩; refine ⟨_, rfl, ?_⟩; have HC10 := Aside0.mk ho; have HB10 := Aside0.mk (below_step HBr.out hb); have HBb10 := Aside0.mk (Kd.R_below HBbr.out hb); clear ho hb; obtain ⟨Ac, cc, rfl⟩ := Kd.R_slice HC10.out)
     |((with_reducible refine gate_callee (f := 16) rfl ?_); refine goesL_ (some 56) rfl rfl Tryd.func16 (by kernel_rfl) rfl #[.slice Ab q.length cb, .slice Ac q.length cc] rfl (by (try simp only [List.map_toArray, List.map_cons, List.map_nil]); first | done | rfl) ?_; (with_reducible refine (colophonkeep_Same.calls k _ _ q _ _ q true _ (Kd.R_reads' HBb10.out).2.2 (Kd.R_reads' HBb10.out).2.1 (Kd.R_reads' HC10.out).2.2 (Kd.R_reads' HC10.out).2.1 HSQ.out).mono ?_); rintro e w11 ⟨rfl, hd⟩; refine ⟨_, rfl, ?_⟩; have hb := hd.below; have HB11 := Aside0.mk (below_step HB10.out hb); have HBb11 := Aside0.mk (Kd.R_below HBb10.out hb); clear hb hd)
     |((with_reducible refine gate_callee (f := 19) rfl ?_); (try (refine gate_guard (by rfl) ?_; dsimp only)); refine goesL_ (some 60) rfl rfl Tryd.func19 (by kernel_rfl) rfl #[v, .slice Am m.length cm] rfl (by (try simp only [List.map_toArray, List.map_cons, List.map_nil]); first | done | rfl) ?_; (with_reducible refine (hyphen_Set_Points.calls k _ v s _ _ m q _ (HS.out.below HB11.out) (Nat.le_trans HBS.out HB11.out.size) (Kd.C_below (Kd.R_reads' HM.out).2.2 HB11.out) (Kd.R_reads' HM.out).2.1 HQ.out HQO.out).mono ?_); rintro e w12 ⟨v60, rfl, ho, hb⟩; refine ⟨_, rfl, ?_⟩; have HD12 := Aside0.mk ho; have HB12 := Aside0.mk (below_step HB11.out hb); have HBb12 := Aside0.mk (Kd.R_below HBb11.out hb); clear ho hb; obtain ⟨Ad, cd, rfl⟩ := Kd.R_slice HD12.out)
     |((with_reducible refine gate_callee (f := 16) rfl ?_); (try (refine gate_guard (by rfl) ?_; dsimp only)); refine goesL_ (some 62) rfl rfl Tryd.func16 (by kernel_rfl) rfl #[.slice Ad q.length cd, .slice Ab q.length cb] rfl (by (try simp only [List.map_toArray, List.map_cons, List.map_nil]); first | done | rfl) ?_; (with_reducible refine (colophonkeep_Same.calls k _ _ q _ _ q true _ (Kd.R_reads' HD12.out).2.2 (Kd.R_reads' HD12.out).2.1 (Kd.R_reads' HBb12.out).2.2 (Kd.R_reads' HBb12.out).2.1 HSQ.out).mono ?_); rintro e w13 ⟨rfl, hd⟩; refine ⟨_, rfl, ?_⟩; have hb := hd.below; have HB13 := Aside0.mk (below_step HB12.out hb); clear hb hd)
     |((with_reducible refine gate_callee (f := 10) rfl ?_); (try (refine gate_guard (by rfl) ?_; dsimp only)); refine goesL_ (some 65) rfl rfl Tryd.func10 (by kernel_rfl) rfl #[] rfl (by (try simp only [List.map_toArray, List.map_cons, List.map_nil]); first | done | rfl) ?_; (with_reducible refine (colophonlaw21_wakes.calls k s0 W1 W2 _ (HLW.out.below HB13.out) HWK.out).mono ?_); rintro e w14 ⟨rfl, hb⟩; refine ⟨_, rfl, ?_⟩; have HBE := Aside0.mk (below_step (below_step HB.out HB13.out) hb); clear hb))
    go_ret
    exact ⟨by simp [*], HBE.out⟩
end Go.Proofs.YtenhfmlkdcfbbaaDoor.PHyphenPoints
