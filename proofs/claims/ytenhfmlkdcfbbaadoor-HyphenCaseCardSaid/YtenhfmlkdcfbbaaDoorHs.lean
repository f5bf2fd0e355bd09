/- law21: HyphenCase's own function (6), walked; what its calls tell is asked as one premise. -/
import Derived.Test.YtenhfmlkdcfbbaaDoorHc
import Derived.Test.YtenhfmlkdcfbbaaDoorPts
import Derived.Test.YtenhfmlkdcfbbaaDoorPHyphenPointsx9
import Derived.Test.YtenhfmlkdcfbbaaDoorLb
namespace Go.Proofs.YtenhfmlkdcfbbaaDoor.PHyphenPoints
open Go.RowKit Go.Proofs.YtenhfmlkdcfbbaaDoorW.PrintWords Go.Proofs.YtenhfmlkdcfbbaaDoorW.PrintLast Go.Proofs.YtenhfmlkdcfbbaaDoorW.PrintMore Go.Proofs.YtenhfmlkdcfbbaaDoor
attribute [local go_sem] max2_int min2_int max_two min_two max_three min_three max_four min_four
set_option linter.unusedVariables false
set_option linter.unusedSimpArgs false
namespace Cs
def one (great : List Bool) (mm : List Int) (j : Nat) : List Int :=
 if rdOf false great (j : Int) = true ∧ LawW.cls (wrap64 (rd mm (j : Int) - 32)) = 2 ∧ LawW.lowV (wrap64 (rd mm (j : Int) - 32)) = rd mm (j : Int) then mm.set j (wrap64 (rd mm (j : Int) - 32)) else mm
def up (great : List Bool) (l : List Int) : Nat → List Int
 | 0 => l
 | n + 1 => one great (up great l n) n
theorem one_len (great : List Bool) (mm : List Int) (j : Nat) : (one great mm j).length = mm.length := by
 unfold one
 split
 ·rw [List.length_set]
 ·rfl
theorem up_len (great : List Bool) (l : List Int) : ∀ n, (up great l n).length = l.length
 | 0 => rfl
 | n + 1 => by rw [up, one_len, up_len great l n]
def Row (w : World) (gm : Nat) (xs : List Int) : Prop := ∃ cells, w.heap[gm]? = some (.cells cells 3 (0, 0)) ∧ ∀ j : Nat, j < xs.length → cells[j]? = some (.int .i64 (rd xs (j : Int)))
theorem row_set {w : World} {gm j : Nat} {cells : Array Value} {xs : List Int} (h1 : w.heap[gm]? = some (.cells cells 3 (0, 0))) (h2 : ∀ j : Nat, j < xs.length → cells[j]? = some (.int .i64 (rd xs (j : Int)))) (c : Int) (hj : j < xs.length) : Row (w.setCell ⟨gm, j, none⟩ (.int .i64 c)) gm (xs.set j c) := by
 refine ⟨_, blk_put h1 j _ rfl, fun i hi => ?_⟩
 rw [List.length_set] at hi
 have hz := (Array.getElem?_eq_some_iff.1 (h2 j hj)).1
 rw [Array.getElem?_setIfInBounds]
 by_cases e : j = i
 ·subst e
  rw [if_pos rfl, if_pos hz]
  congr 2
  unfold rd
  rw [Int.toNat_natCast, List.getD_eq_getElem?_getD, List.getElem?_set_self hj]
  rfl
 ·rw [if_neg e, h2 i hi]
  congr 2
  unfold rd
  rw [Int.toNat_natCast, List.getD_eq_getElem?_getD, List.getD_eq_getElem?_getD, List.getElem?_set_ne e]
theorem pts (k base : Nat) (v : Value) (s : Option Cp.HS) (A1 : Option Addr) (c1 : Nat) (l1 : List Int) (r : List Int) (w : World) (n : Nat) (hn : l1.length = n) (hS : Cp.SetV base w v s) (hbase : base ≤ w.heap.size) (hr1 : Kd.C (Kd.int .i64) w A1 l1.length l1) (hc1 : l1.length ≤ c1) (h : hyphen_Set_Points.f k s l1 = some r) (hOK : hyphen_Set_Points.OK k s l1) :
  Calls Tryd.prog 19 #[v, .slice A1 n c1] w fun e w' => ∃ v0_ : Value, e = .returned v0_ ∧ Kd.R (Kd.int .i64) 3 w' w.heap.size (fun _ => True) v0_ r ∧ Below w.heap.size w w' := by
 subst hn
 exact hyphen_Set_Points.calls k base v s A1 c1 l1 r w hS hbase hr1 hc1 h hOK
theorem levs (k base : Nat) (v : Value) (s : Option Cp.HS) (A1 : Option Addr) (c1 : Nat) (l1 : List Int) (r : List Int) (w : World) (n : Nat) (hn : l1.length = n) (hS : Cp.SetV base w v s) (hr1 : Kd.C (Kd.int .i64) w A1 l1.length l1) (hc1 : l1.length ≤ c1) (h : hyphen_Set_Levels.f k s l1 = some r) (hOK : hyphen_Set_Levels.OK k s l1) :
  Calls Tryd.prog 17 #[v, .slice A1 n c1] w fun e w' => ∃ v0_ : Value, e = .returned v0_ ∧ Kd.R (Kd.int .i64) 3 w' w.heap.size (fun _ => True) v0_ r ∧ Below w.heap.size w w' := by
 subst hn
 exact hyphen_Set_Levels.calls k base v s A1 c1 l1 r w hS hr1 hc1 h hOK
end Cs
structure CaseOk (k : Nat) (a0 a1 : ByteArray) (l2 : List Int) (great : List Bool) : Prop where
 wk : ∃ s W1 W2, Wk.Ok k s W1 W2
 five : 5 ≤ k
 two : a0.size ≤ 3000 → a1.size ≤ 3000 → ∃ s at_ er, hyphen_Compile.f k a0 a1 = some (s, at_, er) ∧ hyphen_Compile.OK k a0 a1 ∧ (er ≠ 0 → s = none) ∧
  (er = 0 → ∃ l m q z, colophonkeep_Ints.f l2 100 = some l ∧ colophonkeep_Ints.f l 100 = some l ∧ l.length ≤ 100 ∧ m = Cs.up great l (min l.length great.length) ∧
   hyphen_Set_Points.f k s l = some q ∧ hyphen_Set_Points.OK k s l ∧ hyphen_Set_Points.f k s m = some q ∧ hyphen_Set_Points.OK k s m ∧ colophonkeep_Same.f k q q = some true ∧
   hyphen_Set_Levels.f k s l = some z ∧ hyphen_Set_Levels.OK k s l ∧ hyphen_Set_Levels.f k s m = some z ∧ hyphen_Set_Levels.OK k s m ∧ colophonkeep_Same.f k z z = some true)
noncomputable def colophonlaw21_HyphenCase.f (k : Nat) (a0 a1 : ByteArray) (l2 : List Int) (great : List Bool) : Option Bool := @ite _ (CaseOk k a0 a1 l2 great) (Classical.propDecidable _) (some true) none
set_option maxHeartbeats 4000000 in
set_option maxRecDepth 100000 in
theorem colophonlaw21_HyphenCase.calls (k : Nat) (a0 a1 : ByteArray) (A2 : Option Addr) (c2 : Nat) (l2 : List Int) (A3 : Option Addr) (c3 : Nat) (great : List Bool) (r : Bool) (w : World) (hLW : Lw w) (hr2 : Kd.C (Kd.int .i64) w A2 l2.length l2) (hc2 : l2.length ≤ c2) (hr3 : Kd.C Kd.bool w A3 great.length great) (hc3 : great.length ≤ c3) (h : colophonlaw21_HyphenCase.f k a0 a1 l2 great = some r) :
  Calls Tryd.prog 6 #[.agg #[.string a0, .string a1, .slice A2 l2.length c2], .slice A3 great.length c3] w fun e w' => e = .returned (.bool r) ∧ Below w.heap.size w w' := by
 unfold colophonlaw21_HyphenCase.f at h
 by_cases hok : CaseOk k a0 a1 l2 great
 rotate_left
 ·rw [if_neg hok] at h
  exact absurd h (by simp)
 rw [if_pos hok] at h
 obtain rfl := Option.some.inj h
 obtain ⟨⟨s0, W1, W2, hwk⟩, hk5, htwo⟩ := hok
 have hu24 := Tryd.underlying24
 have HLW := Aside0.mk hLW
 have HR2 := Aside0.mk hr2
 have HC2 := Aside0.mk hc2
 have HR3 := Aside0.mk hr3
 have HWK := Aside0.mk hwk
 have HTW := Aside0.mk htwo
 clear hLW hr2 hc2 hr3 hc3 hwk htwo h
 by_cases hlong : colophonlaw21_long.f a0 a1 l2 = some true
 ·have HLG := Aside0.mk hlong
  clear hlong hk5
  go_enter Tryd.func6, Tryd.ntmps6
  go_upto_region 1 with (first | ((with_reducible refine gate_dst (N := 2) rfl ?_); (try (refine gate_guard (by rfl) ?_; dsimp only)); refine box_event ?hg (N := 2) ?hd (cs := #[.string a0, .string a1, .slice A2 l2.length c2]) (t := 24) ?hr ?_; (case hd => rfl); (case hg => rfl); (case hr => first | (go_simp; done) | (go_simp; rfl)); intro gb hg w3 hbox hb; have BK := Aside0.mk hbox; have HB := Aside0.mk hb; have m_ := Aside0.mk (HLW.out.below hb); clear HLW; have HLW := m_; clear m_ hg hbox hb))
  have hc0 := (blk_cell BK.out 0).trans rfl; have hc1 := (blk_cell BK.out 1).trans rfl; have hc2 := (blk_cell BK.out 2).trans rfl
  go_wp2_with (first
   | ((with_reducible refine gate_callee (f := 9) rfl ?_); refine goesL_ (some 13) rfl rfl Tryd.func9 (by kernel_rfl) rfl #[.agg #[.string a0, .string a1, .slice A2 l2.length c2]] rfl (by (try simp only [List.map_toArray, List.map_cons, List.map_nil]); first | done | rfl) ?_; (with_reducible refine (colophonlaw21_long.calls a0 a1 A2 c2 l2 _ _ (Kd.C_below HR2.out HB.out) HC2.out HLG.out).mono ?_); rintro e w4 ⟨rfl, hb⟩; refine ⟨_, rfl, ?_⟩; clear hc0 hc1 hc2; have m0_ := Aside0.mk (blk_below BK.out hb); have m1_ := Aside0.mk (below_step HB.out hb); have m2_ := Aside0.mk (HLW.out.below hb); clear BK HB HLW hb ; have BK := m0_; have HB := m1_; have HLW := m2_; clear m0_ m1_ m2_ ; have hc0 := (blk_cell BK.out 0).trans rfl; have hc1 := (blk_cell BK.out 1).trans rfl; have hc2 := (blk_cell BK.out 2).trans rfl)
   | ((with_reducible refine gate_callee (f := 10) rfl ?_); refine goesL_ (some 14) rfl rfl Tryd.func10 (by kernel_rfl) rfl #[] rfl (by (try simp only [List.map_toArray, List.map_cons, List.map_nil]); first | done | rfl) ?_; (with_reducible refine (colophonlaw21_wakes.calls k s0 W1 W2 _ HLW.out HWK.out).mono ?_); rintro e w9 ⟨rfl, hb⟩; refine ⟨_, rfl, ?_⟩; have m_ := Aside0.mk (below_step HB.out hb); clear HB; have HB := m_; clear m_ hb))
  go_ret
  exact ⟨rfl, HB.out⟩
 have hs0 : a0.size ≤ 3000 ∧ a1.size ≤ 3000 ∧ colophonlaw21_long.f a0 a1 l2 = some false := by
  unfold colophonlaw21_long.f at hlong ⊢
  by_cases q : (a0.size : Int) > 3000
  ·exact absurd (by rw [if_pos q]) hlong
  ·rw [if_neg q] at hlong ⊢
   by_cases q2 : (a1.size : Int) > 3000
   ·exact absurd (by rw [decide_eq_true q2]) hlong
   ·exact ⟨by omega, by omega, by rw [decide_eq_false q2]⟩
 have HLG := Aside0.mk hs0.2.2
 obtain ⟨s, at_, er, hc, ho, hn, hq⟩ := HTW.out hs0.1 hs0.2.1
 have HC := Aside0.mk hc
 have HO := Aside0.mk ho
 have HN := Aside0.mk hn
 have HQQ := Aside0.mk hq
 have HK5 := Aside0.mk hk5
 clear hlong hs0 hc ho hn hq HTW hk5
 go_enter Tryd.func6, Tryd.ntmps6
 go_upto_region 1 with (first | ((with_reducible refine gate_dst (N := 2) rfl ?_); (try (refine gate_guard (by rfl) ?_; dsimp only)); refine box_event ?hg (N := 2) ?hd (cs := #[.string a0, .string a1, .slice A2 l2.length c2]) (t := 24) ?hr ?_; (case hd => rfl); (case hg => rfl); (case hr => first | (go_simp; done) | (go_simp; rfl)); intro gb hg w3 hbox hb; have BK := Aside0.mk hbox; have HB := Aside0.mk hb; have m_ := Aside0.mk (HLW.out.below hb); clear HLW; have HLW := m_; clear m_ hg hbox hb))
 have hc0 := (blk_cell BK.out 0).trans rfl; have hc1 := (blk_cell BK.out 1).trans rfl; have hc2 := (blk_cell BK.out 2).trans rfl
 go_upto_region 4 with (first
  | ((with_reducible refine gate_callee (f := 9) rfl ?_); refine goesL_ (some 13) rfl rfl Tryd.func9 (by kernel_rfl) rfl #[.agg #[.string a0, .string a1, .slice A2 l2.length c2]] rfl (by (try simp only [List.map_toArray, List.map_cons, List.map_nil]); first | done | rfl) ?_; (with_reducible refine (colophonlaw21_long.calls a0 a1 A2 c2 l2 _ _ (Kd.C_below HR2.out HB.out) HC2.out HLG.out).mono ?_); rintro e w4 ⟨rfl, hb⟩; refine ⟨_, rfl, ?_⟩; clear hc0 hc1 hc2; have m0_ := Aside0.mk (blk_below BK.out hb); have m1_ := Aside0.mk (below_step HB.out hb); have m2_ := Aside0.mk (HLW.out.below hb); clear BK HB HLW hb ; have BK := m0_; have HB := m1_; have HLW := m2_; clear m0_ m1_ m2_ ; have hc0 := (blk_cell BK.out 0).trans rfl; have hc1 := (blk_cell BK.out 1).trans rfl; have hc2 := (blk_cell BK.out 2).trans rfl)
  | ((with_reducible refine gate_callee (f := 11) rfl ?_); refine goesL_ (some 20) rfl rfl Tryd.func11 (by kernel_rfl) rfl #[.string a0, .string a1] rfl (by (try simp only [List.map_toArray, List.map_cons, List.map_nil]); first | done | rfl) ?_; (with_reducible refine (hyphen_Compile.calls k a0 a1 s at_ er _ HLW.out HC.out HO.out).mono ?_); rintro e w5 ⟨v, rfl, hS, hb⟩; refine ⟨_, rfl, ?_⟩; have HBSZ := Aside0.mk hb.size; clear hc0 hc1 hc2; have m0_ := Aside0.mk (blk_below BK.out hb); have m1_ := Aside0.mk (below_step HB.out hb); have m2_ := Aside0.mk (HLW.out.below hb); have m_HS := Aside0.mk (hS); clear BK HB HLW hb ; have BK := m0_; have HB := m1_; have HLW := m2_; have HS := m_HS; clear m0_ m1_ m2_ m_HS; clear hS; have hc0 := (blk_cell BK.out 0).trans rfl; have hc1 := (blk_cell BK.out 1).trans rfl; have hc2 := (blk_cell BK.out 2).trans rfl))
 by_cases he : er = 0
 rotate_left
 ·have hv : v = .pointer none := by have := HS.out; rw [HN.out he] at this; exact this
  subst hv
  have a2 : (er != 0) = true := bne_iff_ne.mpr he
  have a3 : decide (er = 0) = false := decide_eq_false he
  clear he
  go_wp2_with (first | ((with_reducible refine gate_callee (f := 10) rfl ?_); (try (refine gate_guard (by rfl) ?_; dsimp only)); refine goesL_ (some 29) rfl rfl Tryd.func10 (by kernel_rfl) rfl #[] rfl (by (try simp only [List.map_toArray, List.map_cons, List.map_nil]); first | done | rfl) ?_; (with_reducible refine (colophonlaw21_wakes.calls k s0 W1 W2 _ (HLW.out) HWK.out).mono ?_); rintro e w14 ⟨rfl, hb⟩; refine ⟨_, rfl, ?_⟩; have HBE := Aside0.mk (below_step (HB.out) hb); clear hb))
  go_ret
  exact ⟨by simp [*], HBE.out⟩
 subst he
 obtain ⟨l, m, q, z, hi, hi2, hll, hm, hq, hqo, hq2, hqo2, hsq, hz, hzo, hz2, hzo2, hsz⟩ := HQQ.out rfl
 have HI := Aside0.mk hi
 have HI2 := Aside0.mk hi2
 have HLL := Aside0.mk hll
 have HMD := Aside0.mk hm
 have HQ := Aside0.mk hq
 have HQO := Aside0.mk hqo
 have HQ2 := Aside0.mk hq2
 have HQO2 := Aside0.mk hqo2
 have HSQ := Aside0.mk hsq
 have HZ := Aside0.mk hz
 have HZO := Aside0.mk hzo
 have HZ2 := Aside0.mk hz2
 have HZO2 := Aside0.mk hzo2
 have HSZ := Aside0.mk hsz
 clear hi hi2 hll hm hq hqo hq2 hqo2 hsq hz hzo hz2 hzo2 hsz HQQ HN
 go_upto_region 7 with (first | ((with_reducible refine gate_callee (f := 15) rfl ?_); refine goesL_ (some 33) rfl rfl Tryd.func15 (by kernel_rfl) rfl #[.slice A2 l2.length c2, .int .i64 100] rfl (by (try simp only [List.map_toArray, List.map_cons, List.map_nil]); first | done | rfl) ?_; (with_reducible refine (colophonkeep_Ints.calls A2 c2 l2 100 l _ (Kd.C_below HR2.out HB.out) HC2.out HI.out).mono ?_); rintro e w6 ⟨v8, rfl, ho, hb⟩; refine ⟨_, rfl, ?_⟩; have mz_ := Aside0.mk (Nat.le_trans HBSZ.out hb.size); clear HBSZ; have HBSZ := mz_; clear mz_; clear hc0 hc1 hc2; have m0_ := Aside0.mk (blk_below BK.out hb); have m1_ := Aside0.mk (below_step HB.out hb); have m2_ := Aside0.mk (HLW.out.below hb); have m_HS := Aside0.mk (HS.out.below hb); have m_HL := Aside0.mk (ho); clear BK HB HLW hb HS; have BK := m0_; have HB := m1_; have HLW := m2_; have HS := m_HS; have HL := m_HL; clear m0_ m1_ m2_ m_HS m_HL; clear ho; obtain ⟨Al, cl, rfl⟩ := Kd.R_slice HL.out))
 go_upto_region 8 with (first | ((with_reducible refine gate_callee (f := 15) rfl ?_); refine goesL_ (some 35) rfl rfl Tryd.func15 (by kernel_rfl) rfl #[.slice Al l.length cl, .int .i64 100] rfl (by (try simp only [List.map_toArray, List.map_cons, List.map_nil]); first | done | rfl) ?_; (with_reducible refine (colophonkeep_Ints.calls Al cl l 100 l _ (Kd.R_reads' HL.out).2.2 (Kd.R_reads' HL.out).2.1 HI2.out).mono ?_); rintro e w7 ⟨v9, rfl, ho, hb⟩; refine ⟨_, rfl, ?_⟩; have HM := Aside0.mk ho; have HBm := Aside0.mk hb; clear ho hb; obtain ⟨Am, cm, rfl⟩ := Kd.R_slice HM.out))
 go_wp2
 obtain ⟨gm, hgm⟩ : ∃ gm, 0 < l.length → Am = some ⟨gm, 0, none⟩ ∧ w6.heap.size ≤ gm ∧ Cs.Row w7 gm l := by
  by_cases h0 : 0 < l.length
  ·obtain ⟨gm, cells, e1, e2, _, e3, e4⟩ := Trie.row HM.out h0
   exact ⟨gm, fun _ => ⟨e1, e2, cells, e3, e4⟩⟩
  ·exact ⟨0, fun h => absurd h h0⟩
 have HGM := Aside0.mk hgm
 clear hgm
 go_loopw [10] (fun v10 wr => ∃ j : Nat, v10 = .int .i64 (j : Int) ∧ j ≤ l.length ∧ j ≤ great.length ∧ Aside0 (Below w6.heap.size w6 wr) ∧ Aside0 (Below w7.heap.size w7 wr ∨ 0 < l.length) ∧ Aside0 (0 < l.length → Cs.Row wr gm (Cs.up great l j)))
  (fun v10 _ => l.length - (intOf v10).toNat)
 case atStart => exact ⟨0, rfl, Nat.zero_le _, Nat.zero_le _, HBm, ⟨.inl (Below.refl _ _)⟩, ⟨fun h => (HGM.out h).2.2⟩⟩
 case round =>
  obtain ⟨j, rfl, hj, hjg, HBr, HBw, HGr⟩ := hrel
  have HLL2 := HLL.out
  by_cases hlt : j < l.length
  ·have kc1 : decide ((j : Int) < (l.length : Int)) = true := decide_eq_true (by omega)
   have kc2 : decide (j < l.length) = true := decide_eq_true hlt
   by_cases hlg : j < great.length
   ·have kg1 : decide ((j : Int) < (great.length : Int)) = true := decide_eq_true (by omega)
    have kg2 : decide (j < great.length) = true := decide_eq_true hlg
    have kc3 : ((0 : Int) ≤ (j : Int)) = True := eq_true (by omega)
    have kc4 : ((j : Int) < (l.length : Int)) = True := eq_true (by omega)
    have kg4 : ((j : Int) < (great.length : Int)) = True := eq_true (by omega)
    have kc6 : IntKind.i64.wrap ((j : Int) + 1) = (j : Int) + 1 := by rw [IntKind.wrap_i64]; omega
    obtain ⟨eA, hgl, _⟩ := HGM.out (by omega)
    obtain ⟨cells, hcs, hce⟩ := HGr.out (by omega)
    obtain ⟨mm, hmm⟩ : ∃ mm, Cs.up great l j = mm := ⟨_, rfl⟩
    have hml : mm.length = l.length := by rw [← hmm, Cs.up_len]
    rw [hmm] at hce
    subst eA
    have hcm : wr.cell? ⟨gm, j, none⟩ = some (.int .i64 (rd mm (j : Int))) := (blk_cell hcs j).trans (hce j (by omega))
    have hfro := blk_frozen hcs j
    obtain ⟨adg, rfl, hcg0⟩ := Kd.at_bool (Kd.C_below (Kd.C_below HR3.out HB.out) HBr.out) (j : Int) (by omega) (by omega)
    rw [Int.toNat_natCast] at hcg0
    obtain ⟨gr, hgr⟩ : ∃ gr, rdOf false great (j : Int) = gr := ⟨_, rfl⟩
    have hcg : wr.cell? (adg.add j) = some (.bool gr) := by rw [hcg0, hgr]
    obtain ⟨c, hc⟩ : ∃ c, IntKind.i64.wrap (rd mm (j : Int) - 32) = c := ⟨_, rfl⟩
    have HCS := Aside0.mk hcs
    have HCE := Aside0.mk hce
    have HMM := Aside0.mk hmm
    have HML := Aside0.mk hml
    have HGL := Aside0.mk hgl
    have HGRD := Aside0.mk hgr
    have HCW := Aside0.mk ((i64_w _).symm.trans hc)
    have hk5 := HK5.out
    clear hcs hce hmm hml hgl hgr hcg0 HGr HBw
    have HNEXT : Aside0 (∀ (b : Bool), (b = (gr && (decide (LawW.cls c = 2) && decide (LawW.lowV c = rd mm (j : Int))))) → Cs.up great l (j + 1) = if b = true then mm.set j c else mm) := ⟨fun b hb => by
     rw [Cs.up, HMM.out]
     unfold Cs.one
     rw [HGRD.out, HCW.out, hb]
     simp only [Bool.and_eq_true, decide_eq_true_eq]⟩
    go_upto_region 12 with (fail)
    cases gr with
    | false =>
     have HBr := Aside0.mk (below_drew HBr.out)
     have HCS := Aside0.mk (show wr.drew.heap[gm]? = _ from HCS.out)
     refine start_ (n := 18) (S := fun w' => w'.cell? (adg.add j) = some (.bool false) ∧ w'.cell? ⟨gm, j, none⟩ = some (.int .i64 (rd mm (j : Int)))) (ds := []) #[false, false, false, false, false, false, false, false, false, false, false, false, false, false, false, false, false, false] (by kernel_rfl) rfl rfl ⟨hcg, hcm⟩ (fun hHeld => ?_)
     generalize wr.drew = z1 at HBr HCS hHeld ⊢
     refine take_ (i := 0) (N := some 53) (v := ?_) (a' := ?_) #[true, false, false, false, false, false, false, false, false, false, false, false, false, false, false, false, false, false] rfl rfl (by kernel_rfl) (fun _ _ _ h => h) (Or.inl ⟨by rfl, ?_⟩) hHeld ?_ ?_
     rotate_left
     ·rintro w' ⟨s0, s1⟩
      go_simp
      with_reducible rfl
     rotate_left
     ·simp only [Act.put, List.setIfInBounds_toArray, List.set_cons_zero, List.set_cons_succ, i64_w, i32_w]
      rfl
     refine take_ (i := 1) (N := some 54) (v := ?_) (a' := ?_) #[true, true, false, false, false, false, false, false, false, false, false, false, false, false, false, false, false, false] rfl rfl (by kernel_rfl) (fun _ _ _ h => h) (Or.inl ⟨by rfl, ?_⟩) hHeld ?_ ?_
     rotate_left
     ·rintro w' ⟨s0, s1⟩
      go_simp
      with_reducible rfl
     rotate_left
     ·simp only [Act.put, List.setIfInBounds_toArray, List.set_cons_zero, List.set_cons_succ, i64_w, i32_w]
      rfl
     refine take_ (i := 2) (N := some 55) (v := ?_) (a' := ?_) #[true, true, true, false, false, false, false, false, false, false, false, false, false, false, false, false, false, false] rfl rfl (by kernel_rfl) (fun _ _ _ h => h) (Or.inl ⟨by rfl, ?_⟩) hHeld ?_ ?_
     rotate_left
     ·rintro w' ⟨s0, s1⟩
      go_simp
      with_reducible rfl
     rotate_left
     ·simp only [Act.put, List.setIfInBounds_toArray, List.set_cons_zero, List.set_cons_succ, i64_w, i32_w]
      rfl
     refine take_ (i := 3) (N := some 56) (v := ?_) (a' := ?_) #[true, true, true, true, false, false, false, false, false, false, false, false, false, false, false, false, false, false] rfl rfl (by kernel_rfl) (fun _ _ _ h => h) (Or.inl ⟨by rfl, ?_⟩) hHeld ?_ ?_
     rotate_left
     ·rintro w' ⟨s0, s1⟩
      go_simp
      with_reducible rfl
     rotate_left
     ·simp only [Act.put, List.setIfInBounds_toArray, List.set_cons_zero, List.set_cons_succ, i64_w, i32_w]
      rfl
     refine take_ (i := 4) (N := some 57) (v := ?_) (a' := ?_) #[true, true, true, true, true, false, false, false, false, false, false, false, false, false, false, false, false, false] rfl rfl (by kernel_rfl) (fun _ _ _ h => h) (Or.inl ⟨by rfl, ?_⟩) hHeld ?_ ?_
     rotate_left
     ·rintro w' ⟨s0, s1⟩
      go_simp
      with_reducible rfl
     rotate_left
     ·simp only [Act.put, List.setIfInBounds_toArray, List.set_cons_zero, List.set_cons_succ, i64_w, i32_w]
      rfl
     refine take_ (i := 5) (N := some 58) (v := undef) (a' := ?_) #[true, true, true, true, true, true, false, false, false, false, false, false, false, false, false, false, false, false] rfl rfl (by kernel_rfl) (fun _ _ _ h => h) (Or.inr ⟨by rfl, rfl⟩) hHeld ?_ ?_
     rotate_left
     ·simp only [Act.put, List.setIfInBounds_toArray, List.set_cons_zero, List.set_cons_succ, i64_w, i32_w]
      rfl
     refine take_ (i := 6) (N := some 59) (v := undef) (a' := ?_) #[true, true, true, true, true, true, true, false, false, false, false, false, false, false, false, false, false, false] rfl rfl (by kernel_rfl) (fun _ _ _ h => h) (Or.inr ⟨by rfl, rfl⟩) hHeld ?_ ?_
     rotate_left
     ·simp only [Act.put, List.setIfInBounds_toArray, List.set_cons_zero, List.set_cons_succ, i64_w, i32_w]
      rfl
     refine take_ (i := 7) (N := some 60) (v := undef) (a' := ?_) #[true, true, true, true, true, true, true, true, false, false, false, false, false, false, false, false, false, false] rfl rfl (by kernel_rfl) (fun _ _ _ h => h) (Or.inr ⟨by rfl, rfl⟩) hHeld ?_ ?_
     rotate_left
     ·simp only [Act.put, List.setIfInBounds_toArray, List.set_cons_zero, List.set_cons_succ, i64_w, i32_w]
      rfl
     refine take_ (i := 8) (N := some 61) (v := ?_) (a' := ?_) #[true, true, true, true, true, true, true, true, true, false, false, false, false, false, false, false, false, false] rfl rfl (by kernel_rfl) (fun _ _ _ h => h) (Or.inl ⟨by rfl, ?_⟩) hHeld ?_ ?_
     rotate_left
     ·rintro w' ⟨s0, s1⟩
      go_simp
      with_reducible rfl
     rotate_left
     ·simp only [Act.put, List.setIfInBounds_toArray, List.set_cons_zero, List.set_cons_succ, i64_w, i32_w]
      rfl
     refine take_ (i := 9) (N := some 62) (v := ?_) (a' := ?_) #[true, true, true, true, true, true, true, true, true, true, false, false, false, false, false, false, false, false] rfl rfl (by kernel_rfl) (fun _ _ _ h => h) (Or.inl ⟨by rfl, ?_⟩) hHeld ?_ ?_
     rotate_left
     ·rintro w' ⟨s0, s1⟩
      go_simp
      with_reducible rfl
     rotate_left
     ·simp only [Act.put, List.setIfInBounds_toArray, List.set_cons_zero, List.set_cons_succ, i64_w, i32_w]
      rfl
     refine take_ (i := 10) (N := some 63) (v := undef) (a' := ?_) #[true, true, true, true, true, true, true, true, true, true, true, false, false, false, false, false, false, false] rfl rfl (by kernel_rfl) (fun _ _ _ h => h) (Or.inr ⟨by rfl, rfl⟩) hHeld ?_ ?_
     rotate_left
     ·simp only [Act.put, List.setIfInBounds_toArray, List.set_cons_zero, List.set_cons_succ, i64_w, i32_w]
      rfl
     refine take_ (i := 11) (N := some 64) (v := undef) (a' := ?_) #[true, true, true, true, true, true, true, true, true, true, true, true, false, false, false, false, false, false] rfl rfl (by kernel_rfl) (fun _ _ _ h => h) (Or.inr ⟨by rfl, rfl⟩) hHeld ?_ ?_
     rotate_left
     ·simp only [Act.put, List.setIfInBounds_toArray, List.set_cons_zero, List.set_cons_succ, i64_w, i32_w]
      rfl
     refine take_ (i := 12) (N := some 65) (v := undef) (a' := ?_) #[true, true, true, true, true, true, true, true, true, true, true, true, true, false, false, false, false, false] rfl rfl (by kernel_rfl) (fun _ _ _ h => h) (Or.inr ⟨by rfl, rfl⟩) hHeld ?_ ?_
     rotate_left
     ·simp only [Act.put, List.setIfInBounds_toArray, List.set_cons_zero, List.set_cons_succ, i64_w, i32_w]
      rfl
     refine take_ (i := 13) (N := some 66) (v := undef) (a' := ?_) #[true, true, true, true, true, true, true, true, true, true, true, true, true, true, false, false, false, false] rfl rfl (by kernel_rfl) (fun _ _ _ h => h) (Or.inr ⟨by rfl, rfl⟩) hHeld ?_ ?_
     rotate_left
     ·simp only [Act.put, List.setIfInBounds_toArray, List.set_cons_zero, List.set_cons_succ, i64_w, i32_w]
      rfl
     refine take_ (i := 14) (N := some 67) (v := undef) (a' := ?_) #[true, true, true, true, true, true, true, true, true, true, true, true, true, true, true, false, false, false] rfl rfl (by kernel_rfl) (fun _ _ _ h => h) (Or.inr ⟨by rfl, rfl⟩) hHeld ?_ ?_
     rotate_left
     ·simp only [Act.put, List.setIfInBounds_toArray, List.set_cons_zero, List.set_cons_succ, i64_w, i32_w]
      rfl
     refine take_ (i := 15) (N := some 68) (v := undef) (a' := ?_) #[true, true, true, true, true, true, true, true, true, true, true, true, true, true, true, true, false, false] rfl rfl (by kernel_rfl) (fun _ _ _ h => h) (Or.inr ⟨by rfl, rfl⟩) hHeld ?_ ?_
     rotate_left
     ·simp only [Act.put, List.setIfInBounds_toArray, List.set_cons_zero, List.set_cons_succ, i64_w, i32_w]
      rfl
     refine take_ (i := 16) (N := some 69) (v := undef) (a' := ?_) #[true, true, true, true, true, true, true, true, true, true, true, true, true, true, true, true, true, false] rfl rfl (by kernel_rfl) (fun _ _ _ h => h) (Or.inr ⟨by rfl, rfl⟩) hHeld ?_ ?_
     rotate_left
     ·simp only [Act.put, List.setIfInBounds_toArray, List.set_cons_zero, List.set_cons_succ, i64_w, i32_w]
      rfl
     refine take_ (i := 17) (N := some 70) (v := ?_) (a' := ?_) #[true, true, true, true, true, true, true, true, true, true, true, true, true, true, true, true, true, true] rfl rfl (by kernel_rfl) (fun _ _ _ h => h) (Or.inl ⟨by rfl, ?_⟩) hHeld ?_ ?_
     rotate_left
     ·rintro w' ⟨s0, s1⟩
      go_simp
      with_reducible rfl
     rotate_left
     ·simp only [Act.put, List.setIfInBounds_toArray, List.set_cons_zero, List.set_cons_succ, i64_w, i32_w]
      rfl
     refine done_ (by kernel_rfl) ?_
     go_wp2
     go_roundw
     case rel => exact ⟨j + 1, by simp, by omega, by omega, HBr, ⟨.inr (by omega)⟩, ⟨fun _ => by rw [HNEXT.out false (by simp)]; exact ⟨cells, HCS.out, HCE.out⟩⟩⟩
     case measure => (try simp [intOf]); omega
    | true =>
     by_cases hcl : LawW.cls c = 2
     ·have kcl : (LawW.cls c == 2) = true := beq_iff_eq.mpr hcl
      have kcl2 : decide (LawW.cls c = 2) = true := decide_eq_true hcl
      by_cases hlow : LawW.lowV c = rd mm (j : Int)
      ·have klo : (LawW.lowV c == rd mm (j : Int)) = true := beq_iff_eq.mpr hlow
       have klo2 : decide (LawW.lowV c = rd mm (j : Int)) = true := decide_eq_true hlow
       have HBr := Aside0.mk (below_drew HBr.out)
       have HCS := Aside0.mk (show wr.drew.heap[gm]? = _ from HCS.out)
       refine start_ (n := 18) (S := fun w' => w'.cell? (adg.add j) = some (.bool true) ∧ w'.cell? ⟨gm, j, none⟩ = some (.int .i64 (rd mm (j : Int)))) (ds := []) #[false, false, false, false, false, false, false, false, false, false, false, false, false, false, false, false, false, false] (by kernel_rfl) rfl rfl ⟨hcg, hcm⟩ (fun hHeld => ?_)
       generalize wr.drew = z1 at HBr HCS hHeld ⊢
       refine take_ (i := 0) (N := some 53) (v := ?_) (a' := ?_) #[true, false, false, false, false, false, false, false, false, false, false, false, false, false, false, false, false, false] rfl rfl (by kernel_rfl) (fun _ _ _ h => h) (Or.inl ⟨by rfl, ?_⟩) hHeld ?_ ?_
       rotate_left
       ·rintro w' ⟨s0, s1⟩
        go_simp
        with_reducible rfl
       rotate_left
       ·simp only [Act.put, List.setIfInBounds_toArray, List.set_cons_zero, List.set_cons_succ, i64_w, i32_w]
        rfl
       refine take_ (i := 1) (N := some 54) (v := ?_) (a' := ?_) #[true, true, false, false, false, false, false, false, false, false, false, false, false, false, false, false, false, false] rfl rfl (by kernel_rfl) (fun _ _ _ h => h) (Or.inl ⟨by rfl, ?_⟩) hHeld ?_ ?_
       rotate_left
       ·rintro w' ⟨s0, s1⟩
        go_simp
        with_reducible rfl
       rotate_left
       ·simp only [Act.put, List.setIfInBounds_toArray, List.set_cons_zero, List.set_cons_succ, i64_w, i32_w]
        rfl
       refine take_ (i := 2) (N := some 55) (v := ?_) (a' := ?_) #[true, true, true, false, false, false, false, false, false, false, false, false, false, false, false, false, false, false] rfl rfl (by kernel_rfl) (fun _ _ _ h => h) (Or.inl ⟨by rfl, ?_⟩) hHeld ?_ ?_
       rotate_left
       ·rintro w' ⟨s0, s1⟩
        go_simp
        with_reducible rfl
       rotate_left
       ·simp only [Act.put, List.setIfInBounds_toArray, List.set_cons_zero, List.set_cons_succ, i64_w, i32_w]
        rfl
       refine take_ (i := 3) (N := some 56) (v := ?_) (a' := ?_) #[true, true, true, true, false, false, false, false, false, false, false, false, false, false, false, false, false, false] rfl rfl (by kernel_rfl) (fun _ _ _ h => h) (Or.inl ⟨by rfl, ?_⟩) hHeld ?_ ?_
       rotate_left
       ·rintro w' ⟨s0, s1⟩
        go_simp
        with_reducible rfl
       rotate_left
       ·simp only [Act.put, List.setIfInBounds_toArray, List.set_cons_zero, List.set_cons_succ, i64_w, i32_w]
        rfl
       refine take_ (i := 4) (N := some 57) (v := ?_) (a' := ?_) #[true, true, true, true, true, false, false, false, false, false, false, false, false, false, false, false, false, false] rfl rfl (by kernel_rfl) (fun _ _ _ h => h) (Or.inl ⟨by rfl, ?_⟩) hHeld ?_ ?_
       rotate_left
       ·rintro w' ⟨s0, s1⟩
        go_simp
        with_reducible rfl
       rotate_left
       ·simp only [Act.put, List.setIfInBounds_toArray, List.set_cons_zero, List.set_cons_succ, i64_w, i32_w]
        rfl
       refine take_ (i := 5) (N := some 58) (v := ?_) (a' := ?_) #[true, true, true, true, true, true, false, false, false, false, false, false, false, false, false, false, false, false] rfl rfl (by kernel_rfl) (fun _ _ _ h => h) (Or.inl ⟨by rfl, ?_⟩) hHeld ?_ ?_
       rotate_left
       ·rintro w' ⟨s0, s1⟩
        go_simp
        with_reducible rfl
       rotate_left
       ·simp only [Act.put, List.setIfInBounds_toArray, List.set_cons_zero, List.set_cons_succ, i64_w, i32_w]
        rfl
       refine one_ (i := 6) (N := some 59) #[true, true, true, true, true, true, true, false, false, false, false, false, false, false, false, false, false, false] rfl rfl (by kernel_rfl) (by decide) (fun K hK => ?_)
       refine goes_ Tryd.func21 (by kernel_rfl) rfl #[.int .i64 c] (by rfl) rfl rfl (by (try simp only [List.map_toArray, List.map_cons, List.map_nil]); first | done | rfl) ?_
       with_reducible refine (colophonref04_Class.calls k c (LawW.cls c) _ (LawW.rclass_f k hk5 c)).mono ?_
       rintro e w' ⟨rfl, ⟨nd, rfl⟩⟩
       refine ⟨_, rfl, ?_⟩
       refine hK.out _ _ hHeld (fun hHeld => ?_)
       clear hK K
       refine norm_ (a' := ?_) ?_ ?_
       rotate_left
       ·show Act.put _ (some 59) _ = _
        simp only [Act.put, List.setIfInBounds_toArray, List.set_cons_zero, List.set_cons_succ, i64_w, i32_w]
        rfl
       refine take_ (i := 7) (N := some 60) (v := ?_) (a' := ?_) #[true, true, true, true, true, true, true, true, false, false, false, false, false, false, false, false, false, false] rfl rfl (by kernel_rfl) (fun _ _ _ h => h) (Or.inl ⟨by rfl, ?_⟩) hHeld ?_ ?_
       rotate_left
       ·rintro w' ⟨s0, s1⟩
        go_simp
        with_reducible rfl
       rotate_left
       ·simp only [Act.put, List.setIfInBounds_toArray, List.set_cons_zero, List.set_cons_succ, i64_w, i32_w]
        rfl
       refine take_ (i := 8) (N := some 61) (v := ?_) (a' := ?_) #[true, true, true, true, true, true, true, true, true, false, false, false, false, false, false, false, false, false] rfl rfl (by kernel_rfl) (fun _ _ _ h => h) (Or.inl ⟨by rfl, ?_⟩) hHeld ?_ ?_
       rotate_left
       ·rintro w' ⟨s0, s1⟩
        go_simp
        with_reducible rfl
       rotate_left
       ·simp only [Act.put, List.setIfInBounds_toArray, List.set_cons_zero, List.set_cons_succ, i64_w, i32_w]
        rfl
       refine take_ (i := 9) (N := some 62) (v := ?_) (a' := ?_) #[true, true, true, true, true, true, true, true, true, true, false, false, false, false, false, false, false, false] rfl rfl (by kernel_rfl) (fun _ _ _ h => h) (Or.inl ⟨by rfl, ?_⟩) hHeld ?_ ?_
       rotate_left
       ·rintro w' ⟨s0, s1⟩
        go_simp
        with_reducible rfl
       rotate_left
       ·simp only [Act.put, List.setIfInBounds_toArray, List.set_cons_zero, List.set_cons_succ, i64_w, i32_w]
        rfl
       refine take_ (i := 10) (N := some 63) (v := ?_) (a' := ?_) #[true, true, true, true, true, true, true, true, true, true, true, false, false, false, false, false, false, false] rfl rfl (by kernel_rfl) (fun _ _ _ h => h) (Or.inl ⟨by rfl, ?_⟩) hHeld ?_ ?_
       rotate_left
       ·rintro w' ⟨s0, s1⟩
        go_simp
        with_reducible rfl
       rotate_left
       ·simp only [Act.put, List.setIfInBounds_toArray, List.set_cons_zero, List.set_cons_succ, i64_w, i32_w]
        rfl
       refine take_ (i := 12) (N := some 65) (v := ?_) (a' := ?_) #[true, true, true, true, true, true, true, true, true, true, true, false, true, false, false, false, false, false] rfl rfl (by kernel_rfl) (fun _ _ _ h => h) (Or.inl ⟨by rfl, ?_⟩) hHeld ?_ ?_
       rotate_left
       ·rintro w' ⟨s0, s1⟩
        go_simp
        with_reducible rfl
       rotate_left
       ·simp only [Act.put, List.setIfInBounds_toArray, List.set_cons_zero, List.set_cons_succ, i64_w, i32_w]
        rfl
       refine take_ (i := 13) (N := some 66) (v := ?_) (a' := ?_) #[true, true, true, true, true, true, true, true, true, true, true, false, true, true, false, false, false, false] rfl rfl (by kernel_rfl) (fun _ _ _ h => h) (Or.inl ⟨by rfl, ?_⟩) hHeld ?_ ?_
       rotate_left
       ·rintro w' ⟨s0, s1⟩
        go_simp
        with_reducible rfl
       rotate_left
       ·simp only [Act.put, List.setIfInBounds_toArray, List.set_cons_zero, List.set_cons_succ, i64_w, i32_w]
        rfl
       refine take_ (i := 14) (N := some 67) (v := ?_) (a' := ?_) #[true, true, true, true, true, true, true, true, true, true, true, false, true, true, true, false, false, false] rfl rfl (by kernel_rfl) (fun _ _ _ h => h) (Or.inl ⟨by rfl, ?_⟩) hHeld ?_ ?_
       rotate_left
       ·rintro w' ⟨s0, s1⟩
        go_simp
        with_reducible rfl
       rotate_left
       ·simp only [Act.put, List.setIfInBounds_toArray, List.set_cons_zero, List.set_cons_succ, i64_w, i32_w]
        rfl
       refine take_ (i := 15) (N := some 68) (v := ?_) (a' := ?_) #[true, true, true, true, true, true, true, true, true, true, true, false, true, true, true, true, false, false] rfl rfl (by kernel_rfl) (fun _ _ _ h => h) (Or.inl ⟨by rfl, ?_⟩) hHeld ?_ ?_
       rotate_left
       ·rintro w' ⟨s0, s1⟩
        go_simp
        with_reducible rfl
       rotate_left
       ·simp only [Act.put, List.setIfInBounds_toArray, List.set_cons_zero, List.set_cons_succ, i64_w, i32_w]
        rfl
       refine one_ (i := 11) (N := some 64) #[true, true, true, true, true, true, true, true, true, true, true, true, true, true, true, true, false, false] rfl rfl (by kernel_rfl) (by decide) (fun K hK => ?_)
       refine goes_ Tryd.func22 (by kernel_rfl) rfl #[.int .i64 c] (by rfl) rfl rfl (by (try simp only [List.map_toArray, List.map_cons, List.map_nil]); first | done | rfl) ?_
       with_reducible refine (colophonref04_Lower.calls c (LawW.lowV c) _ (LawW.rlower_f c)).mono ?_
       rintro e w' ⟨rfl, ⟨nd, rfl⟩⟩
       refine ⟨_, rfl, ?_⟩
       refine hK.out _ _ hHeld (fun hHeld => ?_)
       clear hK K
       refine norm_ (a' := ?_) ?_ ?_
       rotate_left
       ·show Act.put _ (some 64) _ = _
        simp only [Act.put, List.setIfInBounds_toArray, List.set_cons_zero, List.set_cons_succ, i64_w, i32_w]
        rfl
       refine take_ (i := 16) (N := some 69) (v := ?_) (a' := ?_) #[true, true, true, true, true, true, true, true, true, true, true, true, true, true, true, true, true, false] rfl rfl (by kernel_rfl) (fun _ _ _ h => h) (Or.inl ⟨by rfl, ?_⟩) hHeld ?_ ?_
       rotate_left
       ·rintro w' ⟨s0, s1⟩
        go_simp
        with_reducible rfl
       rotate_left
       ·simp only [Act.put, List.setIfInBounds_toArray, List.set_cons_zero, List.set_cons_succ, i64_w, i32_w]
        rfl
       refine take_ (i := 17) (N := some 70) (v := ?_) (a' := ?_) #[true, true, true, true, true, true, true, true, true, true, true, true, true, true, true, true, true, true] rfl rfl (by kernel_rfl) (fun _ _ _ h => h) (Or.inl ⟨by rfl, ?_⟩) hHeld ?_ ?_
       rotate_left
       ·rintro w' ⟨s0, s1⟩
        go_simp
        with_reducible rfl
       rotate_left
       ·simp only [Act.put, List.setIfInBounds_toArray, List.set_cons_zero, List.set_cons_succ, i64_w, i32_w]
        rfl
       refine done_ (by kernel_rfl) ?_
       have hcmz : z1.cell? ⟨gm, j, none⟩ = some (.int .i64 (rd mm (j : Int))) := (blk_cell HCS.out j).trans (HCE.out j (by have := HML.out; omega))
       have hfroz := blk_frozen HCS.out j
       go_wp2
       go_roundw
       case rel => exact ⟨j + 1, by simp, by omega, by omega, ⟨below_set (pw_below_drewN HBr.out _) HGL.out⟩, ⟨.inr (by omega)⟩, ⟨fun _ => by rw [HNEXT.out true (by simp [hcl, hlow])]; exact Cs.row_set HCS.out HCE.out c (by have := HML.out; omega)⟩⟩
       case measure => (try simp [intOf]); omega
      ·have klo : (LawW.lowV c == rd mm (j : Int)) = false := beq_eq_false_iff_ne.mpr hlow
       have klo2 : decide (LawW.lowV c = rd mm (j : Int)) = false := decide_eq_false hlow
       have HBr := Aside0.mk (below_drew HBr.out)
       have HCS := Aside0.mk (show wr.drew.heap[gm]? = _ from HCS.out)
       refine start_ (n := 18) (S := fun w' => w'.cell? (adg.add j) = some (.bool true) ∧ w'.cell? ⟨gm, j, none⟩ = some (.int .i64 (rd mm (j : Int)))) (ds := []) #[false, false, false, false, false, false, false, false, false, false, false, false, false, false, false, false, false, false] (by kernel_rfl) rfl rfl ⟨hcg, hcm⟩ (fun hHeld => ?_)
       generalize wr.drew = z1 at HBr HCS hHeld ⊢
       refine take_ (i := 0) (N := some 53) (v := ?_) (a' := ?_) #[true, false, false, false, false, false, false, false, false, false, false, false, false, false, false, false, false, false] rfl rfl (by kernel_rfl) (fun _ _ _ h => h) (Or.inl ⟨by rfl, ?_⟩) hHeld ?_ ?_
       rotate_left
       ·rintro w' ⟨s0, s1⟩
        go_simp
        with_reducible rfl
       rotate_left
       ·simp only [Act.put, List.setIfInBounds_toArray, List.set_cons_zero, List.set_cons_succ, i64_w, i32_w]
        rfl
       refine take_ (i := 1) (N := some 54) (v := ?_) (a' := ?_) #[true, true, false, false, false, false, false, false, false, false, false, false, false, false, false, false, false, false] rfl rfl (by kernel_rfl) (fun _ _ _ h => h) (Or.inl ⟨by rfl, ?_⟩) hHeld ?_ ?_
       rotate_left
       ·rintro w' ⟨s0, s1⟩
        go_simp
        with_reducible rfl
       rotate_left
       ·simp only [Act.put, List.setIfInBounds_toArray, List.set_cons_zero, List.set_cons_succ, i64_w, i32_w]
        rfl
       refine take_ (i := 2) (N := some 55) (v := ?_) (a' := ?_) #[true, true, true, false, false, false, false, false, false, false, false, false, false, false, false, false, false, false] rfl rfl (by kernel_rfl) (fun _ _ _ h => h) (Or.inl ⟨by rfl, ?_⟩) hHeld ?_ ?_
       rotate_left
       ·rintro w' ⟨s0, s1⟩
        go_simp
        with_reducible rfl
       rotate_left
       ·simp only [Act.put, List.setIfInBounds_toArray, List.set_cons_zero, List.set_cons_succ, i64_w, i32_w]
        rfl
       refine take_ (i := 3) (N := some 56) (v := ?_) (a' := ?_) #[true, true, true, true, false, false, false, false, false, false, false, false, false, false, false, false, false, false] rfl rfl (by kernel_rfl) (fun _ _ _ h => h) (Or.inl ⟨by rfl, ?_⟩) hHeld ?_ ?_
       rotate_left
       ·rintro w' ⟨s0, s1⟩
        go_simp
        with_reducible rfl
       rotate_left
       ·simp only [Act.put, List.setIfInBounds_toArray, List.set_cons_zero, List.set_cons_succ, i64_w, i32_w]
        rfl
       refine take_ (i := 4) (N := some 57) (v := ?_) (a' := ?_) #[true, true, true, true, true, false, false, false, false, false, false, false, false, false, false, false, false, false] rfl rfl (by kernel_rfl) (fun _ _ _ h => h) (Or.inl ⟨by rfl, ?_⟩) hHeld ?_ ?_
       rotate_left
       ·rintro w' ⟨s0, s1⟩
        go_simp
        with_reducible rfl
       rotate_left
       ·simp only [Act.put, List.setIfInBounds_toArray, List.set_cons_zero, List.set_cons_succ, i64_w, i32_w]
        rfl
       refine take_ (i := 5) (N := some 58) (v := ?_) (a' := ?_) #[true, true, true, true, true, true, false, false, false, false, false, false, false, false, false, false, false, false] rfl rfl (by kernel_rfl) (fun _ _ _ h => h) (Or.inl ⟨by rfl, ?_⟩) hHeld ?_ ?_
       rotate_left
       ·rintro w' ⟨s0, s1⟩
        go_simp
        with_reducible rfl
       rotate_left
       ·simp only [Act.put, List.setIfInBounds_toArray, List.set_cons_zero, List.set_cons_succ, i64_w, i32_w]
        rfl
       refine one_ (i := 6) (N := some 59) #[true, true, true, true, true, true, true, false, false, false, false, false, false, false, false, false, false, false] rfl rfl (by kernel_rfl) (by decide) (fun K hK => ?_)
       refine goes_ Tryd.func21 (by kernel_rfl) rfl #[.int .i64 c] (by rfl) rfl rfl (by (try simp only [List.map_toArray, List.map_cons, List.map_nil]); first | done | rfl) ?_
       with_reducible refine (colophonref04_Class.calls k c (LawW.cls c) _ (LawW.rclass_f k hk5 c)).mono ?_
       rintro e w' ⟨rfl, ⟨nd, rfl⟩⟩
       refine ⟨_, rfl, ?_⟩
       refine hK.out _ _ hHeld (fun hHeld => ?_)
       clear hK K
       refine norm_ (a' := ?_) ?_ ?_
       rotate_left
       ·show Act.put _ (some 59) _ = _
        simp only [Act.put, List.setIfInBounds_toArray, List.set_cons_zero, List.set_cons_succ, i64_w, i32_w]
        rfl
       refine take_ (i := 7) (N := some 60) (v := ?_) (a' := ?_) #[true, true, true, true, true, true, true, true, false, false, false, false, false, false, false, false, false, false] rfl rfl (by kernel_rfl) (fun _ _ _ h => h) (Or.inl ⟨by rfl, ?_⟩) hHeld ?_ ?_
       rotate_left
       ·rintro w' ⟨s0, s1⟩
        go_simp
        with_reducible rfl
       rotate_left
       ·simp only [Act.put, List.setIfInBounds_toArray, List.set_cons_zero, List.set_cons_succ, i64_w, i32_w]
        rfl
       refine take_ (i := 8) (N := some 61) (v := ?_) (a' := ?_) #[true, true, true, true, true, true, true, true, true, false, false, false, false, false, false, false, false, false] rfl rfl (by kernel_rfl) (fun _ _ _ h => h) (Or.inl ⟨by rfl, ?_⟩) hHeld ?_ ?_
       rotate_left
       ·rintro w' ⟨s0, s1⟩
        go_simp
        with_reducible rfl
       rotate_left
       ·simp only [Act.put, List.setIfInBounds_toArray, List.set_cons_zero, List.set_cons_succ, i64_w, i32_w]
        rfl
       refine take_ (i := 9) (N := some 62) (v := ?_) (a' := ?_) #[true, true, true, true, true, true, true, true, true, true, false, false, false, false, false, false, false, false] rfl rfl (by kernel_rfl) (fun _ _ _ h => h) (Or.inl ⟨by rfl, ?_⟩) hHeld ?_ ?_
       rotate_left
       ·rintro w' ⟨s0, s1⟩
        go_simp
        with_reducible rfl
       rotate_left
       ·simp only [Act.put, List.setIfInBounds_toArray, List.set_cons_zero, List.set_cons_succ, i64_w, i32_w]
        rfl
       refine take_ (i := 10) (N := some 63) (v := ?_) (a' := ?_) #[true, true, true, true, true, true, true, true, true, true, true, false, false, false, false, false, false, false] rfl rfl (by kernel_rfl) (fun _ _ _ h => h) (Or.inl ⟨by rfl, ?_⟩) hHeld ?_ ?_
       rotate_left
       ·rintro w' ⟨s0, s1⟩
        go_simp
        with_reducible rfl
       rotate_left
       ·simp only [Act.put, List.setIfInBounds_toArray, List.set_cons_zero, List.set_cons_succ, i64_w, i32_w]
        rfl
       refine take_ (i := 12) (N := some 65) (v := ?_) (a' := ?_) #[true, true, true, true, true, true, true, true, true, true, true, false, true, false, false, false, false, false] rfl rfl (by kernel_rfl) (fun _ _ _ h => h) (Or.inl ⟨by rfl, ?_⟩) hHeld ?_ ?_
       rotate_left
       ·rintro w' ⟨s0, s1⟩
        go_simp
        with_reducible rfl
       rotate_left
       ·simp only [Act.put, List.setIfInBounds_toArray, List.set_cons_zero, List.set_cons_succ, i64_w, i32_w]
        rfl
       refine take_ (i := 13) (N := some 66) (v := ?_) (a' := ?_) #[true, true, true, true, true, true, true, true, true, true, true, false, true, true, false, false, false, false] rfl rfl (by kernel_rfl) (fun _ _ _ h => h) (Or.inl ⟨by rfl, ?_⟩) hHeld ?_ ?_
       rotate_left
       ·rintro w' ⟨s0, s1⟩
        go_simp
        with_reducible rfl
       rotate_left
       ·simp only [Act.put, List.setIfInBounds_toArray, List.set_cons_zero, List.set_cons_succ, i64_w, i32_w]
        rfl
       refine take_ (i := 14) (N := some 67) (v := ?_) (a' := ?_) #[true, true, true, true, true, true, true, true, true, true, true, false, true, true, true, false, false, false] rfl rfl (by kernel_rfl) (fun _ _ _ h => h) (Or.inl ⟨by rfl, ?_⟩) hHeld ?_ ?_
       rotate_left
       ·rintro w' ⟨s0, s1⟩
        go_simp
        with_reducible rfl
       rotate_left
       ·simp only [Act.put, List.setIfInBounds_toArray, List.set_cons_zero, List.set_cons_succ, i64_w, i32_w]
        rfl
       refine take_ (i := 15) (N := some 68) (v := ?_) (a' := ?_) #[true, true, true, true, true, true, true, true, true, true, true, false, true, true, true, true, false, false] rfl rfl (by kernel_rfl) (fun _ _ _ h => h) (Or.inl ⟨by rfl, ?_⟩) hHeld ?_ ?_
       rotate_left
       ·rintro w' ⟨s0, s1⟩
        go_simp
        with_reducible rfl
       rotate_left
       ·simp only [Act.put, List.setIfInBounds_toArray, List.set_cons_zero, List.set_cons_succ, i64_w, i32_w]
        rfl
       refine one_ (i := 11) (N := some 64) #[true, true, true, true, true, true, true, true, true, true, true, true, true, true, true, true, false, false] rfl rfl (by kernel_rfl) (by decide) (fun K hK => ?_)
       refine goes_ Tryd.func22 (by kernel_rfl) rfl #[.int .i64 c] (by rfl) rfl rfl (by (try simp only [List.map_toArray, List.map_cons, List.map_nil]); first | done | rfl) ?_
       with_reducible refine (colophonref04_Lower.calls c (LawW.lowV c) _ (LawW.rlower_f c)).mono ?_
       rintro e w' ⟨rfl, ⟨nd, rfl⟩⟩
       refine ⟨_, rfl, ?_⟩
       refine hK.out _ _ hHeld (fun hHeld => ?_)
       clear hK K
       refine norm_ (a' := ?_) ?_ ?_
       rotate_left
       ·show Act.put _ (some 64) _ = _
        simp only [Act.put, List.setIfInBounds_toArray, List.set_cons_zero, List.set_cons_succ, i64_w, i32_w]
        rfl
       refine take_ (i := 16) (N := some 69) (v := ?_) (a' := ?_) #[true, true, true, true, true, true, true, true, true, true, true, true, true, true, true, true, true, false] rfl rfl (by kernel_rfl) (fun _ _ _ h => h) (Or.inl ⟨by rfl, ?_⟩) hHeld ?_ ?_
       rotate_left
       ·rintro w' ⟨s0, s1⟩
        go_simp
        with_reducible rfl
       rotate_left
       ·simp only [Act.put, List.setIfInBounds_toArray, List.set_cons_zero, List.set_cons_succ, i64_w, i32_w]
        rfl
       refine take_ (i := 17) (N := some 70) (v := ?_) (a' := ?_) #[true, true, true, true, true, true, true, true, true, true, true, true, true, true, true, true, true, true] rfl rfl (by kernel_rfl) (fun _ _ _ h => h) (Or.inl ⟨by rfl, ?_⟩) hHeld ?_ ?_
       rotate_left
       ·rintro w' ⟨s0, s1⟩
        go_simp
        with_reducible rfl
       rotate_left
       ·simp only [Act.put, List.setIfInBounds_toArray, List.set_cons_zero, List.set_cons_succ, i64_w, i32_w]
        rfl
       refine done_ (by kernel_rfl) ?_
       go_wp2
       go_roundw
       case rel => exact ⟨j + 1, by simp, by omega, by omega, ⟨pw_below_drewN HBr.out _⟩, ⟨.inr (by omega)⟩, ⟨fun _ => by rw [HNEXT.out false (by simp [hlow])]; exact ⟨cells, HCS.out, HCE.out⟩⟩⟩
       case measure => (try simp [intOf]); omega
     ·have kcl : (LawW.cls c == 2) = false := beq_eq_false_iff_ne.mpr hcl
      have kcl2 : decide (LawW.cls c = 2) = false := decide_eq_false hcl
      have HBr := Aside0.mk (below_drew HBr.out)
      have HCS := Aside0.mk (show wr.drew.heap[gm]? = _ from HCS.out)
      refine start_ (n := 18) (S := fun w' => w'.cell? (adg.add j) = some (.bool true) ∧ w'.cell? ⟨gm, j, none⟩ = some (.int .i64 (rd mm (j : Int)))) (ds := []) #[false, false, false, false, false, false, false, false, false, false, false, false, false, false, false, false, false, false] (by kernel_rfl) rfl rfl ⟨hcg, hcm⟩ (fun hHeld => ?_)
      generalize wr.drew = z1 at HBr HCS hHeld ⊢
      refine take_ (i := 0) (N := some 53) (v := ?_) (a' := ?_) #[true, false, false, false, false, false, false, false, false, false, false, false, false, false, false, false, false, false] rfl rfl (by kernel_rfl) (fun _ _ _ h => h) (Or.inl ⟨by rfl, ?_⟩) hHeld ?_ ?_
      rotate_left
      ·rintro w' ⟨s0, s1⟩
       go_simp
       with_reducible rfl
      rotate_left
      ·simp only [Act.put, List.setIfInBounds_toArray, List.set_cons_zero, List.set_cons_succ, i64_w, i32_w]
       rfl
      refine take_ (i := 1) (N := some 54) (v := ?_) (a' := ?_) #[true, true, false, false, false, false, false, false, false, false, false, false, false, false, false, false, false, false] rfl rfl (by kernel_rfl) (fun _ _ _ h => h) (Or.inl ⟨by rfl, ?_⟩) hHeld ?_ ?_
      rotate_left
      ·rintro w' ⟨s0, s1⟩
       go_simp
       with_reducible rfl
      rotate_left
      ·simp only [Act.put, List.setIfInBounds_toArray, List.set_cons_zero, List.set_cons_succ, i64_w, i32_w]
       rfl
      refine take_ (i := 2) (N := some 55) (v := ?_) (a' := ?_) #[true, true, true, false, false, false, false, false, false, false, false, false, false, false, false, false, false, false] rfl rfl (by kernel_rfl) (fun _ _ _ h => h) (Or.inl ⟨by rfl, ?_⟩) hHeld ?_ ?_
      rotate_left
      ·rintro w' ⟨s0, s1⟩
       go_simp
       with_reducible rfl
      rotate_left
      ·simp only [Act.put, List.setIfInBounds_toArray, List.set_cons_zero, List.set_cons_succ, i64_w, i32_w]
       rfl
      refine take_ (i := 3) (N := some 56) (v := ?_) (a' := ?_) #[true, true, true, true, false, false, false, false, false, false, false, false, false, false, false, false, false, false] rfl rfl (by kernel_rfl) (fun _ _ _ h => h) (Or.inl ⟨by rfl, ?_⟩) hHeld ?_ ?_
      rotate_left
      ·rintro w' ⟨s0, s1⟩
       go_simp
       with_reducible rfl
      rotate_left
      ·simp only [Act.put, List.setIfInBounds_toArray, List.set_cons_zero, List.set_cons_succ, i64_w, i32_w]
       rfl
      refine take_ (i := 4) (N := some 57) (v := ?_) (a' := ?_) #[true, true, true, true, true, false, false, false, false, false, false, false, false, false, false, false, false, false] rfl rfl (by kernel_rfl) (fun _ _ _ h => h) (Or.inl ⟨by rfl, ?_⟩) hHeld ?_ ?_
      rotate_left
      ·rintro w' ⟨s0, s1⟩
       go_simp
       with_reducible rfl
      rotate_left
      ·simp only [Act.put, List.setIfInBounds_toArray, List.set_cons_zero, List.set_cons_succ, i64_w, i32_w]
       rfl
      refine take_ (i := 5) (N := some 58) (v := ?_) (a' := ?_) #[true, true, true, true, true, true, false, false, false, false, false, false, false, false, false, false, false, false] rfl rfl (by kernel_rfl) (fun _ _ _ h => h) (Or.inl ⟨by rfl, ?_⟩) hHeld ?_ ?_
      rotate_left
      ·rintro w' ⟨s0, s1⟩
       go_simp
       with_reducible rfl
      rotate_left
      ·simp only [Act.put, List.setIfInBounds_toArray, List.set_cons_zero, List.set_cons_succ, i64_w, i32_w]
       rfl
      refine one_ (i := 6) (N := some 59) #[true, true, true, true, true, true, true, false, false, false, false, false, false, false, false, false, false, false] rfl rfl (by kernel_rfl) (by decide) (fun K hK => ?_)
      refine goes_ Tryd.func21 (by kernel_rfl) rfl #[.int .i64 c] (by rfl) rfl rfl (by (try simp only [List.map_toArray, List.map_cons, List.map_nil]); first | done | rfl) ?_
      with_reducible refine (colophonref04_Class.calls k c (LawW.cls c) _ (LawW.rclass_f k hk5 c)).mono ?_
      rintro e w' ⟨rfl, ⟨nd, rfl⟩⟩
      refine ⟨_, rfl, ?_⟩
      refine hK.out _ _ hHeld (fun hHeld => ?_)
      clear hK K
      refine norm_ (a' := ?_) ?_ ?_
      rotate_left
      ·show Act.put _ (some 59) _ = _
       simp only [Act.put, List.setIfInBounds_toArray, List.set_cons_zero, List.set_cons_succ, i64_w, i32_w]
       rfl
      refine take_ (i := 7) (N := some 60) (v := ?_) (a' := ?_) #[true, true, true, true, true, true, true, true, false, false, false, false, false, false, false, false, false, false] rfl rfl (by kernel_rfl) (fun _ _ _ h => h) (Or.inl ⟨by rfl, ?_⟩) hHeld ?_ ?_
      rotate_left
      ·rintro w' ⟨s0, s1⟩
       go_simp
       with_reducible rfl
      rotate_left
      ·simp only [Act.put, List.setIfInBounds_toArray, List.set_cons_zero, List.set_cons_succ, i64_w, i32_w]
       rfl
      refine take_ (i := 8) (N := some 61) (v := ?_) (a' := ?_) #[true, true, true, true, true, true, true, true, true, false, false, false, false, false, false, false, false, false] rfl rfl (by kernel_rfl) (fun _ _ _ h => h) (Or.inl ⟨by rfl, ?_⟩) hHeld ?_ ?_
      rotate_left
      ·rintro w' ⟨s0, s1⟩
       go_simp
       with_reducible rfl
      rotate_left
      ·simp only [Act.put, List.setIfInBounds_toArray, List.set_cons_zero, List.set_cons_succ, i64_w, i32_w]
       rfl
      refine take_ (i := 9) (N := some 62) (v := ?_) (a' := ?_) #[true, true, true, true, true, true, true, true, true, true, false, false, false, false, false, false, false, false] rfl rfl (by kernel_rfl) (fun _ _ _ h => h) (Or.inl ⟨by rfl, ?_⟩) hHeld ?_ ?_
      rotate_left
      ·rintro w' ⟨s0, s1⟩
       go_simp
       with_reducible rfl
      rotate_left
      ·simp only [Act.put, List.setIfInBounds_toArray, List.set_cons_zero, List.set_cons_succ, i64_w, i32_w]
       rfl
      refine take_ (i := 10) (N := some 63) (v := undef) (a' := ?_) #[true, true, true, true, true, true, true, true, true, true, true, false, false, false, false, false, false, false] rfl rfl (by kernel_rfl) (fun _ _ _ h => h) (Or.inr ⟨by rfl, rfl⟩) hHeld ?_ ?_
      rotate_left
      ·simp only [Act.put, List.setIfInBounds_toArray, List.set_cons_zero, List.set_cons_succ, i64_w, i32_w]
       rfl
      refine take_ (i := 11) (N := some 64) (v := undef) (a' := ?_) #[true, true, true, true, true, true, true, true, true, true, true, true, false, false, false, false, false, false] rfl rfl (by kernel_rfl) (fun _ _ _ h => h) (Or.inr ⟨by rfl, rfl⟩) hHeld ?_ ?_
      rotate_left
      ·simp only [Act.put, List.setIfInBounds_toArray, List.set_cons_zero, List.set_cons_succ, i64_w, i32_w]
       rfl
      refine take_ (i := 12) (N := some 65) (v := undef) (a' := ?_) #[true, true, true, true, true, true, true, true, true, true, true, true, true, false, false, false, false, false] rfl rfl (by kernel_rfl) (fun _ _ _ h => h) (Or.inr ⟨by rfl, rfl⟩) hHeld ?_ ?_
      rotate_left
      ·simp only [Act.put, List.setIfInBounds_toArray, List.set_cons_zero, List.set_cons_succ, i64_w, i32_w]
       rfl
      refine take_ (i := 13) (N := some 66) (v := undef) (a' := ?_) #[true, true, true, true, true, true, true, true, true, true, true, true, true, true, false, false, false, false] rfl rfl (by kernel_rfl) (fun _ _ _ h => h) (Or.inr ⟨by rfl, rfl⟩) hHeld ?_ ?_
      rotate_left
      ·simp only [Act.put, List.setIfInBounds_toArray, List.set_cons_zero, List.set_cons_succ, i64_w, i32_w]
       rfl
      refine take_ (i := 14) (N := some 67) (v := undef) (a' := ?_) #[true, true, true, true, true, true, true, true, true, true, true, true, true, true, true, false, false, false] rfl rfl (by kernel_rfl) (fun _ _ _ h => h) (Or.inr ⟨by rfl, rfl⟩) hHeld ?_ ?_
      rotate_left
      ·simp only [Act.put, List.setIfInBounds_toArray, List.set_cons_zero, List.set_cons_succ, i64_w, i32_w]
       rfl
      refine take_ (i := 15) (N := some 68) (v := undef) (a' := ?_) #[true, true, true, true, true, true, true, true, true, true, true, true, true, true, true, true, false, false] rfl rfl (by kernel_rfl) (fun _ _ _ h => h) (Or.inr ⟨by rfl, rfl⟩) hHeld ?_ ?_
      rotate_left
      ·simp only [Act.put, List.setIfInBounds_toArray, List.set_cons_zero, List.set_cons_succ, i64_w, i32_w]
       rfl
      refine take_ (i := 16) (N := some 69) (v := undef) (a' := ?_) #[true, true, true, true, true, true, true, true, true, true, true, true, true, true, true, true, true, false] rfl rfl (by kernel_rfl) (fun _ _ _ h => h) (Or.inr ⟨by rfl, rfl⟩) hHeld ?_ ?_
      rotate_left
      ·simp only [Act.put, List.setIfInBounds_toArray, List.set_cons_zero, List.set_cons_succ, i64_w, i32_w]
       rfl
      refine take_ (i := 17) (N := some 70) (v := ?_) (a' := ?_) #[true, true, true, true, true, true, true, true, true, true, true, true, true, true, true, true, true, true] rfl rfl (by kernel_rfl) (fun _ _ _ h => h) (Or.inl ⟨by rfl, ?_⟩) hHeld ?_ ?_
      rotate_left
      ·rintro w' ⟨s0, s1⟩
       go_simp
       with_reducible rfl
      rotate_left
      ·simp only [Act.put, List.setIfInBounds_toArray, List.set_cons_zero, List.set_cons_succ, i64_w, i32_w]
       rfl
      refine done_ (by kernel_rfl) ?_
      go_wp2
      go_roundw
      case rel => exact ⟨j + 1, by simp, by omega, by omega, ⟨pw_below_drewN HBr.out _⟩, ⟨.inr (by omega)⟩, ⟨fun _ => by rw [HNEXT.out false (by simp [hcl])]; exact ⟨cells, HCS.out, HCE.out⟩⟩⟩
      case measure => (try simp [intOf]); omega
   ·have kg1 : decide ((j : Int) < (great.length : Int)) = false := decide_eq_false (by omega)
    have kg2 : decide (j < great.length) = false := decide_eq_false hlg
    have hjm : min l.length great.length = j := by omega
    have hmU : m = Cs.up great l j := by rw [HMD.out, hjm]
    have hml : m.length = l.length := by rw [hmU, Cs.up_len]
    have HMC : Aside0 (Kd.C (Kd.int .i64) wr Am m.length m) := by
     by_cases h0 : 0 < l.length
     ·obtain ⟨cells, hcs, hce⟩ := HGr.out h0
      obtain ⟨eA, _, _⟩ := HGM.out h0
      subst eA
      have hin : Wd.In [gm] wr ⟨0, some ⟨gm, 0, none⟩, m.length, m⟩ := ⟨Nat.le_refl _, by show m.length ≤ _; omega, gm, 0, cells, rfl, by simp, hcs, fun i hi => by rw [Nat.zero_add]; rw [hmU] at hi ⊢; exact hce i hi⟩
      exact ⟨hin.C⟩
     ·have hb7 := HBw.out.resolve_right h0
      have h1 := Kd.C_below (Kd.R_reads' HM.out).2.2 hb7
      have e1 : l = [] := List.eq_nil_of_length_eq_zero (by omega)
      have e2 : m = [] := List.eq_nil_of_length_eq_zero (by omega)
      rw [e1] at h1
      rw [e2]
      exact ⟨h1⟩
    have HMC2 : Aside0 (m.length ≤ cm) := ⟨by rw [hml]; exact (Kd.R_reads' HM.out).2.1⟩
    have HX := HBr
    have HY := Aside0.mk (Below.refl wr.heap.size wr)
    clear HGr HBw hmU hjm HMD HGM HM HK5
    go_wp2_with (first
     | ((with_reducible refine gate_callee (f := 19) rfl ?_); refine goesL_ (some 77) rfl rfl Tryd.func19 (by kernel_rfl) rfl #[v, .slice Al l.length cl] rfl (by (try simp only [List.map_toArray, List.map_cons, List.map_nil]); first | done | rfl) ?_; (with_reducible refine (Cs.pts k _ v s _ _ l q _ _ rfl (HS.out.below HX.out) (Nat.le_trans HBSZ.out HX.out.size) (Kd.C_below (Kd.R_reads' HL.out).2.2 HX.out) (Kd.R_reads' HL.out).2.1 HQ.out HQO.out).mono ?_); rintro e y77 ⟨x77, rfl, ho, hb⟩; refine ⟨_, rfl, ?_⟩; have F77 := Aside0.mk ho; clear ho; obtain ⟨A77, c77, rfl⟩ := Kd.R_slice F77.out; have h_ := Aside0.mk (below_step HY.out hb); clear HY; have HY := h_; clear h_; have n_ := Aside0.mk (below_step HX.out hb); clear HX hb; have HX := n_; clear n_)
     | ((with_reducible refine gate_callee (f := 19) rfl ?_); refine goesL_ (some 80) rfl rfl Tryd.func19 (by kernel_rfl) rfl #[v, .slice Am l.length cm] rfl (by (try simp only [List.map_toArray, List.map_cons, List.map_nil]); first | done | rfl) ?_; (with_reducible refine (Cs.pts k _ v s _ _ m q _ _ hml (HS.out.below HX.out) (Nat.le_trans HBSZ.out HX.out.size) (Kd.C_below HMC.out HY.out) HMC2.out HQ2.out HQO2.out).mono ?_); rintro e y80 ⟨x80, rfl, ho, hb⟩; refine ⟨_, rfl, ?_⟩; have F80 := Aside0.mk ho; clear ho; obtain ⟨A80, c80, rfl⟩ := Kd.R_slice F80.out; have h_ := Aside0.mk (below_step HY.out hb); clear HY; have HY := h_; clear h_; have n_ := Aside0.mk (below_step HX.out hb); have r_ := Aside0.mk (Kd.R_below F77.out hb); clear F77; have F77 := r_; clear r_; clear HX hb; have HX := n_; clear n_)
     | ((with_reducible refine gate_callee (f := 16) rfl ?_); refine goesL_ (some 81) rfl rfl Tryd.func16 (by kernel_rfl) rfl #[.slice A77 q.length c77, .slice A80 q.length c80] rfl (by (try simp only [List.map_toArray, List.map_cons, List.map_nil]); first | done | rfl) ?_; (with_reducible refine (colophonkeep_Same.calls k _ _ q _ _ q true _ (Kd.R_reads' F77.out).2.2 (Kd.R_reads' F77.out).2.1 (Kd.R_reads' F80.out).2.2 (Kd.R_reads' F80.out).2.1 HSQ.out).mono ?_); rintro e y81 ⟨rfl, hd⟩; refine ⟨_, rfl, ?_⟩; have hb := hd.below; clear hd F77 F80; have h_ := Aside0.mk (below_step HY.out hb); clear HY; have HY := h_; clear h_; have n_ := Aside0.mk (below_step HX.out hb); clear HX hb; have HX := n_; clear n_)
     | ((with_reducible refine gate_callee (f := 17) rfl ?_); (try (refine gate_guard (by rfl) ?_; dsimp only)); refine goesL_ (some 85) rfl rfl Tryd.func17 (by kernel_rfl) rfl #[v, .slice Al l.length cl] rfl (by (try simp only [List.map_toArray, List.map_cons, List.map_nil]); first | done | rfl) ?_; (with_reducible refine (Cs.levs k _ v s _ _ l z _ _ rfl (HS.out.below HX.out) (Kd.C_below (Kd.R_reads' HL.out).2.2 HX.out) (Kd.R_reads' HL.out).2.1 HZ.out HZO.out).mono ?_); rintro e y85 ⟨x85, rfl, ho, hb⟩; refine ⟨_, rfl, ?_⟩; have F85 := Aside0.mk ho; clear ho; obtain ⟨A85, c85, rfl⟩ := Kd.R_slice F85.out; have h_ := Aside0.mk (below_step HY.out hb); clear HY; have HY := h_; clear h_; have n_ := Aside0.mk (below_step HX.out hb); clear HX hb; have HX := n_; clear n_)
     | ((with_reducible refine gate_callee (f := 17) rfl ?_); (try (refine gate_guard (by rfl) ?_; dsimp only)); refine goesL_ (some 88) rfl rfl Tryd.func17 (by kernel_rfl) rfl #[v, .slice Am l.length cm] rfl (by (try simp only [List.map_toArray, List.map_cons, List.map_nil]); first | done | rfl) ?_; (with_reducible refine (Cs.levs k _ v s _ _ m z _ _ hml (HS.out.below HX.out) (Kd.C_below HMC.out HY.out) HMC2.out HZ2.out HZO2.out).mono ?_); rintro e y88 ⟨x88, rfl, ho, hb⟩; refine ⟨_, rfl, ?_⟩; have F88 := Aside0.mk ho; clear ho; obtain ⟨A88, c88, rfl⟩ := Kd.R_slice F88.out; have h_ := Aside0.mk (below_step HY.out hb); clear HY; have HY := h_; clear h_; have n_ := Aside0.mk (below_step HX.out hb); have r_ := Aside0.mk (Kd.R_below F85.out hb); clear F85; have F85 := r_; clear r_; clear HX hb; have HX := n_; clear n_)
     | ((with_reducible refine gate_callee (f := 16) rfl ?_); (try (refine gate_guard (by rfl) ?_; dsimp only)); refine goesL_ (some 89) rfl rfl Tryd.func16 (by kernel_rfl) rfl #[.slice A85 z.length c85, .slice A88 z.length c88] rfl (by (try simp only [List.map_toArray, List.map_cons, List.map_nil]); first | done | rfl) ?_; (with_reducible refine (colophonkeep_Same.calls k _ _ z _ _ z true _ (Kd.R_reads' F85.out).2.2 (Kd.R_reads' F85.out).2.1 (Kd.R_reads' F88.out).2.2 (Kd.R_reads' F88.out).2.1 HSZ.out).mono ?_); rintro e y89 ⟨rfl, hd⟩; refine ⟨_, rfl, ?_⟩; have hb := hd.below; clear hd F85 F88; have h_ := Aside0.mk (below_step HY.out hb); clear HY; have HY := h_; clear h_; have n_ := Aside0.mk (below_step HX.out hb); clear HX hb; have HX := n_; clear n_)
     | ((with_reducible refine gate_callee (f := 10) rfl ?_); (try (refine gate_guard (by rfl) ?_; dsimp only)); refine goesL_ (some 92) rfl rfl Tryd.func10 (by kernel_rfl) rfl #[] rfl (by (try simp only [List.map_toArray, List.map_cons, List.map_nil]); first | done | rfl) ?_; (with_reducible refine (colophonlaw21_wakes.calls k s0 W1 W2 _ (HLW.out.below HX.out) HWK.out).mono ?_); rintro e w14 ⟨rfl, hb⟩; refine ⟨_, rfl, ?_⟩; have HBE := Aside0.mk (below_step (below_step HB.out HX.out) hb); clear hb))
    go_ret
    exact ⟨by simp [*], HBE.out⟩
  ·have kc1 : decide ((j : Int) < (l.length : Int)) = false := decide_eq_false (by omega)
   have kc2 : decide (j < l.length) = false := decide_eq_false hlt
   have hjm : min l.length great.length = j := by omega
   have hmU : m = Cs.up great l j := by rw [HMD.out, hjm]
   have hml : m.length = l.length := by rw [hmU, Cs.up_len]
   have HMC : Aside0 (Kd.C (Kd.int .i64) wr Am m.length m) := by
    by_cases h0 : 0 < l.length
    ·obtain ⟨cells, hcs, hce⟩ := HGr.out h0
     obtain ⟨eA, _, _⟩ := HGM.out h0
     subst eA
     have hin : Wd.In [gm] wr ⟨0, some ⟨gm, 0, none⟩, m.length, m⟩ := ⟨Nat.le_refl _, by show m.length ≤ _; omega, gm, 0, cells, rfl, by simp, hcs, fun i hi => by rw [Nat.zero_add]; rw [hmU] at hi ⊢; exact hce i hi⟩
     exact ⟨hin.C⟩
    ·have hb7 := HBw.out.resolve_right h0
     have h1 := Kd.C_below (Kd.R_reads' HM.out).2.2 hb7
     have e1 : l = [] := List.eq_nil_of_length_eq_zero (by omega)
     have e2 : m = [] := List.eq_nil_of_length_eq_zero (by omega)
     rw [e1] at h1
     rw [e2]
     exact ⟨h1⟩
   have HMC2 : Aside0 (m.length ≤ cm) := ⟨by rw [hml]; exact (Kd.R_reads' HM.out).2.1⟩
   have HX := HBr
   have HY := Aside0.mk (Below.refl wr.heap.size wr)
   clear HGr HBw hmU hjm HMD HGM HM HK5
   go_wp2_with (first
    | ((with_reducible refine gate_callee (f := 19) rfl ?_); refine goesL_ (some 77) rfl rfl Tryd.func19 (by kernel_rfl) rfl #[v, .slice Al l.length cl] rfl (by (try simp only [List.map_toArray, List.map_cons, List.map_nil]); first | done | rfl) ?_; (with_reducible refine (Cs.pts k _ v s _ _ l q _ _ rfl (HS.out.below HX.out) (Nat.le_trans HBSZ.out HX.out.size) (Kd.C_below (Kd.R_reads' HL.out).2.2 HX.out) (Kd.R_reads' HL.out).2.1 HQ.out HQO.out).mono ?_); rintro e y77 ⟨x77, rfl, ho, hb⟩; refine ⟨_, rfl, ?_⟩; have F77 := Aside0.mk ho; clear ho; obtain ⟨A77, c77, rfl⟩ := Kd.R_slice F77.out; have h_ := Aside0.mk (below_step HY.out hb); clear HY; have HY := h_; clear h_; have n_ := Aside0.mk (below_step HX.out hb); clear HX hb; have HX := n_; clear n_)
    | ((with_reducible refine gate_callee (f := 19) rfl ?_); refine goesL_ (some 80) rfl rfl Tryd.func19 (by kernel_rfl) rfl #[v, .slice Am l.length cm] rfl (by (try simp only [List.map_toArray, List.map_cons, List.map_nil]); first | done | rfl) ?_; (with_reducible refine (Cs.pts k _ v s _ _ m q _ _ hml (HS.out.below HX.out) (Nat.le_trans HBSZ.out HX.out.size) (Kd.C_below HMC.out HY.out) HMC2.out HQ2.out HQO2.out).mono ?_); rintro e y80 ⟨x80, rfl, ho, hb⟩; refine ⟨_, rfl, ?_⟩; have F80 := Aside0.mk ho; clear ho; obtain ⟨A80, c80, rfl⟩ := Kd.R_slice F80.out; have h_ := Aside0.mk (below_step HY.out hb); clear HY; have HY := h_; clear h_; have n_ := Aside0.mk (below_step HX.out hb); have r_ := Aside0.mk (Kd.R_below F77.out hb); clear F77; have F77 := r_; clear r_; clear HX hb; have HX := n_; clear n_)
    | ((with_reducible refine gate_callee (f := 16) rfl ?_); refine goesL_ (some 81) rfl rfl Tryd.func16 (by kernel_rfl) rfl #[.slice A77 q.length c77, .slice A80 q.length c80] rfl (by (try simp only [List.map_toArray, List.map_cons, List.map_nil]); first | done | rfl) ?_; (with_reducible refine (colophonkeep_Same.calls k _ _ q _ _ q true _ (Kd.R_reads' F77.out).2.2 (Kd.R_reads' F77.out).2.1 (Kd.R_reads' F80.out).2.2 (Kd.R_reads' F80.out).2.1 HSQ.out).mono ?_); rintro e y81 ⟨rfl, hd⟩; refine ⟨_, rfl, ?_⟩; have hb := hd.below; clear hd F77 F80; have h_ := Aside0.mk (below_step HY.out hb); clear HY; have HY := h_; clear h_; have n_ := Aside0.mk (below_step HX.out hb); clear HX hb; have HX := n_; clear n_)
    | ((with_reducible refine gate_callee (f := 17) rfl ?_); (try (refine gate_guard (by rfl) ?_; dsimp only)); refine goesL_ (some 85) rfl rfl Tryd.func17 (by kernel_rfl) rfl #[v, .slice Al l.length cl] rfl (by (try simp only [List.map_toArray, List.map_cons, List.map_nil]); first | done | rfl) ?_; (with_reducible refine (Cs.levs k _ v s _ _ l z _ _ rfl (HS.out.below HX.out) (Kd.C_below (Kd.R_reads' HL.out).2.2 HX.out) (Kd.R_reads' HL.out).2.1 HZ.out HZO.out).mono ?_); rintro e y85 ⟨x85, rfl, ho, hb⟩; refine ⟨_, rfl, ?_⟩; have F85 := Aside0.mk ho; clear ho; obtain ⟨A85, c85, rfl⟩ := Kd.R_slice F85.out; have h_ := Aside0.mk (below_step HY.out hb); clear HY; have HY := h_; clear h_; have n_ := Aside0.mk (below_step HX.out hb); clear HX hb; have HX := n_; clear n_)
    | ((with_reducible refine gate_callee (f := 17) rfl ?_); (try (refine gate_guard (by rfl) ?_; dsimp only)); refine goesL_ (some 88) rfl rfl Tryd.func17 (by kernel_rfl) rfl #[v, .slice Am l.length cm] rfl (by (try simp only [List.map_toArray, List.map_cons, List.map_nil]); first | done | rfl) ?_; (with_reducible refine (Cs.levs k _ v s _ _ m z _ _ hml (HS.out.below HX.out) (Kd.C_below HMC.out HY.out) HMC2.out HZ2.out HZO2.out).mono ?_); rintro e y88 ⟨x88, rfl, ho, hb⟩; refine ⟨_, rfl, ?_⟩; have F88 := Aside0.mk ho; clear ho; obtain ⟨A88, c88, rfl⟩ := Kd.R_slice F88.out; have h_ := Aside0.mk (below_step HY.out hb); clear HY; have HY := h_; clear h_; have n_ := Aside0.mk (below_step HX.out hb); have r_ := Aside0.mk (Kd.R_below F85.out hb); clear F85; have F85 := r_; clear r_; clear HX hb; have HX := n_; clear n_)
    | ((with_reducible refine gate_callee (f := 16) rfl ?_); (try (refine gate_guard (by rfl) ?_; dsimp only)); refine goesL_ (some 89) rfl rfl Tryd.func16 (by kernel_rfl) rfl #[.slice A85 z.length c85, .slice A88 z.length c88] rfl (by (try simp only [List.map_toArray, List.map_cons, List.map_nil]); first | done | rfl) ?_; (with_reducible refine (colophonkeep_Same.calls k _ _ z _ _ z true _ (Kd.R_reads' F85.out).2.2 (Kd.R_reads' F85.out).2.1 (Kd.R_reads' F88.out).2.2 (Kd.R_reads' F88.out).2.1 HSZ.out).mono ?_); rintro e y89 ⟨rfl, hd⟩; refine ⟨_, rfl, ?_⟩; have hb := hd.below; clear hd F85 F88; have h_ := Aside0.mk (below_step HY.out hb); clear HY; have HY := h_; clear h_; have n_ := Aside0.mk (below_step HX.out hb); clear HX hb; have HX := n_; clear n_)
    | ((with_reducible refine gate_callee (f := 10) rfl ?_); (try (refine gate_guard (by rfl) ?_; dsimp only)); refine goesL_ (some 92) rfl rfl Tryd.func10 (by kernel_rfl) rfl #[] rfl (by (try simp only [List.map_toArray, List.map_cons, List.map_nil]); first | done | rfl) ?_; (with_reducible refine (colophonlaw21_wakes.calls k s0 W1 W2 _ (HLW.out.below HX.out) HWK.out).mono ?_); rintro e w14 ⟨rfl, hb⟩; refine ⟨_, rfl, ?_⟩; have HBE := Aside0.mk (below_step (below_step HB.out HX.out) hb); clear hb))
   go_ret
   exact ⟨by simp [*], HBE.out⟩
end Go.Proofs.YtenhfmlkdcfbbaaDoor.PHyphenPoints
