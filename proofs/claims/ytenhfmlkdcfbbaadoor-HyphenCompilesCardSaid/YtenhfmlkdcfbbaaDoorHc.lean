/- law21: HyphenCompiles' own function (3), walked; what its calls tell is asked as one premise. -/
import Derived.Test.YtenhfmlkdcfbbaaDoorWk
import Derived.Test.YtenhfmlkdcfbbaaDoorRn
import Derived.Test.YtenhfmlkdcfbbaaDoorRcm
import Derived.Test.YtenhfmlkdcfbbaaDoorWay
import Derived.Test.YtenhfmlkdcfbbaaDoorPHyphenPointsx1
namespace Go.Proofs.YtenhfmlkdcfbbaaDoor.PHyphenPoints
open Go.RowKit Go.Proofs.YtenhfmlkdcfbbaaDoorW.PrintWords Go.Proofs.YtenhfmlkdcfbbaaDoorW.PrintLast Go.Proofs.YtenhfmlkdcfbbaaDoorW.PrintMore
attribute [local go_sem] max2_int min2_int max_two min_two max_three min_three max_four min_four
set_option linter.unusedVariables false
set_option linter.unusedSimpArgs false
theorem blk_below {w W : World} {b : Nat} {o : Obj} (h : w.heap[b]? = some o) (hb : Below w.heap.size w W) : W.heap[b]? = some o := (hb.block b (blk_lt h)).trans h
structure Two (k : Nat) (a0 a1 : ByteArray) (s : Option Cp.HS) (t : Option Rf.RS) (at_ er : Int) : Prop where
 c : hyphen_Compile.f k a0 a1 = some (s, at_, er)
 o : hyphen_Compile.OK k a0 a1
 d : colophonref21_Compile.f k a0 a1 = some (t, at_, er)
 p : colophonref21_Compile.OK k a0 a1
 nil : s = none ↔ t = none
structure CompilesOk (k : Nat) (a0 a1 : ByteArray) : Prop where
 wk : ∃ s W1 W2, Wk.Ok k s W1 W2
 two : a0.size ≤ 3000 → a1.size ≤ 3000 → ∃ s t at_ er, Two k a0 a1 s t at_ er ∧ Rf.nodes k t = some (hyphen_Set_Nodes.f s)
noncomputable def colophonlaw21_HyphenCompiles.f (k : Nat) (a0 a1 : ByteArray) (l2 : List Int) : Option Bool := @ite _ (CompilesOk k a0 a1) (Classical.propDecidable _) (some true) none
set_option maxHeartbeats 4000000 in
set_option maxRecDepth 100000 in
theorem colophonlaw21_HyphenCompiles.calls (k : Nat) (a0 a1 : ByteArray) (A2 : Option Addr) (c2 : Nat) (l2 : List Int) (r : Bool) (w : World) (hLW : Lw w) (hr2 : Kd.C (Kd.int .i64) w A2 l2.length l2) (hc2 : l2.length ≤ c2) (h : colophonlaw21_HyphenCompiles.f k a0 a1 l2 = some r) :
  Calls Tryd.prog 3 #[.agg #[.string a0, .string a1, .slice A2 l2.length c2]] w fun e w' => e = .returned (.bool r) ∧ Below w.heap.size w w' := by
 unfold colophonlaw21_HyphenCompiles.f at h
 by_cases hok : CompilesOk k a0 a1
 rotate_left
 ·rw [if_neg hok] at h
  exact absurd h (by simp)
 rw [if_pos hok] at h
 obtain rfl := Option.some.inj h
 obtain ⟨⟨s0, W1, W2, hwk⟩, htwo⟩ := hok
 have hu24 := Tryd.underlying24
 have HLW := Aside0.mk hLW
 have HR2 := Aside0.mk hr2
 have HC2 := Aside0.mk hc2
 have HWK := Aside0.mk hwk
 have HTW := Aside0.mk htwo
 clear hLW hr2 hc2 hwk htwo h
 by_cases hlong : colophonlaw21_long.f a0 a1 l2 = some true
 ·have HLG := Aside0.mk hlong
  clear hlong
  go_enter Tryd.func3, Tryd.ntmps3
  go_upto_region 1 with (first | ((with_reducible refine gate_dst (N := 1) rfl ?_); (try (refine gate_guard (by rfl) ?_; dsimp only)); refine box_event ?hg (N := 1) ?hd (cs := #[.string a0, .string a1, .slice A2 l2.length c2]) (t := 24) ?hr ?_; (case hd => rfl); (case hg => rfl); (case hr => first | (go_simp; done) | (go_simp; rfl)); intro gb hg w3 hbox hb; have BK := Aside0.mk hbox; have HB := Aside0.mk hb; have m_ := Aside0.mk (HLW.out.below hb); clear HLW; have HLW := m_; clear m_ hg hbox hb))
  have hc0 := (blk_cell BK.out 0).trans rfl; have hc1 := (blk_cell BK.out 1).trans rfl; have hc2 := (blk_cell BK.out 2).trans rfl
  go_wp2_with (first
   |((with_reducible refine gate_callee (f := 9) rfl ?_); refine goesL_ (some 10) rfl rfl Tryd.func9 (by kernel_rfl) rfl #[.agg #[.string a0, .string a1, .slice A2 l2.length c2]] rfl (by (try simp only [List.map_toArray, List.map_cons, List.map_nil]); first | done | rfl) ?_; (with_reducible refine (colophonlaw21_long.calls a0 a1 A2 c2 l2 _ _ (Kd.C_below HR2.out HB.out) HC2.out HLG.out).mono ?_); rintro e w4 ⟨rfl, hb⟩; refine ⟨_, rfl, ?_⟩; clear hc0 hc1 hc2; have m0_ := Aside0.mk (blk_below BK.out hb); have m1_ := Aside0.mk (below_step HB.out hb); have m2_ := Aside0.mk (HLW.out.below hb); clear BK HB HLW hb ; have BK := m0_; have HB := m1_; have HLW := m2_; clear m0_ m1_ m2_ ; have hc0 := (blk_cell BK.out 0).trans rfl; have hc1 := (blk_cell BK.out 1).trans rfl; have hc2 := (blk_cell BK.out 2).trans rfl)
   |((with_reducible refine gate_callee (f := 10) rfl ?_); refine goesL_ (some 11) rfl rfl Tryd.func10 (by kernel_rfl) rfl #[] rfl (by (try simp only [List.map_toArray, List.map_cons, List.map_nil]); first | done | rfl) ?_; (with_reducible refine (colophonlaw21_wakes.calls k s0 W1 W2 _ HLW.out HWK.out).mono ?_); rintro e w9 ⟨rfl, hb⟩; refine ⟨_, rfl, ?_⟩; have m_ := Aside0.mk (below_step HB.out hb); clear HB; have HB := m_; clear m_ hb))
  go_ret
  exact ⟨rfl, HB.out⟩
 ·have hs0 : a0.size ≤ 3000 ∧ a1.size ≤ 3000 ∧ colophonlaw21_long.f a0 a1 l2 = some false := by
   unfold colophonlaw21_long.f at hlong ⊢
   by_cases q : (a0.size : Int) > 3000
   ·exact absurd (by rw [if_pos q]) hlong
   ·rw [if_neg q] at hlong ⊢
    by_cases q2 : (a1.size : Int) > 3000
    ·exact absurd (by rw [decide_eq_true q2]) hlong
    ·exact ⟨by omega, by omega, by rw [decide_eq_false q2]⟩
  have HLG := Aside0.mk hs0.2.2
  obtain ⟨s, t, at_, er, ⟨hc, ho, hd, hp, hnil⟩, hn⟩ := HTW.out hs0.1 hs0.2.1
  have HC := Aside0.mk hc
  have HO := Aside0.mk ho
  have HD := Aside0.mk hd
  have HP := Aside0.mk hp
  have HN := Aside0.mk hn
  have HNIL := Aside0.mk hnil
  clear hlong hs0 hc ho hd hp hn HTW hnil
  go_enter Tryd.func3, Tryd.ntmps3
  go_upto_region 1 with (first | ((with_reducible refine gate_dst (N := 1) rfl ?_); (try (refine gate_guard (by rfl) ?_; dsimp only)); refine box_event ?hg (N := 1) ?hd (cs := #[.string a0, .string a1, .slice A2 l2.length c2]) (t := 24) ?hr ?_; (case hd => rfl); (case hg => rfl); (case hr => first | (go_simp; done) | (go_simp; rfl)); intro gb hg w3 hbox hb; have BK := Aside0.mk hbox; have HB := Aside0.mk hb; have m_ := Aside0.mk (HLW.out.below hb); clear HLW; have HLW := m_; clear m_ hg hbox hb))
  have hc0 := (blk_cell BK.out 0).trans rfl; have hc1 := (blk_cell BK.out 1).trans rfl; have hc2 := (blk_cell BK.out 2).trans rfl
  go_upto_region 5 with (first
   |((with_reducible refine gate_callee (f := 9) rfl ?_); refine goesL_ (some 10) rfl rfl Tryd.func9 (by kernel_rfl) rfl #[.agg #[.string a0, .string a1, .slice A2 l2.length c2]] rfl (by (try simp only [List.map_toArray, List.map_cons, List.map_nil]); first | done | rfl) ?_; (with_reducible refine (colophonlaw21_long.calls a0 a1 A2 c2 l2 _ _ (Kd.C_below HR2.out HB.out) HC2.out HLG.out).mono ?_); rintro e w4 ⟨rfl, hb⟩; refine ⟨_, rfl, ?_⟩; clear hc0 hc1 hc2; have m0_ := Aside0.mk (blk_below BK.out hb); have m1_ := Aside0.mk (below_step HB.out hb); have m2_ := Aside0.mk (HLW.out.below hb); clear BK HB HLW hb ; have BK := m0_; have HB := m1_; have HLW := m2_; clear m0_ m1_ m2_ ; have hc0 := (blk_cell BK.out 0).trans rfl; have hc1 := (blk_cell BK.out 1).trans rfl; have hc2 := (blk_cell BK.out 2).trans rfl)
   |((with_reducible refine gate_callee (f := 11) rfl ?_); refine goesL_ (some 17) rfl rfl Tryd.func11 (by kernel_rfl) rfl #[.string a0, .string a1] rfl (by (try simp only [List.map_toArray, List.map_cons, List.map_nil]); first | done | rfl) ?_; (with_reducible refine (hyphen_Compile.calls k a0 a1 s at_ er _ HLW.out HC.out HO.out).mono ?_); rintro e w5 ⟨v, rfl, hS, hb⟩; refine ⟨_, rfl, ?_⟩; clear hc0 hc1 hc2; have m0_ := Aside0.mk (blk_below BK.out hb); have m1_ := Aside0.mk (below_step HB.out hb); have m2_ := Aside0.mk (HLW.out.below hb); have m_HS := Aside0.mk (hS); clear BK HB HLW hb ; have BK := m0_; have HB := m1_; have HLW := m2_; have HS := m_HS; clear m0_ m1_ m2_ m_HS; clear hS; have hc0 := (blk_cell BK.out 0).trans rfl; have hc1 := (blk_cell BK.out 1).trans rfl; have hc2 := (blk_cell BK.out 2).trans rfl)
   |((with_reducible refine gate_callee (f := 12) rfl ?_); refine goesL_ (some 26) rfl rfl Tryd.func12 (by kernel_rfl) rfl #[.string a0, .string a1] rfl (by (try simp only [List.map_toArray, List.map_cons, List.map_nil]); first | done | rfl) ?_; (with_reducible refine (colophonref21_Compile.calls k a0 a1 t at_ er _ HD.out HP.out).mono ?_); rintro e w6 ⟨u, rfl, hT, hb⟩; refine ⟨_, rfl, ?_⟩; clear hc0 hc1 hc2; have m0_ := Aside0.mk (blk_below BK.out hb); have m1_ := Aside0.mk (below_step HB.out hb); have m2_ := Aside0.mk (HLW.out.below hb); have m_HS := Aside0.mk (HS.out.below hb); have m_HT := Aside0.mk (hT); clear BK HB HLW hb HS; have BK := m0_; have HB := m1_; have HLW := m2_; have HS := m_HS; have HT := m_HT; clear m0_ m1_ m2_ m_HS m_HT; clear hT; have hc0 := (blk_cell BK.out 0).trans rfl; have hc1 := (blk_cell BK.out 1).trans rfl; have hc2 := (blk_cell BK.out 2).trans rfl))
  cases s with
  | none =>
   have ht : t = none := HNIL.out.1 rfl
   subst ht
   have hv : v = .pointer none := HS.out
   have hu : u = .pointer none := HT.out
   subst hv hu
   go_wp2_with (first
    |((with_reducible refine gate_callee (f := 13) rfl ?_); (try (refine gate_guard (by rfl) ?_; dsimp only)); refine goesL_ (some 47) rfl rfl Tryd.func13 (by kernel_rfl) rfl #[.pointer none] rfl (by (try simp only [List.map_toArray, List.map_cons, List.map_nil]); first | done | rfl) ?_; (with_reducible refine (hyphen_Set_Nodes.calls _ _ (none) _ HS.out).mono ?_); rintro e w7 ⟨rfl, rfl⟩; refine ⟨_, rfl, ?_⟩)
    |((with_reducible refine gate_callee (f := 14) rfl ?_); (try (refine gate_guard (by rfl) ?_; dsimp only)); refine goesL_ (some 49) rfl rfl Tryd.func14 (by kernel_rfl) rfl #[.pointer none] rfl (by (try simp only [List.map_toArray, List.map_cons, List.map_nil]); first | done | rfl) ?_; (with_reducible refine (Rf.nodes_calls k _ (none) _ _ HT.out HN.out).mono ?_); rintro e w8 ⟨rfl, hb⟩; refine ⟨_, rfl, ?_⟩; clear hc0 hc1 hc2; have m0_ := Aside0.mk (blk_below BK.out hb); have m1_ := Aside0.mk (below_step HB.out hb); have m2_ := Aside0.mk (HLW.out.below hb); clear BK HB HLW hb ; have BK := m0_; have HB := m1_; have HLW := m2_; clear m0_ m1_ m2_ )
    |((with_reducible refine gate_callee (f := 10) rfl ?_); (try (refine gate_guard (by rfl) ?_; dsimp only)); refine goesL_ (some 53) rfl rfl Tryd.func10 (by kernel_rfl) rfl #[] rfl (by (try simp only [List.map_toArray, List.map_cons, List.map_nil]); first | done | rfl) ?_; (with_reducible refine (colophonlaw21_wakes.calls k s0 W1 W2 _ HLW.out HWK.out).mono ?_); rintro e w9 ⟨rfl, hb⟩; refine ⟨_, rfl, ?_⟩; have m_ := Aside0.mk (below_step HB.out hb); clear HB; have HB := m_; clear m_ hb))
   go_ret
   exact ⟨by simp [*], HB.out⟩
  | some s =>
   cases t with
   | none => exact absurd (HNIL.out.2 rfl) (by simp)
   | some t =>
    obtain ⟨Sb, rfl⟩ := Wk.set_ptr HS.out
    obtain ⟨Rb, rfl⟩ : ∃ Rb, u = .pointer (some ⟨Rb, 0, none⟩) := by
     obtain ⟨Rb, _, _, _, _, q, _⟩ := HT.out
     exact ⟨Rb, q⟩
    go_wp2_with (first
     |((with_reducible refine gate_callee (f := 13) rfl ?_); (try (refine gate_guard (by rfl) ?_; dsimp only)); refine goesL_ (some 47) rfl rfl Tryd.func13 (by kernel_rfl) rfl #[.pointer (some ⟨Sb, 0, none⟩)] rfl (by (try simp only [List.map_toArray, List.map_cons, List.map_nil]); first | done | rfl) ?_; (with_reducible refine (hyphen_Set_Nodes.calls _ _ (some s) _ HS.out).mono ?_); rintro e w7 ⟨rfl, rfl⟩; refine ⟨_, rfl, ?_⟩)
     |((with_reducible refine gate_callee (f := 14) rfl ?_); (try (refine gate_guard (by rfl) ?_; dsimp only)); refine goesL_ (some 49) rfl rfl Tryd.func14 (by kernel_rfl) rfl #[.pointer (some ⟨Rb, 0, none⟩)] rfl (by (try simp only [List.map_toArray, List.map_cons, List.map_nil]); first | done | rfl) ?_; (with_reducible refine (Rf.nodes_calls k _ (some t) _ _ HT.out HN.out).mono ?_); rintro e w8 ⟨rfl, hb⟩; refine ⟨_, rfl, ?_⟩; clear hc0 hc1 hc2; have m0_ := Aside0.mk (blk_below BK.out hb); have m1_ := Aside0.mk (below_step HB.out hb); have m2_ := Aside0.mk (HLW.out.below hb); clear BK HB HLW hb ; have BK := m0_; have HB := m1_; have HLW := m2_; clear m0_ m1_ m2_ )
     |((with_reducible refine gate_callee (f := 10) rfl ?_); (try (refine gate_guard (by rfl) ?_; dsimp only)); refine goesL_ (some 53) rfl rfl Tryd.func10 (by kernel_rfl) rfl #[] rfl (by (try simp only [List.map_toArray, List.map_cons, List.map_nil]); first | done | rfl) ?_; (with_reducible refine (colophonlaw21_wakes.calls k s0 W1 W2 _ HLW.out HWK.out).mono ?_); rintro e w9 ⟨rfl, hb⟩; refine ⟨_, rfl, ?_⟩; have m_ := Aside0.mk (below_step HB.out hb); clear HB; have HB := m_; clear m_ hb))
    go_ret
    exact ⟨by simp [*], HB.out⟩
end Go.Proofs.YtenhfmlkdcfbbaaDoor.PHyphenPoints
