/- law21: the constant check (function 10), walked; its values are asked as premises. -/
import Derived.Test.YtenhfmlkdcfbbaaDoorPts
import Derived.Test.YtenhfmlkdcfbbaaDoorPHyphenPointsx5
namespace Go.Proofs.YtenhfmlkdcfbbaaDoor.PHyphenPoints
open Go.RowKit Go.Proofs.YtenhfmlkdcfbbaaDoorW.PrintWords Go.Proofs.YtenhfmlkdcfbbaaDoorW.PrintLast Go.Proofs.YtenhfmlkdcfbbaaDoorW.PrintMore
attribute [local go_sem] max2_int min2_int max_two min_two max_three min_three max_four min_four
set_option linter.unusedVariables false
set_option linter.unusedSimpArgs false
namespace Wk
abbrev eng : ByteArray := ⟨#[104, 121, 51, 112, 104, 32, 104, 101, 50, 110, 32, 104, 101, 110, 97, 52, 32, 104, 101, 110, 53, 97, 116, 32, 49, 110, 97, 32, 110, 50, 97, 116, 32, 49, 116, 105, 111, 32, 50, 105, 111, 32, 111, 50, 110]⟩
abbrev tab : ByteArray := ⟨#[116, 97, 45, 98, 108, 101]⟩
abbrev hy : ByteArray := ⟨#[72, 121, 112, 104, 101, 110, 97, 116, 105, 111, 110]⟩
abbrev tb : ByteArray := ⟨#[84, 65, 66, 76, 69]⟩
structure Ok (k : Nat) (s : Cp.HS) (W1 W2 : List Int) : Prop where
 c : hyphen_Compile.f k eng tab = some (some s, 0, 0)
 o : hyphen_Compile.OK k eng tab
 h1 : colophonlaw21_word.f k hy = some W1
 p1 : hyphen_Set_Points.f k (some s) W1 = some [2, 6]
 o1 : hyphen_Set_Points.OK k (some s) W1
 s1 : colophonkeep_Same.f k [2, 6] [2, 6] = some true
 h2 : colophonlaw21_word.f k tb = some W2
 p2 : hyphen_Set_Points.f k (some s) W2 = some [2]
 o2 : hyphen_Set_Points.OK k (some s) W2
 s2 : colophonkeep_Same.f k [2] [2] = some true
 n : s.1.length = 19
end Wk
theorem _root_.Go.Proofs.YtenhfmlkdcfbbaaDoor.PHyphenPoints.Wk.set_ptr {base : Nat} {W : World} {v : Value} {s : Cp.HS} (h : Cp.SetV base W v (some s)) : ∃ Sb, v = .pointer (some ⟨Sb, 0, none⟩) := by
 obtain ⟨Sb, _, _, _, _, _, h1, _⟩ := h
 exact ⟨Sb, h1⟩
set_option maxHeartbeats 4000000 in
set_option maxRecDepth 100000 in
theorem colophonlaw21_wakes.calls (k : Nat) (s : Cp.HS) (W1 W2 : List Int) (w : World) (hLW : Lw w) (h : Wk.Ok k s W1 W2) :
  Calls Tryd.prog 10 #[] w fun e w' => e = .returned (.bool true) ∧ Below w.heap.size w w' := by
 have HLW := Aside0.mk hLW
 have HC := Aside0.mk h.c
 have HO := Aside0.mk h.o
 have H1 := Aside0.mk h.h1
 have P1 := Aside0.mk h.p1
 have O1 := Aside0.mk h.o1
 have S1 := Aside0.mk h.s1
 have H2 := Aside0.mk h.h2
 have P2 := Aside0.mk h.p2
 have O2 := Aside0.mk h.o2
 have S2 := Aside0.mk h.s2
 have HN := Aside0.mk h.n
 clear h hLW
 go_enter Tryd.func10, Tryd.ntmps10
 go_upto_region 2 with (first | ((with_reducible refine gate_callee (f := 11) rfl ?_); refine goesL_ (some 5) rfl rfl Tryd.func11 (by kernel_rfl) rfl #[.string ⟨#[104, 121, 51, 112, 104, 32, 104, 101, 50, 110, 32, 104, 101, 110, 97, 52, 32, 104, 101, 110, 53, 97, 116, 32, 49, 110, 97, 32, 110, 50, 97, 116, 32, 49, 116, 105, 111, 32, 50, 105, 111, 32, 111, 50, 110]⟩, .string ⟨#[116, 97, 45, 98, 108, 101]⟩] rfl (by (try simp only [List.map_toArray, List.map_cons, List.map_nil]); first | done | rfl) ?_; (with_reducible refine (hyphen_Compile.calls k _ _ (some s) 0 0 _ HLW.out HC.out HO.out).mono ?_); rintro e w2 ⟨v, rfl, ho, hb⟩; refine ⟨_, rfl, ?_⟩; have HS := Aside0.mk ho; have HB := Aside0.mk hb; clear ho hb))
 obtain ⟨Sb, rfl⟩ := Wk.set_ptr HS.out
 go_upto_region 4 with (fail)
 go_wp2_with (first
  |((with_reducible refine gate_callee (f := 23) rfl ?_); refine goesL_ (some 16) rfl rfl Tryd.func23 (by kernel_rfl) rfl #[.string ⟨#[72, 121, 112, 104, 101, 110, 97, 116, 105, 111, 110]⟩] rfl (by (try simp only [List.map_toArray, List.map_cons, List.map_nil]); first | done | rfl) ?_; (with_reducible refine (colophonlaw21_word.calls k _ W1 _ H1.out).mono ?_); rintro e w3 ⟨v16, rfl, ho, hb⟩; refine ⟨_, rfl, ?_⟩; have m0_ := Aside0.mk (HS.out.below hb); have m1_ := Aside0.mk (below_step HB.out hb); have m2_ := Aside0.mk ho; obtain ⟨A_F16, c_F16, rfl⟩ := Kd.R_slice ho; clear HS HB  hb ho; have HS := m0_; have HB := m1_; have F16 := m2_; clear m0_ m1_  m2_)
  |((with_reducible refine gate_callee (f := 19) rfl ?_); refine goesL_ (some 17) rfl rfl Tryd.func19 (by kernel_rfl) rfl #[.pointer (some ⟨Sb, 0, none⟩), .slice A_F16 W1.length c_F16] rfl (by (try simp only [List.map_toArray, List.map_cons, List.map_nil]); first | done | rfl) ?_; (with_reducible refine (hyphen_Set_Points.calls k _ _ (some s) _ _ W1 [2, 6] _ HS.out (HB.out.size) (Kd.R_reads' F16.out).2.2 (Kd.R_reads' F16.out).2.1 P1.out O1.out).mono ?_); rintro e w4 ⟨v17, rfl, ho, hb⟩; refine ⟨_, rfl, ?_⟩; clear F16; have m0_ := Aside0.mk (HS.out.below hb); have m1_ := Aside0.mk (below_step HB.out hb); have m2_ := Aside0.mk ho; obtain ⟨A_F17, c_F17, rfl⟩ := Kd.R_slice ho; clear HS HB  hb ho; have HS := m0_; have HB := m1_; have F17 := m2_; clear m0_ m1_  m2_)
  |((with_reducible refine gate_dst (N := 18) rfl ?_); (try (refine gate_guard (by rfl) ?_; dsimp only)); refine Kd.R_lit (Kd.int .i64) _ 3 ?hg (N := 18) ?hd (xs := ([2, 6] : List Int)) (inner := [.int .i64 2, .int .i64 6]) (ok := fun _ => True) (okp := fun _ => True) ?hr ?hp (fun _ hk => hk) trivial (Below.refl _ _) (Nat.le_refl _) (by simp) ?_; (case hd => rfl); (case hg => rfl); (case hr => first | (go_simp; done) | (go_simp; rfl)); (case hp => exact (Reps.one (show Kd.M (Kd.int .i64) _ _ _ 2 [.int .i64 2] from rfl) (Reps.one (show Kd.M (Kd.int .i64) _ _ _ 6 [.int .i64 6] from rfl) (Reps.none _ _)))); intro v18 w5 ho hb hg_ hnew_; clear hg_ hnew_; have m0_ := Aside0.mk (HS.out.below hb); have m1_ := Aside0.mk (below_step HB.out hb); have m_F17 := Aside0.mk (Kd.R_below F17.out hb); have m2_ := Aside0.mk ho; obtain ⟨A_F18, c_F18, rfl⟩ := Kd.R_slice ho; clear HS HB F17 hb ho; have HS := m0_; have HB := m1_; have F17 := m_F17; have F18 := m2_; clear m0_ m1_ m_F17 m2_)
  |((with_reducible refine gate_callee (f := 16) rfl ?_); refine goesL_ (some 19) rfl rfl Tryd.func16 (by kernel_rfl) rfl #[.slice A_F17 ([2, 6] : List Int).length c_F17, .slice A_F18 ([2, 6] : List Int).length c_F18] rfl (by (try simp only [List.map_toArray, List.map_cons, List.map_nil]); first | done | rfl) ?_; (with_reducible refine (colophonkeep_Same.calls k _ _ [2, 6] _ _ [2, 6] true _ (Kd.R_reads' F17.out).2.2 (Kd.R_reads' F17.out).2.1 (Kd.R_reads' F18.out).2.2 (Kd.R_reads' F18.out).2.1 S1.out).mono ?_); rintro e w6 ⟨rfl, hd⟩; refine ⟨_, rfl, ?_⟩; have hb := hd.below; clear hd F17 F18; have m0_ := Aside0.mk (HS.out.below hb); have m1_ := Aside0.mk (below_step HB.out hb); clear HS HB  hb; have HS := m0_; have HB := m1_; clear m0_ m1_ )
  |((with_reducible refine gate_callee (f := 23) rfl ?_); (try (refine gate_guard (by rfl) ?_; dsimp only)); refine goesL_ (some 22) rfl rfl Tryd.func23 (by kernel_rfl) rfl #[.string ⟨#[84, 65, 66, 76, 69]⟩] rfl (by (try simp only [List.map_toArray, List.map_cons, List.map_nil]); first | done | rfl) ?_; (with_reducible refine (colophonlaw21_word.calls k _ W2 _ H2.out).mono ?_); rintro e w7 ⟨v22, rfl, ho, hb⟩; refine ⟨_, rfl, ?_⟩; have m0_ := Aside0.mk (HS.out.below hb); have m1_ := Aside0.mk (below_step HB.out hb); have m2_ := Aside0.mk ho; obtain ⟨A_F22, c_F22, rfl⟩ := Kd.R_slice ho; clear HS HB  hb ho; have HS := m0_; have HB := m1_; have F22 := m2_; clear m0_ m1_  m2_)
  |((with_reducible refine gate_callee (f := 19) rfl ?_); (try (refine gate_guard (by rfl) ?_; dsimp only)); refine goesL_ (some 23) rfl rfl Tryd.func19 (by kernel_rfl) rfl #[.pointer (some ⟨Sb, 0, none⟩), .slice A_F22 W2.length c_F22] rfl (by (try simp only [List.map_toArray, List.map_cons, List.map_nil]); first | done | rfl) ?_; (with_reducible refine (hyphen_Set_Points.calls k _ _ (some s) _ _ W2 [2] _ HS.out (HB.out.size) (Kd.R_reads' F22.out).2.2 (Kd.R_reads' F22.out).2.1 P2.out O2.out).mono ?_); rintro e w8 ⟨v23, rfl, ho, hb⟩; refine ⟨_, rfl, ?_⟩; clear F22; have m0_ := Aside0.mk (HS.out.below hb); have m1_ := Aside0.mk (below_step HB.out hb); have m2_ := Aside0.mk ho; obtain ⟨A_F23, c_F23, rfl⟩ := Kd.R_slice ho; clear HS HB  hb ho; have HS := m0_; have HB := m1_; have F23 := m2_; clear m0_ m1_  m2_)
  |((with_reducible refine gate_dst (N := 24) rfl ?_); (try (refine gate_guard (by rfl) ?_; dsimp only)); refine Kd.R_lit (Kd.int .i64) _ 3 ?hg (N := 24) ?hd (xs := ([2] : List Int)) (inner := [.int .i64 2]) (ok := fun _ => True) (okp := fun _ => True) ?hr ?hp (fun _ hk => hk) trivial (Below.refl _ _) (Nat.le_refl _) (by simp) ?_; (case hd => rfl); (case hg => rfl); (case hr => first | (go_simp; done) | (go_simp; rfl)); (case hp => exact (Reps.one (show Kd.M (Kd.int .i64) _ _ _ 2 [.int .i64 2] from rfl) (Reps.none _ _))); intro v24 w9 ho hb hg_ hnew_; clear hg_ hnew_; have m0_ := Aside0.mk (HS.out.below hb); have m1_ := Aside0.mk (below_step HB.out hb); have m_F23 := Aside0.mk (Kd.R_below F23.out hb); have m2_ := Aside0.mk ho; obtain ⟨A_F24, c_F24, rfl⟩ := Kd.R_slice ho; clear HS HB F23 hb ho; have HS := m0_; have HB := m1_; have F23 := m_F23; have F24 := m2_; clear m0_ m1_ m_F23 m2_)
  |((with_reducible refine gate_callee (f := 16) rfl ?_); (try (refine gate_guard (by rfl) ?_; dsimp only)); refine goesL_ (some 25) rfl rfl Tryd.func16 (by kernel_rfl) rfl #[.slice A_F23 ([2] : List Int).length c_F23, .slice A_F24 ([2] : List Int).length c_F24] rfl (by (try simp only [List.map_toArray, List.map_cons, List.map_nil]); first | done | rfl) ?_; (with_reducible refine (colophonkeep_Same.calls k _ _ [2] _ _ [2] true _ (Kd.R_reads' F23.out).2.2 (Kd.R_reads' F23.out).2.1 (Kd.R_reads' F24.out).2.2 (Kd.R_reads' F24.out).2.1 S2.out).mono ?_); rintro e w10 ⟨rfl, hd⟩; refine ⟨_, rfl, ?_⟩; have hb := hd.below; clear hd F23 F24; have m0_ := Aside0.mk (HS.out.below hb); have m1_ := Aside0.mk (below_step HB.out hb); clear HS HB  hb; have HS := m0_; have HB := m1_; clear m0_ m1_ )
  |((with_reducible refine gate_callee (f := 13) rfl ?_); (try (refine gate_guard (by rfl) ?_; dsimp only)); refine goesL_ (some 29) rfl rfl Tryd.func13 (by kernel_rfl) rfl #[.pointer (some ⟨Sb, 0, none⟩)] rfl (by (try simp only [List.map_toArray, List.map_cons, List.map_nil]); first | done | rfl) ?_; (with_reducible refine (hyphen_Set_Nodes.calls _ _ (some s) _ HS.out).mono ?_); rintro e w11 ⟨rfl, rfl⟩; refine ⟨_, rfl, ?_⟩; have HN2 := HN.out))
 go_ret
 exact ⟨by simp [hyphen_Set_Nodes.f, *], HB.out⟩
end Go.Proofs.YtenhfmlkdcfbbaaDoor.PHyphenPoints
