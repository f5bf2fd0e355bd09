/- law21: the reference's set in memory. -/
import Derived.Test.YtenhfmlkdcfbbaaDoorPHyphenPointsx10
import Derived.Test.YtenhfmlkdcfbbaaDoorPHyphenPointsx9
import Derived.Test.YtenhfmlkdcfbbaaDoorPHyphenPointsx8
import Derived.Test.YtenhfmlkdcfbbaaDoorPHyphenPointsx5
import Derived.Test.YtenhfmlkdcfbbaaDoorPHyphenPointsx1
import Derived.WalkSpells
namespace Go.Proofs.YtenhfmlkdcfbbaaDoor.PHyphenPoints
open Go.RowKit Go.Proofs.YtenhfmlkdcfbbaaDoorW.PrintWords Go.Proofs.YtenhfmlkdcfbbaaDoorW.PrintLast Go.Proofs.YtenhfmlkdcfbbaaDoorW.PrintMore
attribute [local go_sem] max2_int min2_int max_two min_two max_three min_three max_four min_four
set_option linter.unusedVariables false
set_option linter.unusedSimpArgs false
def rd_L1 (xs : List (List Int)) (i : Int) : (List Int) := xs.getD i.toNat ([] : List Int)
structure S66 where
 f0 : (List Int)
 f1 : Bool
 f2 : Bool
 f3 : (List Int)
def z66 : S66 := ⟨([] : List Int), false, false, ([] : List Int)⟩
def k66 : Kd S66 := Kd.iso (Kd.pair (Kd.slice 3 (Kd.int .i64)) (Kd.pair Kd.bool (Kd.pair Kd.bool (Kd.slice 3 (Kd.int .i64))))) (fun x : S66 => (x.f0, x.f1, x.f2, x.f3))
theorem k66_open {w : World} {x : S66} {cs : List Value} (h : k66.K w x cs) : ∃ A0 c0 A3 c3, cs = [.slice A0 x.f0.length c0, .bool x.f1, .bool x.f2, .slice A3 x.f3.length c3] ∧ x.f0.length ≤ c0 ∧ (Kd.int .i64).C w A0 x.f0.length x.f0 ∧ x.f3.length ≤ c3 ∧ (Kd.int .i64).C w A3 x.f3.length x.f3 := by
 obtain ⟨_, _, rfl, ⟨A0, c0, rfl, l0, g0⟩, ⟨_, _, rfl, rfl, ⟨_, _, rfl, rfl, ⟨A3, c3, rfl, l3, g3⟩⟩⟩⟩ := h
 exact ⟨A0, c0, A3, c3, rfl, l0, g0, l3, g3⟩
theorem k66_mkM (w : World) (base : Nat) (ok : Nat → Prop) (x : S66) {v0 : Value} (g0 : (Kd.int .i64).R 3 w base ok v0 x.f0) {v3 : Value} (g3 : (Kd.int .i64).R 3 w base ok v3 x.f3) : k66.M w base ok x [v0, .bool x.f1, .bool x.f2, v3] := ⟨[v0], [.bool x.f1, .bool x.f2, v3], rfl, ⟨v0, rfl, g0⟩, ⟨[.bool x.f1], [.bool x.f2, v3], rfl, rfl, ⟨[.bool x.f2], [v3], rfl, rfl, ⟨v3, rfl, g3⟩⟩⟩⟩
def rd_T66 (xs : List S66) (i : Int) : S66 := xs.getD i.toNat z66
theorem at_T66 {w : World} {A : Option Addr} {n : Nat} {xs : List S66} (h : Kd.C k66 w A n xs) (i : Int) (h0 : 0 ≤ i) (h1 : i < n) : ∃ ad A0 c0 A3 c3, A = some ad ∧ w.cell? (ad.add (i.toNat * 4)) = some (.slice A0 (rd_T66 xs i).f0.length c0) ∧ w.cell? ⟨(ad.add (i.toNat * 4)).block, (ad.add (i.toNat * 4)).off + 1, none⟩ = some (.bool (rd_T66 xs i).f1) ∧ w.cell? ⟨(ad.add (i.toNat * 4)).block, (ad.add (i.toNat * 4)).off + 2, none⟩ = some (.bool (rd_T66 xs i).f2) ∧ w.cell? ⟨(ad.add (i.toNat * 4)).block, (ad.add (i.toNat * 4)).off + 3, none⟩ = some (.slice A3 (rd_T66 xs i).f3.length c3) ∧ (rd_T66 xs i).f0.length ≤ c0 ∧ (Kd.int .i64).C w A0 (rd_T66 xs i).f0.length (rd_T66 xs i).f0 ∧ (rd_T66 xs i).f3.length ≤ c3 ∧ (Kd.int .i64).C w A3 (rd_T66 xs i).f3.length (rd_T66 xs i).f3 := by
 obtain ⟨ad, c, e, _, hK, hc0⟩ := Kd.C_get h z66 i h0 h1
 have hc : ∀ j u, c[j]? = some u → w.cell? (ad.add (i.toNat * 4 + j)) = some u := hc0
 obtain ⟨A0, c0, A3, c3, rfl, l0, g0, l3, g3⟩ := k66_open hK
 exact ⟨ad, A0, c0, A3, c3, e, hc 0 _ rfl, by rw [← add_field _ _ 1 (by omega)]; exact hc 1 _ rfl, by rw [← add_field _ _ 2 (by omega)]; exact hc 2 _ rfl, by rw [← add_field _ _ 3 (by omega)]; exact hc 3 _ rfl, l0, g0, l3, g3⟩
structure S72 where
 f0 : (List Int)
 f1 : (List Int)
def z72 : S72 := ⟨([] : List Int), ([] : List Int)⟩
def k72 : Kd S72 := Kd.iso (Kd.pair (Kd.slice 3 (Kd.int .i64)) (Kd.slice 3 (Kd.int .i64))) (fun x : S72 => (x.f0, x.f1))
theorem k72_open {w : World} {x : S72} {cs : List Value} (h : k72.K w x cs) : ∃ A0 c0 A1 c1, cs = [.slice A0 x.f0.length c0, .slice A1 x.f1.length c1] ∧ x.f0.length ≤ c0 ∧ (Kd.int .i64).C w A0 x.f0.length x.f0 ∧ x.f1.length ≤ c1 ∧ (Kd.int .i64).C w A1 x.f1.length x.f1 := by
 obtain ⟨_, _, rfl, ⟨A0, c0, rfl, l0, g0⟩, ⟨A1, c1, rfl, l1, g1⟩⟩ := h
 exact ⟨A0, c0, A1, c1, rfl, l0, g0, l1, g1⟩
theorem k72_mkM (w : World) (base : Nat) (ok : Nat → Prop) (x : S72) {v0 : Value} (g0 : (Kd.int .i64).R 3 w base ok v0 x.f0) {v1 : Value} (g1 : (Kd.int .i64).R 3 w base ok v1 x.f1) : k72.M w base ok x [v0, v1] := ⟨[v0], [v1], rfl, ⟨v0, rfl, g0⟩, ⟨v1, rfl, g1⟩⟩
def rd_T72 (xs : List S72) (i : Int) : S72 := xs.getD i.toNat z72
theorem at_T72 {w : World} {A : Option Addr} {n : Nat} {xs : List S72} (h : Kd.C k72 w A n xs) (i : Int) (h0 : 0 ≤ i) (h1 : i < n) : ∃ ad A0 c0 A1 c1, A = some ad ∧ w.cell? (ad.add (i.toNat * 2)) = some (.slice A0 (rd_T72 xs i).f0.length c0) ∧ w.cell? ⟨(ad.add (i.toNat * 2)).block, (ad.add (i.toNat * 2)).off + 1, none⟩ = some (.slice A1 (rd_T72 xs i).f1.length c1) ∧ (rd_T72 xs i).f0.length ≤ c0 ∧ (Kd.int .i64).C w A0 (rd_T72 xs i).f0.length (rd_T72 xs i).f0 ∧ (rd_T72 xs i).f1.length ≤ c1 ∧ (Kd.int .i64).C w A1 (rd_T72 xs i).f1.length (rd_T72 xs i).f1 := by
 obtain ⟨ad, c, e, _, hK, hc0⟩ := Kd.C_get h z72 i h0 h1
 have hc : ∀ j u, c[j]? = some u → w.cell? (ad.add (i.toNat * 2 + j)) = some u := hc0
 obtain ⟨A0, c0, A1, c1, rfl, l0, g0, l1, g1⟩ := k72_open hK
 exact ⟨ad, A0, c0, A1, c1, e, hc 0 _ rfl, by rw [← add_field _ _ 1 (by omega)]; exact hc 1 _ rfl, l0, g0, l1, g1⟩
theorem info66 : (Tryd.prog.info? 66).map (fun i => (i.zero, i.size, i.bytes)) = some (some (.agg #[.slice none 0 0, .bool false, .bool false, .slice none 0 0]), 4, 56) := by kernel_rfl
theorem info72 : (Tryd.prog.info? 72).map (fun i => (i.zero, i.size, i.bytes)) = some (some (.agg #[.slice none 0 0, .slice none 0 0]), 2, 48) := by kernel_rfl
namespace Rf
abbrev RS := List S66 × List S72
def SetV (W : World) (v : Value) : Option RS → Prop
 | none => v = .pointer none
 | some s => ∃ Rb A1 c1 A2 c2, v = .pointer (some ⟨Rb, 0, none⟩) ∧ W.heap[Rb]? = some (.cells #[.slice A1 s.1.length c1, .slice A2 s.2.length c2] 62 (0, 0)) ∧ Kd.C k66 W A1 s.1.length s.1 ∧ s.1.length ≤ c1 ∧ Kd.C k72 W A2 s.2.length s.2 ∧ s.2.length ≤ c2
theorem SetV.below {W W1 : World} {v : Value} {s : Option RS} (h : SetV W v s) (hb : Below W.heap.size W W1) : SetV W1 v s := by
 cases s with
 | none => exact h
 | some s =>
  obtain ⟨Rb, A1, c1, A2, c2, h1, h2, h3, h4, h5, h6⟩ := h
  exact ⟨Rb, A1, c1, A2, c2, h1, (hb.block _ (blk_lt h2)).trans h2, Kd.C_below h3 hb, h4, Kd.C_below h5 hb, h6⟩
end Rf
end Go.Proofs.YtenhfmlkdcfbbaaDoor.PHyphenPoints
