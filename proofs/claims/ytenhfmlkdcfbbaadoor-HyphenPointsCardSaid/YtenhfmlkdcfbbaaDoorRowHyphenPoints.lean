/- The row of HyphenPoints: for every input that can be read the call returns true, and each argument reads as it read. It joins the walk of the law's function and the plain statement. -/
import Derived.Test.YtenhfmlkdcfbbaaDoorRows
import Derived.Test.YtenhfmlkdcfbbaaDoorRd
import Derived.Test.YtenhfmlkdcfbbaaDoorHp
import Derived.Test.YtenhfmlkdcfbbaaDoorPureHyphenPoints
import Derived.WalkKit
import Derived.ProofKit
import Derived.OpenShut
import Derived.ShutString
import Derived.ChangeOld
import Derived.Below
import Derived.SizedLaws
import Derived.LaidMore
import Derived.Stop.Joined
import Derived.Lib.LaidU8
import Derived.MakeChecks
import Derived.Test.YtenhfmlkdcfbbaaDoorLaid
import Derived.Test.YtenhfmlkdcfbbaaDoorCards
import Derived.Test.YtenhfmlkdcfbbaaDoorTie
import Derived.SevenTiedAt
namespace Go.Proofs.YtenhfmlkdcfbbaaDoor.hyphenPoints
open Go.ChangeShapes Go.WideShapes Go.ChangeAt Go.RowKit Go.Proofs.YtenhfmlkdcfbbaaDoorW.PrintWords
set_option linter.unusedVariables false
theorem own : ownKnob Tryd.prog.godebug = none := by kernel_rfl
theorem laidOut : laidOutB Tryd.prog = true := by kernel_rfl
noncomputable def laidWorld (os : Os) : World :=
 let w0 := World.settled Tryd.prog os
 let put (h : Array Obj) (g : Nat) (cs : Array Value) : Array Obj := h.modify g fun
  | .cells _ t frozen => .cells cs t frozen
  | o => o
 let h1 := put w0.heap 0 (Lib.firstTab.map fun z => Value.int .u8 z).toArray
 let h2 := put h1 1 ((List.range 16).flatMap fun i => [Value.int .u8 (Lib.accLo i), Value.int .u8 (Lib.accHi i)]).toArray
 { w0 with heap := h2 }
theorem door_met (os : Os) (args : Array Value) : laidMetH Tryd.prog Rows.hyphenPointsRow.laid ((laidWorld os).forCall (fun _ _ => 0) ⟨#[], args, []⟩).memory :=
 laidMetH_of_parts3 (fuel := 8) (laidMet_of_run' 8 (by kernel_rfl) (by kernel_rfl)) (by kernel_rfl) (by kernel_rfl)
theorem lw_of {W : World} (h : laidMetH Tryd.prog Rows.hyphenPointsRow.laid W) : Lw W := by
 rw [MakeChecks.laidMetH_plain _ _ _ (by kernel_rfl)] at h
 refine ⟨utf8Tabs_of_reads { Tryd.lays260 with } ⟨by kernel_rfl, by kernel_rfl, by kernel_rfl, by kernel_rfl, by kernel_rfl, by kernel_rfl, by kernel_rfl⟩ ?_ ?_⟩
 ·have e : Lib.firstData = Rows.laid_unicode_utf8_first := by kernel_rfl
  rw [e]
  exact Lib.laidMet.reads h (.tail _ (.head _))
 ·have e : Lib.acceptData = Rows.laid_unicode_utf8_acceptRanges := by kernel_rfl
  rw [e]
  exact Lib.laidMet.reads h (.head _)
set_option maxRecDepth 100000 in
theorem lifted (os : Os) (started : os.Started) (H : Type) (enc : TypeId × Value → H) :
  ReturnsInHanded {} Tryd.checked os 5 .any (fun w args => (Rows.hyphenPointsSpec.pre enc Tryd.prog Tryd.f5 [] false w args ∧ laidMetH Tryd.prog Rows.hyphenPointsRow.laid w) ∧ sizedMet enc Tryd.prog Tryd.f5 (OpenSpec.ofChange Rows.hyphenPointsSpec) false w args)
   (Rows.hyphenPointsSpec.post enc Tryd.prog Tryd.f5 false true false false) := by
 refine returnsInHanded_of_change_and (C := Tryd.checked) (X := fun w _ => laidMetH Tryd.prog Rows.hyphenPointsRow.laid w) (fun _ _ _ hh h => h.of_heap hh) own started (by kernel_rfl) Tryd.func5
  (ChangeSpec.witness_shaped (enc := enc) (C := Tryd.checked) (os := os) (X := fun w _ => laidMetH Tryd.prog Rows.hyphenPointsRow.laid w) false (laidWorld os) #[.agg #[.string ByteArray.empty, .string ByteArray.empty, .slice none 0 0]] 8 rfl (World.shaped_of_RefB (by kernel_rfl) (by kernel_rfl)) (by kernel_rfl) (by kernel_rfl) (by kernel_rfl) (door_met os _)) ?_
 intro W base args ds gs before hval0 hW hcnd hsz0 hL _
 have hlw := lw_of hL
 have hval : ∀ (j : Nat) t v, Tryd.f5.params[j]? = some t → args[j]? = some v → Value.okWide Tryd.prog W .any base t v := hval0
 have hW' := hW
 obtain ⟨p, q, hA0, hV, rfl, hfz, hnd⟩ := hW
 have hA : DataW.TrodAll enc Tryd.prog W 0 (fun _ => true) true Tryd.f5.params.toList args.toList ds p := hA0
 rw [Tryd.params5] at hA hval
 obtain ⟨v0, vs0, d0, ds0, p0, q0, hargs, rfl, rfl, h0, r0⟩ := trodAll_cons hA
 obtain ⟨rfl, rfl, rfl⟩ := trodAll_nil r0
 obtain rfl : args = #[v0] := by cases args; simp_all
 obtain ⟨rfl, rfl⟩ := trodVars_none hV
 have z0 : (DataW.weightsEach Tryd.prog [24] [d0]).all (· ≤ reachBytes) = true := hsz0
 obtain ⟨s0, z1⟩ := Rd.weights_cons z0
 have lt0 : ∀ x ∈ p0, x.block < W.heap.size := by obtain ⟨m, hm⟩ := h0; exact DataW.trod_lt m _ _ _ hm
 obtain ⟨cs0, rfl, hc0⟩ := Rd.form_agg (.inl ⟨_, Tryd.underlying24⟩) (hval 0 24 v0 rfl rfl)
 obtain ⟨⟨a0_0, a0_1, a0_2⟩, hk0, w0⟩ := Rd.arg (k := (Kd.pair Kd.string (Kd.pair Kd.string (Kd.slice 3 (Kd.int .i64))))) (fun m => (Rd.reads_struct Tryd.underlying24 (by kernel_rfl) (Rd.fs_cons rfl (by kernel_rfl) rfl (Rd.reads_string Tryd.underlying9) (Rd.fs_cons rfl (by kernel_rfl) rfl (Rd.reads_string Tryd.underlying9) (Rd.fs_one rfl (by kernel_rfl) (Rd.reads_slice (B := 8) Tryd.underlying22 (by kernel_rfl) (by kernel_rfl) (Rd.reads_int Tryd.underlying3))))))) h0 s0
 rw [hc0] at hk0
 obtain ⟨_, _, rfl, rfl, ⟨_, _, rfl, rfl, ⟨Aa0_2, ca0_2, rfl, hla0_2, hCa0_2⟩⟩⟩ := hk0
 (try clear hA0); (try clear hval0); (try clear hsz0); (try clear hk0)
 obtain ⟨k, hp⟩ := Law21.purePoints a0_0 a0_1 a0_2 
 refine (PHyphenPoints.colophonlaw21_HyphenPoints.calls k a0_0 a0_1 Aa0_2 ca0_2 a0_2 true W hlw hCa0_2 hla0_2 hp).mono fun e W' ⟨he, bel0⟩ => ?_
 have bel : Below W.heap.size W W' := bel0
 subst he
 exact ⟨_, rfl, _, _, _, [], _, [], hW', trodAll_mk1 (shut_bool Tryd.underlying4 _), (trodAll_cons_mk (Below.trod laidOut (by kernel_rfl) (of_decide_eq_true (by kernel_rfl)) h0 bel lt0) trodAll_mk0), rfl, bel.frame _, fun h => by cases h⟩
theorem over : Rows.hyphenPointsRow.holds Tryd.pinned (OpenSpec.ofChange Rows.hyphenPointsSpec) :=
 OpenClaim.holds_of_wide 5 Tryd.f5 rfl rfl rfl rfl rfl rfl rfl ⟨rfl, rfl, rfl, rfl, rfl⟩ rfl rfl rfl rfl rfl (by kernel_rfl) Tryd.func5 (by kernel_rfl)
  (of_decide_eq_true (by kernel_rfl)) (by unfold Func.isWrapper; first | (rw [if_pos (by decide +kernel)]; kernel_rfl) | (rw [if_neg (by decide +kernel)]; exact ⟨rfl, rfl⟩))
  (fun os started H enc _ => lifted os started H enc)
theorem proved : Rows.HyphenPointsSaid := over
end Go.Proofs.YtenhfmlkdcfbbaaDoor.hyphenPoints
namespace Go.Proofs.YtenhfmlkdcfbbaaDoor
theorem hyphenPoints_row : Rows.HyphenPointsSaid := hyphenPoints.proved
theorem hyphenPoints_holds : Rows.HyphenPointsCardSaid :=
 Claim7.holds_tied_plain_at .later [] [.data, .pinned] true (true, "7dca800c8d629fdb7a258e2db9a91b47eab33e9d0d0cc113bcf9323b24c01655") false
  hyphenPoints_row (fun _ h => by cases h) (by kernel_rfl) (fun _ h => by cases h) hyphenPoints_row_tie rfl ⟨rfl, rfl⟩ (by kernel_rfl) rfl
  (fun f fn hf hfn => by
   obtain rfl : f = 5 := Option.some.inj ((show Tryd.prog.funcNamed "colophon/colophonlaw21.HyphenPoints" = some 5 by kernel_rfl).symm.trans hf) |>.symm
   obtain rfl : fn = Tryd.f5 := (Option.some.inj (Tryd.func5.symm.trans hfn)).symm
   exact ⟨by kernel_rfl, fun j t ht => by
    rw [Tryd.params5] at ht
    have hm : t ∈ [24] := by simpa using Array.mem_of_getElem? ht
    have hall : ([24].all fun u => !Tryd.prog.wantsStandIn u) = true := by kernel_rfl
    exact (show Tryd.prog.wantsStandIn t = false by simpa using List.all_eq_true.1 hall t hm)⟩)
  (by kernel_rfl)
#print axioms hyphenPoints_holds
end Go.Proofs.YtenhfmlkdcfbbaaDoor
