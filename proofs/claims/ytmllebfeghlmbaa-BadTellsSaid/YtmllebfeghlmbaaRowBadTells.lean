/- The row of BadTells: for every input that can be read the call returns true, and each argument reads as it read. It joins the walk of the law's function and the plain statement. -/
import Derived.Test.YtmllebfeghlmbaaRows
import Derived.Test.YtmllebfeghlmbaaRd
import Derived.Test.YtmllebfeghlmbaaPBadTellsx2
import Derived.Test.YtmllebfeghlmbaaPureBadTells
import Derived.WalkKit
import Derived.ProofKit
import Derived.OpenShut
import Derived.ShutString
import Derived.ChangeOld
import Derived.Below
import Derived.SizedLaws
namespace Go.Proofs.Ytmllebfeghlmbaa.badTells
open Go.ChangeShapes Go.WideShapes Go.ChangeAt Go.RowKit Go.Proofs.YtmllebfeghlmbaaW.PrintWords
set_option linter.unusedVariables false
theorem own : ownKnob Try.prog.godebug = none := by kernel_rfl
theorem laidOut : laidOutB Try.prog = true := by kernel_rfl
set_option maxRecDepth 100000 in
theorem lifted (os : Os) (started : os.Started) (H : Type) (enc : TypeId × Value → H) :
    ReturnsInHanded {} Try.checked os 3 .any (Rows.badTellsSpec.pre6 enc Try.prog Try.f3 Rows.badTellsRow.domain false) (Rows.badTellsSpec.post enc Try.prog Try.f3 false true false false) := by
  refine returnsInHanded_of_change_sized (C := Try.checked) own started (by kernel_rfl) Try.func3
    (ChangeSpec.witness6 (enc := enc) (C := Try.checked) false ⟨#[], #[.int .i64 0, .int .i64 0, .bool false], []⟩ 8 (by kernel_rfl) (by kernel_rfl) (by kernel_rfl) (by kernel_rfl)) ?_
  intro W base args ds gs before hval0 hW hcnd hsz0 _
  have hval : ∀ (j : Nat) t v, Try.f3.params[j]? = some t → args[j]? = some v → Value.okWide Try.prog W .any base t v := hval0
  have hW' := hW
  obtain ⟨p, q, hA0, hV, rfl, hfz, hnd⟩ := hW
  have hA : DataW.TrodAll enc Try.prog W 0 (fun _ => true) true Try.f3.params.toList args.toList ds p := hA0
  rw [Try.params3] at hA hval
  obtain ⟨v0, vs0, d0, ds0, p0, q0, hargs, rfl, rfl, h0, r0⟩ := trodAll_cons hA
  obtain ⟨v1, vs1, d1, ds1, p1, q1, rfl, rfl, rfl, h1, r1⟩ := trodAll_cons r0
  obtain ⟨v2, vs2, d2, ds2, p2, q2, rfl, rfl, rfl, h2, r2⟩ := trodAll_cons r1
  obtain ⟨rfl, rfl, rfl⟩ := trodAll_nil r2
  obtain rfl : args = #[v0, v1, v2] := by cases args; simp_all
  obtain ⟨rfl, rfl⟩ := trodVars_none hV
  have z0 : (DataW.weightsEach Try.prog [3, 3, 4] [d0, d1, d2]).all (· ≤ reachBytes) = true := hsz0
  obtain ⟨s0, z1⟩ := Rd.weights_cons z0
  have lt0 : ∀ x ∈ p0, x.block < W.heap.size := by obtain ⟨m, hm⟩ := h0; exact DataW.trod_lt m _ _ _ hm
  have hc0 := Rd.form_int Try.underlying3 (hval 0 3 v0 rfl rfl)
  obtain ⟨a0, hk0, w0⟩ := Rd.arg (k := (Kd.int .i64)) (fun m => (Rd.reads_int Try.underlying3)) h0 s0
  rw [hc0] at hk0
  obtain rfl : v0 = .int .i64 a0 := by have hk : [v0] = [.int .i64 a0] := hk0; simpa using hk
  obtain ⟨s1, z2⟩ := Rd.weights_cons z1
  have lt1 : ∀ x ∈ p1, x.block < W.heap.size := by obtain ⟨m, hm⟩ := h1; exact DataW.trod_lt m _ _ _ hm
  have hc1 := Rd.form_int Try.underlying3 (hval 1 3 v1 rfl rfl)
  obtain ⟨a1, hk1, w1⟩ := Rd.arg (k := (Kd.int .i64)) (fun m => (Rd.reads_int Try.underlying3)) h1 s1
  rw [hc1] at hk1
  obtain rfl : v1 = .int .i64 a1 := by have hk : [v1] = [.int .i64 a1] := hk1; simpa using hk
  obtain ⟨s2, z3⟩ := Rd.weights_cons z2
  have lt2 : ∀ x ∈ p2, x.block < W.heap.size := by obtain ⟨m, hm⟩ := h2; exact DataW.trod_lt m _ _ _ hm
  have hc2 := Rd.form_bool Try.underlying4 (hval 2 4 v2 rfl rfl)
  obtain ⟨a2, hk2, w2⟩ := Rd.arg (k := Kd.bool) (fun m => (Rd.reads_bool Try.underlying4)) h2 s2
  rw [hc2] at hk2
  obtain rfl : v2 = .bool a2 := by have hk : [v2] = [.bool a2] := hk2; simpa using hk
  clear hA0 hval0 hsz0
  obtain ⟨k, hp⟩ := PureBadTells.pure a0 a1 a2 
  refine (PBadTells.colophonlaw23_BadTells.calls k a0 a1 a2 true W hp).mono fun e W' ⟨he, bel0⟩ => ?_
  have bel : Below W.heap.size W W' := bel0
  subst he
  exact ⟨_, rfl, _, _, _, [], _, [], hW', trodAll_mk1 (shut_bool Try.underlying4 _), (trodAll_cons_mk (Below.trod laidOut (by kernel_rfl) (of_decide_eq_true (by kernel_rfl)) h0 bel lt0) (trodAll_cons_mk (Below.trod laidOut (by kernel_rfl) (of_decide_eq_true (by kernel_rfl)) h1 bel lt1) (trodAll_cons_mk (Below.trod laidOut (by kernel_rfl) (of_decide_eq_true (by kernel_rfl)) h2 bel lt2) trodAll_mk0))), rfl, bel.frame _, fun h => by cases h⟩
theorem over : Rows.badTellsRow.holds Try.pinned (OpenSpec.ofChange Rows.badTellsSpec) :=
  OpenClaim.holds_of_wide 3 Try.f3 rfl rfl rfl rfl rfl rfl rfl ⟨rfl, rfl, rfl, rfl, rfl⟩ rfl rfl rfl rfl rfl (by kernel_rfl) Try.func3 (by kernel_rfl)
    (of_decide_eq_true (by kernel_rfl)) (by unfold Func.isWrapper; first | (rw [if_pos (by decide +kernel)]; kernel_rfl) | (rw [if_neg (by decide +kernel)]; exact ⟨rfl, rfl⟩))
    (fun os started H enc _ => lifted os started H enc)
theorem proved : Rows.BadTellsSaid := over
end Go.Proofs.Ytmllebfeghlmbaa.badTells
namespace Go.Proofs.Ytmllebfeghlmbaa
/-- The row, under a short name, for the claim. -/
theorem badTells_holds : Rows.BadTellsSaid := badTells.proved
#print axioms badTells_holds
end Go.Proofs.Ytmllebfeghlmbaa
