/- The row of AnchorsReach: for every input that can be read the call returns true, and each argument reads as it read. It joins the walk of the law's function and the plain statement. -/
import Derived.Test.YtdoponngnjmkkaaRows
import Derived.Test.YtdoponngnjmkkaaRd
import Derived.Test.YtdoponngnjmkkaaPAnchorsReachx5
import Derived.Test.YtdoponngnjmkkaaPureAnchorsReach
import Derived.WalkKit
import Derived.ProofKit
import Derived.OpenShut
import Derived.ShutString
import Derived.ChangeOld
import Derived.Below
import Derived.SizedLaws
namespace Go.Proofs.Ytdoponngnjmkkaa.anchorsReach
open Go.ChangeShapes Go.WideShapes Go.ChangeAt Go.RowKit Go.Proofs.YtdoponngnjmkkaaW.PrintWords
set_option linter.unusedVariables false
theorem own : ownKnob Try.prog.godebug = none := by kernel_rfl
theorem laidOut : laidOutB Try.prog = true := by kernel_rfl
set_option maxRecDepth 100000 in
theorem lifted (os : Os) (started : os.Started) (H : Type) (enc : TypeId × Value → H) :
    ReturnsInHanded {} Try.checked os 4 .any (Rows.anchorsReachSpec.pre6 enc Try.prog Try.f4 Rows.anchorsReachRow.domain false) (Rows.anchorsReachSpec.post enc Try.prog Try.f4 false true false false) := by
  refine returnsInHanded_of_change_sized (C := Try.checked) own started (by kernel_rfl) Try.func4
    (ChangeSpec.witness6 (enc := enc) (C := Try.checked) false ⟨#[], #[.slice none 0 0], []⟩ 8 (by kernel_rfl) (by kernel_rfl) (by kernel_rfl) (by kernel_rfl)) ?_
  intro W base args ds gs before hval0 hW hcnd hsz0 _
  have hval : ∀ (j : Nat) t v, Try.f4.params[j]? = some t → args[j]? = some v → Value.okWide Try.prog W .any base t v := hval0
  have hW' := hW
  obtain ⟨p, q, hA0, hV, rfl, hfz, hnd⟩ := hW
  have hA : DataW.TrodAll enc Try.prog W 0 (fun _ => true) true Try.f4.params.toList args.toList ds p := hA0
  rw [Try.params4] at hA hval
  obtain ⟨v0, vs0, d0, ds0, p0, q0, hargs, rfl, rfl, h0, r0⟩ := trodAll_cons hA
  obtain ⟨rfl, rfl, rfl⟩ := trodAll_nil r0
  obtain rfl : args = #[v0] := by cases args; simp_all
  obtain ⟨rfl, rfl⟩ := trodVars_none hV
  have z0 : (DataW.weightsEach Try.prog [22] [d0]).all (· ≤ reachBytes) = true := hsz0
  obtain ⟨s0, z1⟩ := Rd.weights_cons z0
  have lt0 : ∀ x ∈ p0, x.block < W.heap.size := by obtain ⟨m, hm⟩ := h0; exact DataW.trod_lt m _ _ _ hm
  obtain ⟨b0, len0, cap0, rfl, hc0⟩ := Rd.form_slice Try.underlying22 (hval 0 22 v0 rfl rfl)
  obtain ⟨a0, ⟨A0, c0, he0, hl0, hC0⟩, w0⟩ := Rd.arg (k := (Kd.slice 3 (Kd.int .i64))) (fun m => (Rd.reads_slice (B := 8) Try.underlying22 (by kernel_rfl) (by kernel_rfl) (Rd.reads_int Try.underlying3))) h0 s0
  rw [hc0] at he0
  obtain ⟨rfl, rfl, rfl⟩ : b0 = A0 ∧ len0 = a0.length ∧ cap0 = c0 := by simpa using he0
  (try clear hA0 hval0 hsz0)
  obtain ⟨k, hp⟩ := PureAnchorsReach.pure a0 w0.1
  refine (PAnchorsReach.colophonlaw29_AnchorsReach.calls k b0 cap0 a0 true W hC0 hl0 hp).mono fun e W' ⟨he, bel0⟩ => ?_
  have bel : Below W.heap.size W W' := bel0
  subst he
  exact ⟨_, rfl, _, _, _, [], _, [], hW', trodAll_mk1 (shut_bool Try.underlying4 _), (trodAll_cons_mk (Below.trod laidOut (by kernel_rfl) (of_decide_eq_true (by kernel_rfl)) h0 bel lt0) trodAll_mk0), rfl, bel.frame _, fun h => by cases h⟩
theorem over : Rows.anchorsReachRow.holds Try.pinned (OpenSpec.ofChange Rows.anchorsReachSpec) :=
  OpenClaim.holds_of_wide 4 Try.f4 rfl rfl rfl rfl rfl rfl rfl ⟨rfl, rfl, rfl, rfl, rfl⟩ rfl rfl rfl rfl rfl (by kernel_rfl) Try.func4 (by kernel_rfl)
    (of_decide_eq_true (by kernel_rfl)) (by unfold Func.isWrapper; first | (rw [if_pos (by decide +kernel)]; kernel_rfl) | (rw [if_neg (by decide +kernel)]; exact ⟨rfl, rfl⟩))
    (fun os started H enc _ => lifted os started H enc)
theorem proved : Rows.AnchorsReachSaid := over
end Go.Proofs.Ytdoponngnjmkkaa.anchorsReach
namespace Go.Proofs.Ytdoponngnjmkkaa
/-- The row, under a short name, for the claim. -/
theorem anchorsReach_holds : Rows.AnchorsReachSaid := anchorsReach.proved
#print axioms anchorsReach_holds
end Go.Proofs.Ytdoponngnjmkkaa
