/- The row of PagesPara: for every input that can be read the call returns true, and each argument reads as it read. It joins the walk of the law's function and the plain statement. -/
import Derived.Test.YtogjeababinnlaaRows
import Derived.Test.YtogjeababinnlaaRd
import Derived.Test.YtogjeababinnlaaPPagesParax7
import Derived.Test.YtogjeababinnlaaPurePagesPara
import Derived.WalkKit
import Derived.ProofKit
import Derived.OpenShut
import Derived.ShutString
import Derived.ChangeOld
import Derived.Below
import Derived.SizedLaws
namespace Go.Proofs.Ytogjeababinnlaa.pagesPara
open Go.ChangeShapes Go.WideShapes Go.ChangeAt Go.RowKit Go.Proofs.YtogjeababinnlaaW.PrintWords
set_option linter.unusedVariables false
theorem own : ownKnob Try.prog.godebug = none := by kernel_rfl
theorem laidOut : laidOutB Try.prog = true := by kernel_rfl
set_option maxRecDepth 100000 in
theorem lifted (os : Os) (started : os.Started) (H : Type) (enc : TypeId × Value → H) :
    ReturnsInHanded {} Try.checked os 6 .any (Rows.pagesParaSpec.pre6 enc Try.prog Try.f6 Rows.pagesParaRow.domain false) (Rows.pagesParaSpec.post enc Try.prog Try.f6 false true false false) := by
  refine returnsInHanded_of_change_sized (C := Try.checked) own started (by kernel_rfl) Try.func6
    (ChangeSpec.witness6 (enc := enc) (C := Try.checked) false ⟨#[], #[.agg #[.int .i64 0, .int .i64 0, .int .i64 0, .int .i64 0]], []⟩ 8 (by kernel_rfl) (by kernel_rfl) (by kernel_rfl) (by kernel_rfl)) ?_
  intro W base args ds gs before hval0 hW hcnd hsz0 _
  have hval : ∀ (j : Nat) t v, Try.f6.params[j]? = some t → args[j]? = some v → Value.okWide Try.prog W .any base t v := hval0
  have hW' := hW
  obtain ⟨p, q, hA0, hV, rfl, hfz, hnd⟩ := hW
  have hA : DataW.TrodAll enc Try.prog W 0 (fun _ => true) true Try.f6.params.toList args.toList ds p := hA0
  rw [Try.params6] at hA hval
  obtain ⟨v0, vs0, d0, ds0, p0, q0, hargs, rfl, rfl, h0, r0⟩ := trodAll_cons hA
  obtain ⟨rfl, rfl, rfl⟩ := trodAll_nil r0
  obtain rfl : args = #[v0] := by cases args; simp_all
  obtain ⟨rfl, rfl⟩ := trodVars_none hV
  have z0 : (DataW.weightsEach Try.prog [46] [d0]).all (· ≤ reachBytes) = true := hsz0
  obtain ⟨s0, z1⟩ := Rd.weights_cons z0
  have lt0 : ∀ x ∈ p0, x.block < W.heap.size := by obtain ⟨m, hm⟩ := h0; exact DataW.trod_lt m _ _ _ hm
  obtain ⟨cs0, rfl, hc0⟩ := Rd.form_agg (.inl ⟨_, Try.underlying46⟩) (hval 0 46 v0 rfl rfl)
  obtain ⟨⟨a0_0, a0_1, a0_2, a0_3⟩, hk0, w0⟩ := Rd.arg (k := (Kd.pair (Kd.int .i64) (Kd.pair (Kd.int .i64) (Kd.pair (Kd.int .i64) (Kd.int .i64))))) (fun m => (Rd.reads_struct Try.underlying46 (by kernel_rfl) (Rd.fs_cons rfl (by kernel_rfl) rfl (Rd.reads_int Try.underlying3) (Rd.fs_cons rfl (by kernel_rfl) rfl (Rd.reads_int Try.underlying3) (Rd.fs_cons rfl (by kernel_rfl) rfl (Rd.reads_int Try.underlying3) (Rd.fs_one rfl (by kernel_rfl) (Rd.reads_int Try.underlying3))))))) h0 s0
  rw [hc0] at hk0
  obtain ⟨_, _, rfl, rfl, ⟨_, _, rfl, rfl, ⟨_, _, rfl, rfl, rfl⟩⟩⟩ := hk0
  (try clear hA0 hval0 hsz0)
  obtain ⟨k, hp⟩ := PurePagesPara.pure a0_0 a0_1 a0_2 a0_3 
  refine (PPagesPara.colophonlaw27_PagesPara.calls k a0_0 a0_1 a0_2 a0_3 true W hp).mono fun e W' ⟨he, bel0⟩ => ?_
  have bel : Below W.heap.size W W' := bel0
  subst he
  exact ⟨_, rfl, _, _, _, [], _, [], hW', trodAll_mk1 (shut_bool Try.underlying4 _), (trodAll_cons_mk (Below.trod laidOut (by kernel_rfl) (of_decide_eq_true (by kernel_rfl)) h0 bel lt0) trodAll_mk0), rfl, bel.frame _, fun h => by cases h⟩
theorem over : Rows.pagesParaRow.holds Try.pinned (OpenSpec.ofChange Rows.pagesParaSpec) :=
  OpenClaim.holds_of_wide 6 Try.f6 rfl rfl rfl rfl rfl rfl rfl ⟨rfl, rfl, rfl, rfl, rfl⟩ rfl rfl rfl rfl rfl (by kernel_rfl) Try.func6 (by kernel_rfl)
    (of_decide_eq_true (by kernel_rfl)) (by unfold Func.isWrapper; first | (rw [if_pos (by decide +kernel)]; kernel_rfl) | (rw [if_neg (by decide +kernel)]; exact ⟨rfl, rfl⟩))
    (fun os started H enc _ => lifted os started H enc)
theorem proved : Rows.PagesParaSaid := over
end Go.Proofs.Ytogjeababinnlaa.pagesPara
namespace Go.Proofs.Ytogjeababinnlaa
/-- The row, under a short name, for the claim. -/
theorem pagesPara_holds : Rows.PagesParaSaid := pagesPara.proved
#print axioms pagesPara_holds
end Go.Proofs.Ytogjeababinnlaa
