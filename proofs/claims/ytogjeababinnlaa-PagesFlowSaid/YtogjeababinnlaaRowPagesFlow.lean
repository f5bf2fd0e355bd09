/- The row of PagesFlow: for every input that can be read the call returns true, and each argument reads as it read. It joins the walk of the law's function and the plain statement. -/
import Derived.Test.YtogjeababinnlaaRows
import Derived.Test.YtogjeababinnlaaRd
import Derived.Test.YtogjeababinnlaaPPagesFlowx9
import Derived.Test.YtogjeababinnlaaPurePagesFlow
import Derived.WalkKit
import Derived.ProofKit
import Derived.OpenShut
import Derived.ShutString
import Derived.ChangeOld
import Derived.Below
import Derived.SizedLaws
namespace Go.Proofs.Ytogjeababinnlaa.pagesFlow
open Go.ChangeShapes Go.WideShapes Go.ChangeAt Go.RowKit Go.Proofs.YtogjeababinnlaaW.PrintWords
set_option linter.unusedVariables false
theorem own : ownKnob Try.prog.godebug = none := by kernel_rfl
theorem laidOut : laidOutB Try.prog = true := by kernel_rfl
set_option maxRecDepth 100000 in
theorem lifted (os : Os) (started : os.Started) (H : Type) (enc : TypeId × Value → H) :
    ReturnsInHanded {} Try.checked os 9 .any (Rows.pagesFlowSpec.pre6 enc Try.prog Try.f9 Rows.pagesFlowRow.domain false) (Rows.pagesFlowSpec.post enc Try.prog Try.f9 false true false false) := by
  refine returnsInHanded_of_change_sized (C := Try.checked) own started (by kernel_rfl) Try.func9
    (ChangeSpec.witness6 (enc := enc) (C := Try.checked) false ⟨#[], #[.slice none 0 0, .int .i64 0], []⟩ 8 (by kernel_rfl) (by kernel_rfl) (by kernel_rfl) (by kernel_rfl)) ?_
  intro W base args ds gs before hval0 hW hcnd hsz0 _
  have hval : ∀ (j : Nat) t v, Try.f9.params[j]? = some t → args[j]? = some v → Value.okWide Try.prog W .any base t v := hval0
  have hW' := hW
  obtain ⟨p, q, hA0, hV, rfl, hfz, hnd⟩ := hW
  have hA : DataW.TrodAll enc Try.prog W 0 (fun _ => true) true Try.f9.params.toList args.toList ds p := hA0
  rw [Try.params9] at hA hval
  obtain ⟨v0, vs0, d0, ds0, p0, q0, hargs, rfl, rfl, h0, r0⟩ := trodAll_cons hA
  obtain ⟨v1, vs1, d1, ds1, p1, q1, rfl, rfl, rfl, h1, r1⟩ := trodAll_cons r0
  obtain ⟨rfl, rfl, rfl⟩ := trodAll_nil r1
  obtain rfl : args = #[v0, v1] := by cases args; simp_all
  obtain ⟨rfl, rfl⟩ := trodVars_none hV
  have z0 : (DataW.weightsEach Try.prog [56, 3] [d0, d1]).all (· ≤ reachBytes) = true := hsz0
  obtain ⟨s0, z1⟩ := Rd.weights_cons z0
  have lt0 : ∀ x ∈ p0, x.block < W.heap.size := by obtain ⟨m, hm⟩ := h0; exact DataW.trod_lt m _ _ _ hm
  obtain ⟨b0, len0, cap0, rfl, hc0⟩ := Rd.form_slice Try.underlying56 (hval 0 56 v0 rfl rfl)
  obtain ⟨a0, ⟨A0, c0, he0, hl0, hC0⟩, w0⟩ := Rd.arg (k := (Kd.slice 49 PPagesFlow.k49)) (fun m => (Rd.reads_slice (B := 96) Try.underlying56 (by kernel_rfl) (by kernel_rfl) (Rd.reads_iso _ (Rd.reads_struct Try.underlying49 (by kernel_rfl) (Rd.fs_cons rfl (by kernel_rfl) rfl (Rd.reads_slice (B := 8) Try.underlying26 (by kernel_rfl) (by kernel_rfl) (Rd.reads_int Try.underlying3)) (Rd.fs_cons rfl (by kernel_rfl) rfl (Rd.reads_slice (B := 8) Try.underlying26 (by kernel_rfl) (by kernel_rfl) (Rd.reads_int Try.underlying3)) (Rd.fs_cons rfl (by kernel_rfl) rfl (Rd.reads_slice (B := 8) Try.underlying26 (by kernel_rfl) (by kernel_rfl) (Rd.reads_int Try.underlying3)) (Rd.fs_cons rfl (by kernel_rfl) rfl (Rd.reads_int Try.underlying3) (Rd.fs_cons rfl (by kernel_rfl) rfl (Rd.reads_int Try.underlying3) (Rd.fs_cons rfl (by kernel_rfl) rfl (Rd.reads_bool Try.underlying4) (Rd.fs_one rfl (by kernel_rfl) (Rd.reads_bool Try.underlying4))))))))) (fun x => ⟨⟨x.1, x.2.1, x.2.2.1, x.2.2.2.1, x.2.2.2.2.1, x.2.2.2.2.2.1, x.2.2.2.2.2.2⟩, rfl⟩)))) h0 s0
  rw [hc0] at he0
  obtain ⟨rfl, rfl, rfl⟩ : b0 = A0 ∧ len0 = a0.length ∧ cap0 = c0 := by simpa using he0
  obtain ⟨s1, z2⟩ := Rd.weights_cons z1
  have lt1 : ∀ x ∈ p1, x.block < W.heap.size := by obtain ⟨m, hm⟩ := h1; exact DataW.trod_lt m _ _ _ hm
  have hc1 := Rd.form_int Try.underlying3 (hval 1 3 v1 rfl rfl)
  obtain ⟨a1, hk1, w1⟩ := Rd.arg (k := (Kd.int .i64)) (fun m => (Rd.reads_int Try.underlying3)) h1 s1
  rw [hc1] at hk1
  obtain rfl : v1 = .int .i64 a1 := by have hk : [v1] = [.int .i64 a1] := hk1; simpa using hk
  (try clear hA0); (try clear hval0); (try clear hsz0); (try clear hk0)
  obtain ⟨k, hp⟩ := PurePagesFlow.pure a0 a1 w0
  refine (PPagesFlow.colophonlaw27_PagesFlow.calls k b0 cap0 a0 a1 true W hC0 hl0 hp).mono fun e W' ⟨he, bel0⟩ => ?_
  have bel : Below W.heap.size W W' := bel0
  subst he
  exact ⟨_, rfl, _, _, _, [], _, [], hW', trodAll_mk1 (shut_bool Try.underlying4 _), (trodAll_cons_mk (Below.trod laidOut (by kernel_rfl) (of_decide_eq_true (by kernel_rfl)) h0 bel lt0) (trodAll_cons_mk (Below.trod laidOut (by kernel_rfl) (of_decide_eq_true (by kernel_rfl)) h1 bel lt1) trodAll_mk0)), rfl, bel.frame _, fun h => by cases h⟩
theorem over : Rows.pagesFlowRow.holds Try.pinned (OpenSpec.ofChange Rows.pagesFlowSpec) :=
  OpenClaim.holds_of_wide 9 Try.f9 rfl rfl rfl rfl rfl rfl rfl ⟨rfl, rfl, rfl, rfl, rfl⟩ rfl rfl rfl rfl rfl (by kernel_rfl) Try.func9 (by kernel_rfl)
    (of_decide_eq_true (by kernel_rfl)) (by unfold Func.isWrapper; first | (rw [if_pos (by decide +kernel)]; kernel_rfl) | (rw [if_neg (by decide +kernel)]; exact ⟨rfl, rfl⟩))
    (fun os started H enc _ => lifted os started H enc)
theorem proved : Rows.PagesFlowSaid := over
end Go.Proofs.Ytogjeababinnlaa.pagesFlow
namespace Go.Proofs.Ytogjeababinnlaa
/-- The row, under a short name, for the claim. -/
theorem pagesFlow_holds : Rows.PagesFlowSaid := pagesFlow.proved
#print axioms pagesFlow_holds
end Go.Proofs.Ytogjeababinnlaa
