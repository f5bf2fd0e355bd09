/- The row of StyleLast: for every input that can be read the call returns true, and each argument reads as it read. It joins the walk of the law's function and the plain statement. -/
import Derived.Test.YtpembifnjlekdaaRows
import Derived.Test.YtpembifnjlekdaaRd
import Derived.Test.YtpembifnjlekdaaLaC
import Derived.Test.YtpembifnjlekdaaPureStyleLastD
import Derived.Test.YtpembifnjlekdaaPureStyleLast
import Derived.WalkKit
import Derived.ProofKit
import Derived.OpenShut
import Derived.ShutString
import Derived.ChangeOld
import Derived.Below
import Derived.SizedLaws
namespace Go.Proofs.Ytpembifnjlekdaa.styleLast
open Go.ChangeShapes Go.WideShapes Go.ChangeAt Go.RowKit Go.Proofs.YtpembifnjlekdaaW.PrintWords
set_option linter.unusedVariables false
theorem own : ownKnob Try.prog.godebug = none := by kernel_rfl
theorem laidOut : laidOutB Try.prog = true := by kernel_rfl
set_option maxRecDepth 100000 in
theorem lifted (os : Os) (started : os.Started) (H : Type) (enc : TypeId × Value → H) :
    ReturnsInHanded {} Try.checked os 6 .any (Rows.styleLastSpec.pre6 enc Try.prog Try.f6 Rows.styleLastRow.domain false) (Rows.styleLastSpec.post enc Try.prog Try.f6 false true false false) := by
  refine returnsInHanded_of_change_sized (C := Try.checked) own started (by kernel_rfl) Try.func6
    (ChangeSpec.witness6 (enc := enc) (C := Try.checked) false ⟨#[], #[.slice none 0 0, .slice none 0 0, .agg #[.int .i64 0, .int .i64 0]], []⟩ 8 (by kernel_rfl) (by kernel_rfl) (by kernel_rfl) (by kernel_rfl)) ?_
  intro W base args ds gs before hval0 hW hcnd hsz0 _
  have hval : ∀ (j : Nat) t v, Try.f6.params[j]? = some t → args[j]? = some v → Value.okWide Try.prog W .any base t v := hval0
  have hW' := hW
  obtain ⟨p, q, hA0, hV, rfl, hfz, hnd⟩ := hW
  have hA : DataW.TrodAll enc Try.prog W 0 (fun _ => true) true Try.f6.params.toList args.toList ds p := hA0
  rw [Try.params6] at hA hval
  obtain ⟨v0, vs0, d0, ds0, p0, q0, hargs, rfl, rfl, h0, r0⟩ := trodAll_cons hA
  obtain ⟨v1, vs1, d1, ds1, p1, q1, rfl, rfl, rfl, h1, r1⟩ := trodAll_cons r0
  obtain ⟨v2, vs2, d2, ds2, p2, q2, rfl, rfl, rfl, h2, r2⟩ := trodAll_cons r1
  obtain ⟨rfl, rfl, rfl⟩ := trodAll_nil r2
  obtain rfl : args = #[v0, v1, v2] := by cases args; simp_all
  obtain ⟨rfl, rfl⟩ := trodVars_none hV
  have z0 : (DataW.weightsEach Try.prog [22, 23, 47] [d0, d1, d2]).all (· ≤ reachBytes) = true := hsz0
  obtain ⟨s0, z1⟩ := Rd.weights_cons z0
  have lt0 : ∀ x ∈ p0, x.block < W.heap.size := by obtain ⟨m, hm⟩ := h0; exact DataW.trod_lt m _ _ _ hm
  obtain ⟨b0, len0, cap0, rfl, hc0⟩ := Rd.form_slice Try.underlying22 (hval 0 22 v0 rfl rfl)
  obtain ⟨a0, ⟨A0, c0, he0, hl0, hC0⟩, w0⟩ := Rd.arg (k := (Kd.slice 41 PStyleLast.k41)) (fun m => (Rd.reads_slice (B := 48) Try.underlying22 (by kernel_rfl) (by kernel_rfl) (Rd.reads_iso _ (Rd.reads_struct Try.underlying41 (by kernel_rfl) (Rd.fs_cons rfl (by kernel_rfl) rfl (Rd.reads_slice (B := 24) Try.underlying38 (by kernel_rfl) (by kernel_rfl) (Rd.reads_iso _ (Rd.reads_struct Try.underlying45 (by kernel_rfl) (Rd.fs_one rfl (by kernel_rfl) (Rd.reads_slice (B := 64) Try.underlying43 (by kernel_rfl) (by kernel_rfl) (Rd.reads_iso _ (Rd.reads_struct Try.underlying78 (by kernel_rfl) (Rd.fs_cons rfl (by kernel_rfl) rfl (Rd.reads_string Try.underlying9) (Rd.fs_cons rfl (by kernel_rfl) rfl (Rd.reads_string Try.underlying9) (Rd.fs_cons rfl (by kernel_rfl) rfl (Rd.reads_slice (B := 16) Try.underlying54 (by kernel_rfl) (by kernel_rfl) (Rd.reads_string Try.underlying9)) (Rd.fs_one rfl (by kernel_rfl) (Rd.reads_bool Try.underlying4)))))) (fun x => ⟨⟨x.1, x.2.1, x.2.2.1, x.2.2.2⟩, rfl⟩))))) (fun x => ⟨⟨x⟩, rfl⟩))) (Rd.fs_one rfl (by kernel_rfl) (Rd.reads_slice (B := 16) Try.underlying39 (by kernel_rfl) (by kernel_rfl) (Rd.reads_iso _ (Rd.reads_struct Try.underlying47 (by kernel_rfl) (Rd.fs_cons rfl (by kernel_rfl) rfl (Rd.reads_int Try.underlying3) (Rd.fs_one rfl (by kernel_rfl) (Rd.reads_int Try.underlying3)))) (fun x => ⟨⟨x.1, x.2⟩, rfl⟩)))))) (fun x => ⟨⟨x.1, x.2⟩, rfl⟩)))) h0 s0
  rw [hc0] at he0
  obtain ⟨rfl, rfl, rfl⟩ : b0 = A0 ∧ len0 = a0.length ∧ cap0 = c0 := by simpa using he0
  obtain ⟨s1, z2⟩ := Rd.weights_cons z1
  have lt1 : ∀ x ∈ p1, x.block < W.heap.size := by obtain ⟨m, hm⟩ := h1; exact DataW.trod_lt m _ _ _ hm
  obtain ⟨b1, len1, cap1, rfl, hc1⟩ := Rd.form_slice Try.underlying23 (hval 1 23 v1 rfl rfl)
  obtain ⟨a1, ⟨A1, c1, he1, hl1, hC1⟩, w1⟩ := Rd.arg (k := (Kd.slice 56 PStyleLast.k56)) (fun m => (Rd.reads_slice (B := 56) Try.underlying23 (by kernel_rfl) (by kernel_rfl) (Rd.reads_iso _ (Rd.reads_struct Try.underlying56 (by kernel_rfl) (Rd.fs_cons rfl (by kernel_rfl) rfl (Rd.reads_string Try.underlying9) (Rd.fs_cons rfl (by kernel_rfl) rfl (Rd.reads_string Try.underlying9) (Rd.fs_one rfl (by kernel_rfl) (Rd.reads_slice (B := 16) Try.underlying54 (by kernel_rfl) (by kernel_rfl) (Rd.reads_string Try.underlying9)))))) (fun x => ⟨⟨x.1, x.2.1, x.2.2⟩, rfl⟩)))) h1 s1
  rw [hc1] at he1
  obtain ⟨rfl, rfl, rfl⟩ : b1 = A1 ∧ len1 = a1.length ∧ cap1 = c1 := by simpa using he1
  obtain ⟨s2, z3⟩ := Rd.weights_cons z2
  have lt2 : ∀ x ∈ p2, x.block < W.heap.size := by obtain ⟨m, hm⟩ := h2; exact DataW.trod_lt m _ _ _ hm
  obtain ⟨cs2, rfl, hc2⟩ := Rd.form_agg (.inl ⟨_, Try.underlying47⟩) (hval 2 47 v2 rfl rfl)
  obtain ⟨⟨a2_0, a2_1⟩, hk2, w2⟩ := Rd.arg (k := (Kd.pair (Kd.int .i64) (Kd.int .i64))) (fun m => (Rd.reads_struct Try.underlying47 (by kernel_rfl) (Rd.fs_cons rfl (by kernel_rfl) rfl (Rd.reads_int Try.underlying3) (Rd.fs_one rfl (by kernel_rfl) (Rd.reads_int Try.underlying3))))) h2 s2
  rw [hc2] at hk2
  obtain ⟨_, _, rfl, rfl, rfl⟩ := hk2
  (try clear hA0 hval0 hsz0)
  obtain ⟨k, hp⟩ := PureStyleLast.pure a0 a1 a2_0 a2_1 w0 w1
  refine (PStyleLast.colophonlaw20_StyleLast.calls k b0 cap0 a0 b1 cap1 a1 a2_0 a2_1 true W hC0 hl0 hC1 hl1 hp).mono fun e W' ⟨he, bel0⟩ => ?_
  have bel : Below W.heap.size W W' := bel0
  subst he
  exact ⟨_, rfl, _, _, _, [], _, [], hW', trodAll_mk1 (shut_bool Try.underlying4 _), (trodAll_cons_mk (Below.trod laidOut (by kernel_rfl) (of_decide_eq_true (by kernel_rfl)) h0 bel lt0) (trodAll_cons_mk (Below.trod laidOut (by kernel_rfl) (of_decide_eq_true (by kernel_rfl)) h1 bel lt1) (trodAll_cons_mk (Below.trod laidOut (by kernel_rfl) (of_decide_eq_true (by kernel_rfl)) h2 bel lt2) trodAll_mk0))), rfl, bel.frame _, fun h => by cases h⟩
theorem over : Rows.styleLastRow.holds Try.pinned (OpenSpec.ofChange Rows.styleLastSpec) :=
  OpenClaim.holds_of_wide 6 Try.f6 rfl rfl rfl rfl rfl rfl rfl ⟨rfl, rfl, rfl, rfl, rfl⟩ rfl rfl rfl rfl rfl (by kernel_rfl) Try.func6 (by kernel_rfl)
    (of_decide_eq_true (by kernel_rfl)) (by unfold Func.isWrapper; first | (rw [if_pos (by decide +kernel)]; kernel_rfl) | (rw [if_neg (by decide +kernel)]; exact ⟨rfl, rfl⟩))
    (fun os started H enc _ => lifted os started H enc)
theorem proved : Rows.StyleLastSaid := over
end Go.Proofs.Ytpembifnjlekdaa.styleLast
namespace Go.Proofs.Ytpembifnjlekdaa
/-- The row, under a short name, for the claim. -/
theorem styleLast_holds : Rows.StyleLastSaid := styleLast.proved
#print axioms styleLast_holds
end Go.Proofs.Ytpembifnjlekdaa
