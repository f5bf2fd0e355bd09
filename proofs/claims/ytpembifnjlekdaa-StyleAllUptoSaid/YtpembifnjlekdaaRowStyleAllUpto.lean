/- The row of StyleAll: for every input that can be read the call returns true, and each argument reads as it read. It joins the walk of the law's function and the plain statement. -/
import Derived.Test.YtpembifnjlekdaaRows
import Derived.Test.YtpembifnjlekdaaRdU
import Derived.Test.YtpembifnjlekdaaPStyleAllx15
import Derived.Test.YtpembifnjlekdaaPureStyleAllD
import Derived.Test.YtpembifnjlekdaaPureStyleAll
import Derived.WalkKit
import Derived.ProofKit
import Derived.OpenShut
import Derived.ShutString
import Derived.ChangeOld
import Derived.Below
import Derived.SizedLaws
import Derived.JoinedCond
namespace Go.Proofs.Ytpembifnjlekdaa.styleAll
open Go.ChangeShapes Go.WideShapes Go.ChangeAt Go.RowKit Go.Proofs.YtpembifnjlekdaaW.PrintWords
set_option linter.unusedVariables false
theorem own : ownKnob Try.prog.godebug = none := by kernel_rfl
theorem laidOut : laidOutB Try.prog = true := by kernel_rfl
set_option maxRecDepth 100000 in
theorem lifted (os : Os) (started : os.Started) (H : Type) (enc : TypeId × Value → H) (F : Stop.Interp) :
    ReturnsInHanded {} Try.checked os 8 .any ((Rows.OpenSpec.upto Rows.styleAllSpec).pre6 enc Try.prog Try.f8 Rows.styleAllUptoRow.domain false) (((Rows.OpenSpec.upto Rows.styleAllSpec).at F).post enc Try.prog Try.f8 false true false false) := by
  refine returnsInHanded_of_cond (C := Try.checked) (s := Rows.OpenSpec.upto Rows.styleAllSpec) (k := Rows.uptoSmall) rfl own started (by kernel_rfl) Try.func8
    (OpenSpec.witness (enc := enc) (C := Try.checked) (s := Rows.OpenSpec.upto Rows.styleAllSpec) (k := Rows.uptoSmall) rfl false ⟨#[], #[.slice none 0 0, .agg #[.string ByteArray.empty, .string ByteArray.empty, .slice none 0 0, .slice none 0 0, .int .i64 0]], []⟩ 8 (by kernel_rfl) (by kernel_rfl) (by kernel_rfl)
      (x := ([.nil, .agg [.lit (.string []), .lit (.string []), .nil, .nil, .lit (.int .i64 0)]], [], [])) (by kernel_rfl) rfl (by kernel_rfl)) ?_
  intro W base args ds gs before hval0 hW _ hk0 _
  have hval : ∀ (j : Nat) t v, Try.f8.params[j]? = some t → args[j]? = some v → Value.okWide Try.prog W .any base t v := hval0
  have hW' := hW
  obtain ⟨p, q, hA0, hV, rfl, hfz, hnd⟩ := hW
  have hA : DataW.TrodAll enc Try.prog W 0 (fun _ => true) true Try.f8.params.toList args.toList ds p := hA0
  rw [Try.params8] at hA hval
  obtain ⟨v0, vs0, d0, ds0, p0, q0, hargs, rfl, rfl, h0, r0⟩ := trodAll_cons hA
  obtain ⟨v1, vs1, d1, ds1, p1, q1, rfl, rfl, rfl, h1, r1⟩ := trodAll_cons r0
  obtain ⟨rfl, rfl, rfl⟩ := trodAll_nil r1
  obtain rfl : args = #[v0, v1] := by cases args; simp_all
  obtain ⟨rfl, rfl⟩ := trodVars_none hV
  have z0 : Rows.uptoBulkAll [d0, d1] ≤ 1048576 := of_decide_eq_true hk0
  obtain ⟨s0, z1⟩ := Rd.weights_cons z0
  have lt0 : ∀ x ∈ p0, x.block < W.heap.size := by obtain ⟨m, hm⟩ := h0; exact DataW.trod_lt m _ _ _ hm
  obtain ⟨b0, len0, cap0, rfl, hc0⟩ := Rd.form_slice Try.underlying22 (hval 0 22 v0 rfl rfl)
  obtain ⟨a0, ⟨A0, c0, he0, hl0, hC0⟩, w0⟩ := Rd.arg (k := (Kd.slice 41 PStyleAll.k41)) (fun m => (Rd.reads_slice (B := 48) Try.underlying22 (by kernel_rfl) (by decide) (Rd.reads_iso _ (Rd.reads_struct Try.underlying41 (by kernel_rfl) (Rd.fs_cons rfl (by kernel_rfl) rfl (Rd.reads_slice (B := 24) Try.underlying38 (by kernel_rfl) (by decide) (Rd.reads_iso _ (Rd.reads_struct Try.underlying45 (by kernel_rfl) (Rd.fs_one rfl (by kernel_rfl) (Rd.reads_slice (B := 64) Try.underlying43 (by kernel_rfl) (by decide) (Rd.reads_iso _ (Rd.reads_struct Try.underlying78 (by kernel_rfl) (Rd.fs_cons rfl (by kernel_rfl) rfl (Rd.reads_string Try.underlying9) (Rd.fs_cons rfl (by kernel_rfl) rfl (Rd.reads_string Try.underlying9) (Rd.fs_cons rfl (by kernel_rfl) rfl (Rd.reads_slice (B := 16) Try.underlying54 (by kernel_rfl) (by decide) (Rd.reads_string Try.underlying9)) (Rd.fs_one rfl (by kernel_rfl) (Rd.reads_bool Try.underlying4)))))) (fun x => ⟨⟨x.1, x.2.1, x.2.2.1, x.2.2.2⟩, rfl⟩))))) (fun x => ⟨⟨x⟩, rfl⟩))) (Rd.fs_one rfl (by kernel_rfl) (Rd.reads_slice (B := 16) Try.underlying39 (by kernel_rfl) (by decide) (Rd.reads_iso _ (Rd.reads_struct Try.underlying47 (by kernel_rfl) (Rd.fs_cons rfl (by kernel_rfl) rfl (Rd.reads_int Try.underlying3) (Rd.fs_one rfl (by kernel_rfl) (Rd.reads_int Try.underlying3)))) (fun x => ⟨⟨x.1, x.2⟩, rfl⟩)))))) (fun x => ⟨⟨x.1, x.2⟩, rfl⟩)))) h0 s0
  rw [hc0] at he0
  obtain ⟨rfl, rfl, rfl⟩ : b0 = A0 ∧ len0 = a0.length ∧ cap0 = c0 := by simpa using he0
  obtain ⟨s1, z2⟩ := Rd.weights_cons z1
  have lt1 : ∀ x ∈ p1, x.block < W.heap.size := by obtain ⟨m, hm⟩ := h1; exact DataW.trod_lt m _ _ _ hm
  obtain ⟨cs1, rfl, hc1⟩ := Rd.form_agg (.inl ⟨_, Try.underlying52⟩) (hval 1 52 v1 rfl rfl)
  obtain ⟨⟨a1_0, a1_1, a1_2, a1_3, a1_4⟩, hk1, w1⟩ := Rd.arg (k := (Kd.pair Kd.string (Kd.pair Kd.string (Kd.pair (Kd.slice 82 PStyleAll.k82) (Kd.pair (Kd.slice 52 PStyleAll.k52) (Kd.int .i64)))))) (fun m => (Rd.reads_struct Try.underlying52 (by kernel_rfl) (Rd.fs_cons rfl (by kernel_rfl) rfl (Rd.reads_string Try.underlying9) (Rd.fs_cons rfl (by kernel_rfl) rfl (Rd.reads_string Try.underlying9) (Rd.fs_cons rfl (by kernel_rfl) rfl (Rd.reads_slice (B := 32) Try.underlying49 (by kernel_rfl) (by decide) (Rd.reads_iso _ (Rd.reads_struct Try.underlying82 (by kernel_rfl) (Rd.fs_cons rfl (by kernel_rfl) rfl (Rd.reads_string Try.underlying9) (Rd.fs_one rfl (by kernel_rfl) (Rd.reads_string Try.underlying9)))) (fun x => ⟨⟨x.1, x.2⟩, rfl⟩))) (Rd.fs_cons rfl (by kernel_rfl) rfl (Rd.reads_slice (B := 88) Try.underlying50 (by kernel_rfl) (by decide) (PureStyleAll.reads_node _)) (Rd.fs_one rfl (by kernel_rfl) (Rd.reads_int Try.underlying3)))))))) h1 s1
  rw [hc1] at hk1
  obtain ⟨_, _, rfl, rfl, ⟨_, _, rfl, rfl, ⟨_, _, rfl, ⟨Aa1_2, ca1_2, rfl, hla1_2, hCa1_2⟩, ⟨_, _, rfl, ⟨Aa1_3, ca1_3, rfl, hla1_3, hCa1_3⟩, rfl⟩⟩⟩⟩ := hk1
  (try clear hA0); (try clear hval0); (try clear hsz0); (try clear hk0)
  obtain ⟨k, hp⟩ := PureStyleAll.pureN a0 a1_0 a1_1 a1_2 a1_3 a1_4 w0 w1
  refine (PStyleAll.colophonlaw20_StyleAll.calls k b0 cap0 a0 a1_0 a1_1 Aa1_2 ca1_2 a1_2 Aa1_3 ca1_3 a1_3 a1_4 true W hC0 hl0 hCa1_2 hla1_2 hCa1_3 hla1_3 hp).mono fun e W' ⟨he, bel0⟩ => ?_
  have bel : Below W.heap.size W W' := bel0
  subst he
  exact ⟨_, rfl, _, _, _, [], _, [], hW', trodAll_mk1 (shut_bool Try.underlying4 _), (trodAll_cons_mk (Below.trod laidOut (by kernel_rfl) (of_decide_eq_true (by kernel_rfl)) h0 bel lt0) (trodAll_cons_mk (Below.trod laidOut (by kernel_rfl) (of_decide_eq_true (by kernel_rfl)) h1 bel lt1) trodAll_mk0)), rfl, bel.frame _, fun h => by cases h⟩
theorem over : Rows.styleAllUptoRow.holds Try.pinned (Rows.OpenSpec.upto Rows.styleAllSpec) :=
  OpenClaim.holds_of_cond 8 Try.f8 rfl rfl rfl rfl rfl rfl rfl ⟨rfl, rfl, rfl, rfl, rfl⟩ rfl rfl rfl rfl rfl (by kernel_rfl) Try.func8 (by kernel_rfl)
    (of_decide_eq_true (by kernel_rfl)) (by unfold Func.isWrapper; first | (rw [if_pos (by decide +kernel)]; kernel_rfl) | (rw [if_neg (by decide +kernel)]; exact ⟨rfl, rfl⟩))
    (fun os started H enc _ F => lifted os started H enc F)
theorem proved : Rows.StyleAllUptoSaid := over
end Go.Proofs.Ytpembifnjlekdaa.styleAll
namespace Go.Proofs.Ytpembifnjlekdaa
/-- The row, under a short name, for the claim. -/
theorem styleAllUpto_holds : Rows.StyleAllUptoSaid := styleAll.proved
#print axioms styleAllUpto_holds
end Go.Proofs.Ytpembifnjlekdaa
