/- The row of StyleFacts: for every input that can be read the call returns true, and each argument reads as it read. It joins the walk of the law's function and the plain statement. -/
import Derived.Test.YtpembifnjlekdaaRows
import Derived.Test.YtpembifnjlekdaaRdU
import Derived.Test.YtpembifnjlekdaaFaC
import Derived.Test.YtpembifnjlekdaaPureStyleFactsD
import Derived.Test.YtpembifnjlekdaaPureStyleFacts
import Derived.WalkKit
import Derived.ProofKit
import Derived.OpenShut
import Derived.ShutString
import Derived.ChangeOld
import Derived.Below
import Derived.SizedLaws
import Derived.JoinedCond
namespace Go.Proofs.Ytpembifnjlekdaa.styleFacts
open Go.ChangeShapes Go.WideShapes Go.ChangeAt Go.RowKit Go.Proofs.YtpembifnjlekdaaW.PrintWords
set_option linter.unusedVariables false
theorem own : ownKnob Try.prog.godebug = none := by kernel_rfl
theorem laidOut : laidOutB Try.prog = true := by kernel_rfl
set_option maxRecDepth 100000 in
theorem lifted (os : Os) (started : os.Started) (H : Type) (enc : TypeId × Value → H) (F : Stop.Interp) :
    ReturnsInHanded {} Try.checked os 7 .any ((Rows.OpenSpec.upto Rows.styleFactsSpec).pre6 enc Try.prog Try.f7 Rows.styleFactsUptoRow.domain false) (((Rows.OpenSpec.upto Rows.styleFactsSpec).at F).post enc Try.prog Try.f7 false true false false) := by
  refine returnsInHanded_of_cond (C := Try.checked) (s := Rows.OpenSpec.upto Rows.styleFactsSpec) (k := Rows.uptoSmall) rfl own started (by kernel_rfl) Try.func7
    (OpenSpec.witness (enc := enc) (C := Try.checked) (s := Rows.OpenSpec.upto Rows.styleFactsSpec) (k := Rows.uptoSmall) rfl false ⟨#[], #[.agg #[.string ByteArray.empty, .string ByteArray.empty, .slice none 0 0, .slice none 0 0, .int .i64 0]], []⟩ 8 (by kernel_rfl) (by kernel_rfl) (by kernel_rfl)
      (x := ([.agg [.lit (.string []), .lit (.string []), .nil, .nil, .lit (.int .i64 0)]], [], [])) (by kernel_rfl) rfl (by kernel_rfl)) ?_
  intro W base args ds gs before hval0 hW _ hk0 _
  have hval : ∀ (j : Nat) t v, Try.f7.params[j]? = some t → args[j]? = some v → Value.okWide Try.prog W .any base t v := hval0
  have hW' := hW
  obtain ⟨p, q, hA0, hV, rfl, hfz, hnd⟩ := hW
  have hA : DataW.TrodAll enc Try.prog W 0 (fun _ => true) true Try.f7.params.toList args.toList ds p := hA0
  rw [Try.params7] at hA hval
  obtain ⟨v0, vs0, d0, ds0, p0, q0, hargs, rfl, rfl, h0, r0⟩ := trodAll_cons hA
  obtain ⟨rfl, rfl, rfl⟩ := trodAll_nil r0
  obtain rfl : args = #[v0] := by cases args; simp_all
  obtain ⟨rfl, rfl⟩ := trodVars_none hV
  have z0 : Rows.uptoBulkAll [d0] ≤ 1048576 := of_decide_eq_true hk0
  obtain ⟨s0, z1⟩ := Rd.weights_cons z0
  have lt0 : ∀ x ∈ p0, x.block < W.heap.size := by obtain ⟨m, hm⟩ := h0; exact DataW.trod_lt m _ _ _ hm
  obtain ⟨cs0, rfl, hc0⟩ := Rd.form_agg (.inl ⟨_, Try.underlying52⟩) (hval 0 52 v0 rfl rfl)
  obtain ⟨⟨a0_0, a0_1, a0_2, a0_3, a0_4⟩, hk0, w0⟩ := Rd.arg (k := (Kd.pair Kd.string (Kd.pair Kd.string (Kd.pair (Kd.slice 82 PStyleFacts.k82) (Kd.pair (Kd.slice 52 PStyleFacts.k52) (Kd.int .i64)))))) (fun m => (Rd.reads_struct Try.underlying52 (by kernel_rfl) (Rd.fs_cons rfl (by kernel_rfl) rfl (Rd.reads_string Try.underlying9) (Rd.fs_cons rfl (by kernel_rfl) rfl (Rd.reads_string Try.underlying9) (Rd.fs_cons rfl (by kernel_rfl) rfl (Rd.reads_slice (B := 32) Try.underlying49 (by kernel_rfl) (by decide) (Rd.reads_iso _ (Rd.reads_struct Try.underlying82 (by kernel_rfl) (Rd.fs_cons rfl (by kernel_rfl) rfl (Rd.reads_string Try.underlying9) (Rd.fs_one rfl (by kernel_rfl) (Rd.reads_string Try.underlying9)))) (fun x => ⟨⟨x.1, x.2⟩, rfl⟩))) (Rd.fs_cons rfl (by kernel_rfl) rfl (Rd.reads_slice (B := 88) Try.underlying50 (by kernel_rfl) (by decide) (PureStyleFacts.reads_node _)) (Rd.fs_one rfl (by kernel_rfl) (Rd.reads_int Try.underlying3)))))))) h0 s0
  rw [hc0] at hk0
  obtain ⟨_, _, rfl, rfl, ⟨_, _, rfl, rfl, ⟨_, _, rfl, ⟨Aa0_2, ca0_2, rfl, hla0_2, hCa0_2⟩, ⟨_, _, rfl, ⟨Aa0_3, ca0_3, rfl, hla0_3, hCa0_3⟩, rfl⟩⟩⟩⟩ := hk0
  (try clear hA0); (try clear hval0); (try clear hsz0); (try clear hk0)
  obtain ⟨k, hp⟩ := PureStyleFacts.pureN a0_0 a0_1 a0_2 a0_3 a0_4 w0
  refine (PStyleFacts.colophonlaw20_StyleFacts.calls k a0_0 a0_1 Aa0_2 ca0_2 a0_2 Aa0_3 ca0_3 a0_3 a0_4 true W hCa0_2 hla0_2 hCa0_3 hla0_3 hp).mono fun e W' ⟨he, bel0⟩ => ?_
  have bel : Below W.heap.size W W' := bel0
  subst he
  exact ⟨_, rfl, _, _, _, [], _, [], hW', trodAll_mk1 (shut_bool Try.underlying4 _), (trodAll_cons_mk (Below.trod laidOut (by kernel_rfl) (of_decide_eq_true (by kernel_rfl)) h0 bel lt0) trodAll_mk0), rfl, bel.frame _, fun h => by cases h⟩
theorem over : Rows.styleFactsUptoRow.holds Try.pinned (Rows.OpenSpec.upto Rows.styleFactsSpec) :=
  OpenClaim.holds_of_cond 7 Try.f7 rfl rfl rfl rfl rfl rfl rfl ⟨rfl, rfl, rfl, rfl, rfl⟩ rfl rfl rfl rfl rfl (by kernel_rfl) Try.func7 (by kernel_rfl)
    (of_decide_eq_true (by kernel_rfl)) (by unfold Func.isWrapper; first | (rw [if_pos (by decide +kernel)]; kernel_rfl) | (rw [if_neg (by decide +kernel)]; exact ⟨rfl, rfl⟩))
    (fun os started H enc _ F => lifted os started H enc F)
theorem proved : Rows.StyleFactsUptoSaid := over
end Go.Proofs.Ytpembifnjlekdaa.styleFacts
namespace Go.Proofs.Ytpembifnjlekdaa
/-- The row, under a short name, for the claim. -/
theorem styleFactsUpto_holds : Rows.StyleFactsUptoSaid := styleFacts.proved
#print axioms styleFactsUpto_holds
end Go.Proofs.Ytpembifnjlekdaa
