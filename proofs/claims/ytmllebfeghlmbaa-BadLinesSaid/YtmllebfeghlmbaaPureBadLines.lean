/- The plain law of BadLines: the program's demerits are the reference's, for all 64-bit numbers. -/
import Derived.Test.YtmllebfeghlmbaaPBadLinesx1
namespace Go.Proofs.Ytmllebfeghlmbaa.PureBadLines
open Go.RowKit Go.Proofs.Ytmllebfeghlmbaa.PBadLines Go.Proofs.YtmllebfeghlmbaaW.PrintWords Go.Proofs.YtmllebfeghlmbaaW.PrintLast Go.Proofs.YtmllebfeghlmbaaW.PrintMore
theorem w_in {e : Int} (h : -9223372036854775808 ≤ e ∧ e ≤ 9223372036854775807) : wrap64 e = e := by unfold wrap64; omega
theorem wakes_f : colophonlaw23_wakes.f = some true := by decide +kernel
theorem rline (a b c : Int) : colophonref23_Line.f a b c = badness_Line.f a b c := by
  unfold colophonref23_Line.f badness_Line.f
  simp only [colophonref23_within.f, Option.bind_some]
  have h1 : 0 ≤ mn (mx a 0) 1000 ∧ mn (mx a 0) 1000 ≤ 1000 := by unfold mn mx; split <;> split <;> omega
  have h2 : 0 ≤ mn (mx b 0) 10000 ∧ mn (mx b 0) 10000 ≤ 10000 := by unfold mn mx; split <;> split <;> omega
  rw [w_in (e := mn (mx a 0) 1000 + mn (mx b 0) 10000) (by omega)]
theorem line_some (a b c : Int) : ∃ v, badness_Line.f a b c = some v := by
  unfold badness_Line.f
  split
  · exact ⟨_, rfl⟩
  · split <;> exact ⟨_, rfl⟩
theorem pure (a b c : Int) : colophonlaw23_BadLines.f a b c = some true := by
  unfold colophonlaw23_BadLines.f
  obtain ⟨v, hv⟩ := line_some a b c
  simp only [rline, hv, wakes_f, Option.bind_some, if_true]

end Go.Proofs.Ytmllebfeghlmbaa.PureBadLines
