-- Written by a copy of the print that this session has turned (wip/tools/patchprint.py): arrays as records.
import Derived.Test.YtogjeababinnlaaPPagesBestx0
import Derived.Test.YtogjeababinnlaaPPagesBestx5
import Derived.Test.YtogjeababinnlaaPPagesBestx6
namespace Go.Proofs.Ytogjeababinnlaa.PPagesBest
open Go.RowKit Go.Proofs.YtogjeababinnlaaW.PrintWords Go.Proofs.YtogjeababinnlaaW.PrintLast Go.Proofs.YtogjeababinnlaaW.PrintMore
attribute [local go_sem] max2_int min2_int max_two min_two max_three min_three max_four min_four   -- for this text's walks alone
set_option linter.unusedVariables false
set_option linter.unusedSimpArgs false

/-! ### colophonref27_Best: function 16 -/
mutual
def colophonref27_Best.j0 : Nat → List (S43) → Int → Bool → Option (List Int × Int × Bool)
  | 0, _, _, _ => none
  | k + 1, x0, x1, x27 => if x27 = true then (some (([] : List Int), 0, false)) else (if 0 ≤ (wrap64 ((x0.length : Int) + 1)) then (if (wrap64 ((x0.length : Int) + 1) : Int).toNat ≤ 35184372088832 then (colophonref27_Best.l0 k x0 x1 (x0.length : Int) (List.replicate (wrap64 ((x0.length : Int) + 1) : Int).toNat 0) (List.replicate (wrap64 ((x0.length : Int) + 1) : Int).toNat 0) (wrap64 ((x0.length : Int) - 2))) else (none)) else (none))
def colophonref27_Best.l0 : Nat → List (S43) → Int → Int → List Int → List Int → Int → Option (List Int × Int × Bool)
  | 0, _, _, _, _, _, _ => none
  | k + 1, x0, x1, x7, x8, x9, x10 => if x10 ≥ (-1) then (if 0 ≤ (wrap64 (x10 + 1)) then (if (wrap64 (x10 + 1)) < (x8.length : Int) then ((some (x8.set ((wrap64 (x10 + 1)) : Int).toNat (-1) : List Int)).bind fun y178 => (if x10 ≥ 0 then ((colophonref27_legal.f x0 x10).bind fun t179 => (colophonref27_Best.j2 k x0 x1 x7 y178 x9 x10 (!t179))) else (colophonref27_Best.j2 k x0 x1 x7 y178 x9 x10 false))) else (none)) else (none)) else (if 0 < (x8.length : Int) then (if (rd x8 0) < 0 then (some (([] : List Int), 0, false)) else (colophonref27_Best.l2 k x7 x8 x9 ([] : List Int) (-1))) else (none))
def colophonref27_Best.j2 : Nat → List (S43) → Int → Int → List Int → List Int → Int → Bool → Option (List Int × Int × Bool)
  | 0, _, _, _, _, _, _, _ => none
  | k + 1, x0, x1, x7, x8, x9, x10, x53 => if x53 = true then (colophonref27_Best.l0 k x0 x1 x7 x8 x9 (wrap64 (x10 - 1))) else (colophonref27_Best.l1 k x0 x1 x7 x8 x9 x10 (wrap64 (x10 + 1)))
def colophonref27_Best.l1 : Nat → List (S43) → Int → Int → List Int → List Int → Int → Int → Option (List Int × Int × Bool)
  | 0, _, _, _, _, _, _, _ => none
  | k + 1, x0, x1, x7, x8, x9, x10, x11 => if x11 < x7 then ((colophonref27_legal.f x0 x11).bind fun t180 => (if t180 = true then ((colophonref27_cost.f k x0 x10 x11 x1).bind fun bt181 => (if bt181.2 = true then (if x11 = (wrap64 (x7 - 1)) then (colophonref27_Best.j4 k x0 x1 x7 x8 x9 x10 x11 bt181.1 true) else (if 0 ≤ (wrap64 (x11 + 1)) then (if (wrap64 (x11 + 1)) < (x8.length : Int) then (colophonref27_Best.j4 k x0 x1 x7 x8 x9 x10 x11 bt181.1 (decide ((rd x8 (wrap64 (x11 + 1))) ≥ 0))) else (none)) else (none))) else (colophonref27_Best.j4 k x0 x1 x7 x8 x9 x10 x11 bt181.1 false))) else (colophonref27_Best.l1 k x0 x1 x7 x8 x9 x10 (wrap64 (x11 + 1))))) else (colophonref27_Best.l0 k x0 x1 x7 x8 x9 (wrap64 (x10 - 1)))
def colophonref27_Best.j4 : Nat → List (S43) → Int → Int → List Int → List Int → Int → Int → Int → Bool → Option (List Int × Int × Bool)
  | 0, _, _, _, _, _, _, _, _, _ => none
  | k + 1, x0, x1, x7, x8, x9, x10, x11, x12, x87 => if x87 = true then (if x11 < (wrap64 (x7 - 1)) then (if 0 ≤ (wrap64 (x11 + 1)) then (if (wrap64 (x11 + 1)) < (x9.length : Int) then (colophonref27_Best.j5 k x0 x1 x7 x8 x9 x10 x11 (wrap64 (x12 + (rd x9 (wrap64 (x11 + 1)))))) else (none)) else (none)) else (colophonref27_Best.j5 k x0 x1 x7 x8 x9 x10 x11 x12)) else (if 0 ≤ x11 then (if x11 < (x0.length : Int) then ((colophonref27_forced.f ((rd_T43 x0 x11).f0) ((rd_T43 x0 x11).f1) ((rd_T43 x0 x11).f2) ((rd_T43 x0 x11).f3)).bind fun t194 => (if t194 = true then (colophonref27_Best.l0 k x0 x1 x7 x8 x9 (wrap64 (x10 - 1))) else (colophonref27_Best.l1 k x0 x1 x7 x8 x9 x10 (wrap64 (x11 + 1))))) else (none)) else (none))
def colophonref27_Best.j5 : Nat → List (S43) → Int → Int → List Int → List Int → Int → Int → Int → Option (List Int × Int × Bool)
  | 0, _, _, _, _, _, _, _, _ => none
  | k + 1, x0, x1, x7, x8, x9, x10, x11, x14 => if 0 ≤ (wrap64 (x10 + 1)) then (if (wrap64 (x10 + 1)) < (x8.length : Int) then (if (rd x8 (wrap64 (x10 + 1))) < 0 then (colophonref27_Best.j6 k x0 x1 x7 x8 x9 x10 x11 x14 true) else (if (wrap64 (x10 + 1)) < (x9.length : Int) then (colophonref27_Best.j6 k x0 x1 x7 x8 x9 x10 x11 x14 (decide (x14 < (rd x9 (wrap64 (x10 + 1)))))) else (none))) else (none)) else (none)
def colophonref27_Best.j6 : Nat → List (S43) → Int → Int → List Int → List Int → Int → Int → Int → Bool → Option (List Int × Int × Bool)
  | 0, _, _, _, _, _, _, _, _, _ => none
  | k + 1, x0, x1, x7, x8, x9, x10, x11, x14, x114 => if x114 = true then (if 0 ≤ (wrap64 (x10 + 1)) then (if (wrap64 (x10 + 1)) < (x8.length : Int) then ((some (x8.set ((wrap64 (x10 + 1)) : Int).toNat x11 : List Int)).bind fun y187 => (if (wrap64 (x10 + 1)) < (x9.length : Int) then ((some (x9.set ((wrap64 (x10 + 1)) : Int).toNat x14 : List Int)).bind fun y188 => (if 0 ≤ x11 then (if x11 < (x0.length : Int) then ((colophonref27_forced.f ((rd_T43 x0 x11).f0) ((rd_T43 x0 x11).f1) ((rd_T43 x0 x11).f2) ((rd_T43 x0 x11).f3)).bind fun t190 => (if t190 = true then (colophonref27_Best.l0 k x0 x1 x7 y187 y188 (wrap64 (x10 - 1))) else (colophonref27_Best.l1 k x0 x1 x7 y187 y188 x10 (wrap64 (x11 + 1))))) else (none)) else (none))) else (none))) else (none)) else (none)) else (if 0 ≤ x11 then (if x11 < (x0.length : Int) then ((colophonref27_forced.f ((rd_T43 x0 x11).f0) ((rd_T43 x0 x11).f1) ((rd_T43 x0 x11).f2) ((rd_T43 x0 x11).f3)).bind fun t192 => (if t192 = true then (colophonref27_Best.l0 k x0 x1 x7 x8 x9 (wrap64 (x10 - 1))) else (colophonref27_Best.l1 k x0 x1 x7 x8 x9 x10 (wrap64 (x11 + 1))))) else (none)) else (none))
def colophonref27_Best.l2 : Nat → Int → List Int → List Int → List Int → Int → Option (List Int × Int × Bool)
  | 0, _, _, _, _, _ => none
  | k + 1, x7, x8, x9, x15, x16 => if x16 = (wrap64 (x7 - 1)) then (if 0 < (x9.length : Int) then (some (x15, rd x9 0, true)) else (none)) else (if 0 ≤ (wrap64 (x16 + 1)) then (if (wrap64 (x16 + 1)) < (x8.length : Int) then (if x15.length < 17592186044416 then (colophonref27_Best.l2 k x7 x8 x9 (x15 ++ [rd x8 (wrap64 (x16 + 1))]) (rd x8 (wrap64 (x16 + 1)))) else (none)) else (none)) else (none))
end
def colophonref27_Best.f (k : Nat) (l0 : List (S43)) (a1 : Int) : Option (List Int × Int × Bool) := (colophonref27_Good.f k l0).bind fun t171 => (if t171 = true then (if a1 < 1 then (colophonref27_Best.j0 k l0 a1 true) else (colophonref27_Best.j0 k l0 a1 (decide (a1 > 1073741824)))) else (colophonref27_Best.j0 k l0 a1 true))
theorem colophonref27_Best.mono_l : ∀ k, (∀ y0 y1 y2, LeO (colophonref27_Best.j0 k y0 y1 y2) (colophonref27_Best.j0 (k + 1) y0 y1 y2)) ∧ (∀ y0 y1 y2 y3 y4 y5, LeO (colophonref27_Best.l0 k y0 y1 y2 y3 y4 y5) (colophonref27_Best.l0 (k + 1) y0 y1 y2 y3 y4 y5)) ∧ (∀ y0 y1 y2 y3 y4 y5 y6, LeO (colophonref27_Best.j2 k y0 y1 y2 y3 y4 y5 y6) (colophonref27_Best.j2 (k + 1) y0 y1 y2 y3 y4 y5 y6)) ∧ (∀ y0 y1 y2 y3 y4 y5 y6, LeO (colophonref27_Best.l1 k y0 y1 y2 y3 y4 y5 y6) (colophonref27_Best.l1 (k + 1) y0 y1 y2 y3 y4 y5 y6)) ∧ (∀ y0 y1 y2 y3 y4 y5 y6 y7 y8, LeO (colophonref27_Best.j4 k y0 y1 y2 y3 y4 y5 y6 y7 y8) (colophonref27_Best.j4 (k + 1) y0 y1 y2 y3 y4 y5 y6 y7 y8)) ∧ (∀ y0 y1 y2 y3 y4 y5 y6 y7, LeO (colophonref27_Best.j5 k y0 y1 y2 y3 y4 y5 y6 y7) (colophonref27_Best.j5 (k + 1) y0 y1 y2 y3 y4 y5 y6 y7)) ∧ (∀ y0 y1 y2 y3 y4 y5 y6 y7 y8, LeO (colophonref27_Best.j6 k y0 y1 y2 y3 y4 y5 y6 y7 y8) (colophonref27_Best.j6 (k + 1) y0 y1 y2 y3 y4 y5 y6 y7 y8)) ∧ (∀ y0 y1 y2 y3 y4, LeO (colophonref27_Best.l2 k y0 y1 y2 y3 y4) (colophonref27_Best.l2 (k + 1) y0 y1 y2 y3 y4))
  | 0 => ⟨fun _ _ _ r h => by simp [colophonref27_Best.j0] at h, fun _ _ _ _ _ _ r h => by simp [colophonref27_Best.l0] at h, fun _ _ _ _ _ _ _ r h => by simp [colophonref27_Best.j2] at h, fun _ _ _ _ _ _ _ r h => by simp [colophonref27_Best.l1] at h, fun _ _ _ _ _ _ _ _ _ r h => by simp [colophonref27_Best.j4] at h, fun _ _ _ _ _ _ _ _ r h => by simp [colophonref27_Best.j5] at h, fun _ _ _ _ _ _ _ _ _ r h => by simp [colophonref27_Best.j6] at h, fun _ _ _ _ _ r h => by simp [colophonref27_Best.l2] at h⟩
  | k + 1 => by
    obtain ⟨ih0, ih1, ih2, ih3, ih4, ih5, ih6, ih7⟩ := colophonref27_Best.mono_l k
    refine ⟨?_, ?_, ?_, ?_, ?_, ?_, ?_, ?_⟩
    · intro y0 y1 y2
      unfold colophonref27_Best.j0
      repeat' first
      | (with_reducible exact ih0 _ _ _)
      | (with_reducible exact ih1 _ _ _ _ _ _)
      | (with_reducible exact ih2 _ _ _ _ _ _ _)
      | (with_reducible exact ih3 _ _ _ _ _ _ _)
      | (with_reducible exact ih4 _ _ _ _ _ _ _ _ _)
      | (with_reducible exact ih5 _ _ _ _ _ _ _ _)
      | (with_reducible exact ih6 _ _ _ _ _ _ _ _ _)
      | (with_reducible exact ih7 _ _ _ _ _)
      | (with_reducible exact colophonref27_Good.mono _ _)
      | (with_reducible exact colophonref27_cost.mono _ _ _ _ _)
      | (with_reducible exact LeO.refl _)
      | (with_reducible exact LeO.none _)
      | (with_reducible refine LeO.ite ?_ ?_)
      | (with_reducible refine LeO.bind ?_ (fun _ => ?_))
      | exact ih0 _ _ _
      | exact ih1 _ _ _ _ _ _
      | exact ih2 _ _ _ _ _ _ _
      | exact ih3 _ _ _ _ _ _ _
      | exact ih4 _ _ _ _ _ _ _ _ _
      | exact ih5 _ _ _ _ _ _ _ _
      | exact ih6 _ _ _ _ _ _ _ _ _
      | exact ih7 _ _ _ _ _
      | exact colophonref27_Good.mono _ _
      | exact colophonref27_cost.mono _ _ _ _ _
      | exact LeO.none _
      | refine LeO.ite ?_ ?_
      | refine LeO.bind ?_ (fun _ => ?_)
    · intro y0 y1 y2 y3 y4 y5
      unfold colophonref27_Best.l0
      repeat' first
      | (with_reducible exact ih0 _ _ _)
      | (with_reducible exact ih1 _ _ _ _ _ _)
      | (with_reducible exact ih2 _ _ _ _ _ _ _)
      | (with_reducible exact ih3 _ _ _ _ _ _ _)
      | (with_reducible exact ih4 _ _ _ _ _ _ _ _ _)
      | (with_reducible exact ih5 _ _ _ _ _ _ _ _)
      | (with_reducible exact ih6 _ _ _ _ _ _ _ _ _)
      | (with_reducible exact ih7 _ _ _ _ _)
      | (with_reducible exact colophonref27_Good.mono _ _)
      | (with_reducible exact colophonref27_cost.mono _ _ _ _ _)
      | (with_reducible exact LeO.refl _)
      | (with_reducible exact LeO.none _)
      | (with_reducible refine LeO.ite ?_ ?_)
      | (with_reducible refine LeO.bind ?_ (fun _ => ?_))
      | exact ih0 _ _ _
      | exact ih1 _ _ _ _ _ _
      | exact ih2 _ _ _ _ _ _ _
      | exact ih3 _ _ _ _ _ _ _
      | exact ih4 _ _ _ _ _ _ _ _ _
      | exact ih5 _ _ _ _ _ _ _ _
      | exact ih6 _ _ _ _ _ _ _ _ _
      | exact ih7 _ _ _ _ _
      | exact colophonref27_Good.mono _ _
      | exact colophonref27_cost.mono _ _ _ _ _
      | exact LeO.none _
      | refine LeO.ite ?_ ?_
      | refine LeO.bind ?_ (fun _ => ?_)
    · intro y0 y1 y2 y3 y4 y5 y6
      unfold colophonref27_Best.j2
      repeat' first
      | (with_reducible exact ih0 _ _ _)
      | (with_reducible exact ih1 _ _ _ _ _ _)
      | (with_reducible exact ih2 _ _ _ _ _ _ _)
      | (with_reducible exact ih3 _ _ _ _ _ _ _)
      | (with_reducible exact ih4 _ _ _ _ _ _ _ _ _)
      | (with_reducible exact ih5 _ _ _ _ _ _ _ _)
      | (with_reducible exact ih6 _ _ _ _ _ _ _ _ _)
      | (with_reducible exact ih7 _ _ _ _ _)
      | (with_reducible exact colophonref27_Good.mono _ _)
      | (with_reducible exact colophonref27_cost.mono _ _ _ _ _)
      | (with_reducible exact LeO.refl _)
      | (with_reducible exact LeO.none _)
      | (with_reducible refine LeO.ite ?_ ?_)
      | (with_reducible refine LeO.bind ?_ (fun _ => ?_))
      | exact ih0 _ _ _
      | exact ih1 _ _ _ _ _ _
      | exact ih2 _ _ _ _ _ _ _
      | exact ih3 _ _ _ _ _ _ _
      | exact ih4 _ _ _ _ _ _ _ _ _
      | exact ih5 _ _ _ _ _ _ _ _
      | exact ih6 _ _ _ _ _ _ _ _ _
      | exact ih7 _ _ _ _ _
      | exact colophonref27_Good.mono _ _
      | exact colophonref27_cost.mono _ _ _ _ _
      | exact LeO.none _
      | refine LeO.ite ?_ ?_
      | refine LeO.bind ?_ (fun _ => ?_)
    · intro y0 y1 y2 y3 y4 y5 y6
      unfold colophonref27_Best.l1
      repeat' first
      | (with_reducible exact ih0 _ _ _)
      | (with_reducible exact ih1 _ _ _ _ _ _)
      | (with_reducible exact ih2 _ _ _ _ _ _ _)
      | (with_reducible exact ih3 _ _ _ _ _ _ _)
      | (with_reducible exact ih4 _ _ _ _ _ _ _ _ _)
      | (with_reducible exact ih5 _ _ _ _ _ _ _ _)
      | (with_reducible exact ih6 _ _ _ _ _ _ _ _ _)
      | (with_reducible exact ih7 _ _ _ _ _)
      | (with_reducible exact colophonref27_Good.mono _ _)
      | (with_reducible exact colophonref27_cost.mono _ _ _ _ _)
      | (with_reducible exact LeO.refl _)
      | (with_reducible exact LeO.none _)
      | (with_reducible refine LeO.ite ?_ ?_)
      | (with_reducible refine LeO.bind ?_ (fun _ => ?_))
      | exact ih0 _ _ _
      | exact ih1 _ _ _ _ _ _
      | exact ih2 _ _ _ _ _ _ _
      | exact ih3 _ _ _ _ _ _ _
      | exact ih4 _ _ _ _ _ _ _ _ _
      | exact ih5 _ _ _ _ _ _ _ _
      | exact ih6 _ _ _ _ _ _ _ _ _
      | exact ih7 _ _ _ _ _
      | exact colophonref27_Good.mono _ _
      | exact colophonref27_cost.mono _ _ _ _ _
      | exact LeO.none _
      | refine LeO.ite ?_ ?_
      | refine LeO.bind ?_ (fun _ => ?_)
    · intro y0 y1 y2 y3 y4 y5 y6 y7 y8
      unfold colophonref27_Best.j4
      repeat' first
      | (with_reducible exact ih0 _ _ _)
      | (with_reducible exact ih1 _ _ _ _ _ _)
      | (with_reducible exact ih2 _ _ _ _ _ _ _)
      | (with_reducible exact ih3 _ _ _ _ _ _ _)
      | (with_reducible exact ih4 _ _ _ _ _ _ _ _ _)
      | (with_reducible exact ih5 _ _ _ _ _ _ _ _)
      | (with_reducible exact ih6 _ _ _ _ _ _ _ _ _)
      | (with_reducible exact ih7 _ _ _ _ _)
      | (with_reducible exact colophonref27_Good.mono _ _)
      | (with_reducible exact colophonref27_cost.mono _ _ _ _ _)
      | (with_reducible exact LeO.refl _)
      | (with_reducible exact LeO.none _)
      | (with_reducible refine LeO.ite ?_ ?_)
      | (with_reducible refine LeO.bind ?_ (fun _ => ?_))
      | exact ih0 _ _ _
      | exact ih1 _ _ _ _ _ _
      | exact ih2 _ _ _ _ _ _ _
      | exact ih3 _ _ _ _ _ _ _
      | exact ih4 _ _ _ _ _ _ _ _ _
      | exact ih5 _ _ _ _ _ _ _ _
      | exact ih6 _ _ _ _ _ _ _ _ _
      | exact ih7 _ _ _ _ _
      | exact colophonref27_Good.mono _ _
      | exact colophonref27_cost.mono _ _ _ _ _
      | exact LeO.none _
      | refine LeO.ite ?_ ?_
      | refine LeO.bind ?_ (fun _ => ?_)
    · intro y0 y1 y2 y3 y4 y5 y6 y7
      unfold colophonref27_Best.j5
      repeat' first
      | (with_reducible exact ih0 _ _ _)
      | (with_reducible exact ih1 _ _ _ _ _ _)
      | (with_reducible exact ih2 _ _ _ _ _ _ _)
      | (with_reducible exact ih3 _ _ _ _ _ _ _)
      | (with_reducible exact ih4 _ _ _ _ _ _ _ _ _)
      | (with_reducible exact ih5 _ _ _ _ _ _ _ _)
      | (with_reducible exact ih6 _ _ _ _ _ _ _ _ _)
      | (with_reducible exact ih7 _ _ _ _ _)
      | (with_reducible exact colophonref27_Good.mono _ _)
      | (with_reducible exact colophonref27_cost.mono _ _ _ _ _)
      | (with_reducible exact LeO.refl _)
      | (with_reducible exact LeO.none _)
      | (with_reducible refine LeO.ite ?_ ?_)
      | (with_reducible refine LeO.bind ?_ (fun _ => ?_))
      | exact ih0 _ _ _
      | exact ih1 _ _ _ _ _ _
      | exact ih2 _ _ _ _ _ _ _
      | exact ih3 _ _ _ _ _ _ _
      | exact ih4 _ _ _ _ _ _ _ _ _
      | exact ih5 _ _ _ _ _ _ _ _
      | exact ih6 _ _ _ _ _ _ _ _ _
      | exact ih7 _ _ _ _ _
      | exact colophonref27_Good.mono _ _
      | exact colophonref27_cost.mono _ _ _ _ _
      | exact LeO.none _
      | refine LeO.ite ?_ ?_
      | refine LeO.bind ?_ (fun _ => ?_)
    · intro y0 y1 y2 y3 y4 y5 y6 y7 y8
      unfold colophonref27_Best.j6
      repeat' first
      | (with_reducible exact ih0 _ _ _)
      | (with_reducible exact ih1 _ _ _ _ _ _)
      | (with_reducible exact ih2 _ _ _ _ _ _ _)
      | (with_reducible exact ih3 _ _ _ _ _ _ _)
      | (with_reducible exact ih4 _ _ _ _ _ _ _ _ _)
      | (with_reducible exact ih5 _ _ _ _ _ _ _ _)
      | (with_reducible exact ih6 _ _ _ _ _ _ _ _ _)
      | (with_reducible exact ih7 _ _ _ _ _)
      | (with_reducible exact colophonref27_Good.mono _ _)
      | (with_reducible exact colophonref27_cost.mono _ _ _ _ _)
      | (with_reducible exact LeO.refl _)
      | (with_reducible exact LeO.none _)
      | (with_reducible refine LeO.ite ?_ ?_)
      | (with_reducible refine LeO.bind ?_ (fun _ => ?_))
      | exact ih0 _ _ _
      | exact ih1 _ _ _ _ _ _
      | exact ih2 _ _ _ _ _ _ _
      | exact ih3 _ _ _ _ _ _ _
      | exact ih4 _ _ _ _ _ _ _ _ _
      | exact ih5 _ _ _ _ _ _ _ _
      | exact ih6 _ _ _ _ _ _ _ _ _
      | exact ih7 _ _ _ _ _
      | exact colophonref27_Good.mono _ _
      | exact colophonref27_cost.mono _ _ _ _ _
      | exact LeO.none _
      | refine LeO.ite ?_ ?_
      | refine LeO.bind ?_ (fun _ => ?_)
    · intro y0 y1 y2 y3 y4
      unfold colophonref27_Best.l2
      repeat' first
      | (with_reducible exact ih0 _ _ _)
      | (with_reducible exact ih1 _ _ _ _ _ _)
      | (with_reducible exact ih2 _ _ _ _ _ _ _)
      | (with_reducible exact ih3 _ _ _ _ _ _ _)
      | (with_reducible exact ih4 _ _ _ _ _ _ _ _ _)
      | (with_reducible exact ih5 _ _ _ _ _ _ _ _)
      | (with_reducible exact ih6 _ _ _ _ _ _ _ _ _)
      | (with_reducible exact ih7 _ _ _ _ _)
      | (with_reducible exact colophonref27_Good.mono _ _)
      | (with_reducible exact colophonref27_cost.mono _ _ _ _ _)
      | (with_reducible exact LeO.refl _)
      | (with_reducible exact LeO.none _)
      | (with_reducible refine LeO.ite ?_ ?_)
      | (with_reducible refine LeO.bind ?_ (fun _ => ?_))
      | exact ih0 _ _ _
      | exact ih1 _ _ _ _ _ _
      | exact ih2 _ _ _ _ _ _ _
      | exact ih3 _ _ _ _ _ _ _
      | exact ih4 _ _ _ _ _ _ _ _ _
      | exact ih5 _ _ _ _ _ _ _ _
      | exact ih6 _ _ _ _ _ _ _ _ _
      | exact ih7 _ _ _ _ _
      | exact colophonref27_Good.mono _ _
      | exact colophonref27_cost.mono _ _ _ _ _
      | exact LeO.none _
      | refine LeO.ite ?_ ?_
      | refine LeO.bind ?_ (fun _ => ?_)
theorem colophonref27_Best.mono : ∀ a0 a1 k, LeO (colophonref27_Best.f k a0 a1) (colophonref27_Best.f (k + 1) a0 a1) := by
  intro a0 a1 k
  obtain ⟨ih0, ih1, ih2, ih3, ih4, ih5, ih6, ih7⟩ := colophonref27_Best.mono_l k
  unfold colophonref27_Best.f
  repeat' first
      | (with_reducible exact ih0 _ _ _)
      | (with_reducible exact ih1 _ _ _ _ _ _)
      | (with_reducible exact ih2 _ _ _ _ _ _ _)
      | (with_reducible exact ih3 _ _ _ _ _ _ _)
      | (with_reducible exact ih4 _ _ _ _ _ _ _ _ _)
      | (with_reducible exact ih5 _ _ _ _ _ _ _ _)
      | (with_reducible exact ih6 _ _ _ _ _ _ _ _ _)
      | (with_reducible exact ih7 _ _ _ _ _)
      | (with_reducible exact colophonref27_Good.mono _ _)
      | (with_reducible exact colophonref27_cost.mono _ _ _ _ _)
      | (with_reducible exact LeO.refl _)
      | (with_reducible exact LeO.none _)
      | (with_reducible refine LeO.ite ?_ ?_)
      | (with_reducible refine LeO.bind ?_ (fun _ => ?_))
      | exact ih0 _ _ _
      | exact ih1 _ _ _ _ _ _
      | exact ih2 _ _ _ _ _ _ _
      | exact ih3 _ _ _ _ _ _ _
      | exact ih4 _ _ _ _ _ _ _ _ _
      | exact ih5 _ _ _ _ _ _ _ _
      | exact ih6 _ _ _ _ _ _ _ _ _
      | exact ih7 _ _ _ _ _
      | exact colophonref27_Good.mono _ _
      | exact colophonref27_cost.mono _ _ _ _ _
      | exact LeO.none _
      | refine LeO.ite ?_ ?_
      | refine LeO.bind ?_ (fun _ => ?_)
def colophonref27_Best.T4 : Bool × List (List Nat × List Nat) := (true, [([], []), ([0], [0]), ([1, 1], [1]), ([], []), ([3], [3]), ([4, 4], [4]), ([2, 0, 1, 2], [2]), ([5, 6, 0, 1, 2, 3, 4, 5, 6], [5])])
def colophonref27_Best.B4 : List Nat := [0, 1, 3, 0, 8, 24, 7, 127]
theorem colophonref27_Best.tab4 : rtab .any (opsOf Try.f16 4) = colophonref27_Best.T4 := by kernel_rfl
theorem colophonref27_Best.bits4 : waitsOk colophonref27_Best.T4.2 colophonref27_Best.B4 = true := by kernel_rfl
set_option maxHeartbeats 8000000 in
set_option maxRecDepth 100000 in
theorem colophonref27_Best.calls (k : Nat) (A0 : Option Addr) (c0 : Nat) (l0 : List (S43)) (a1 : Int) (r1 : List Int) (r2 : Int) (r3 : Bool) (w : World) (hr0 : Kd.C k43 w A0 l0.length l0) (hc0 : l0.length ≤ c0) (h : colophonref27_Best.f k l0 a1 = some (r1, r2, r3)) :
    Calls Try.prog 16 #[.slice A0 l0.length c0, .int .i64 a1] w fun e w' => ∃ v0_ : Value, e = .returned (.tuple #[v0_, .int .i64 r2, .bool r3]) ∧ Kd.R (Kd.int .i64) 3 w' w.heap.size (fun _ => True) v0_ r1 ∧ Below w.heap.size w w' := by
  have hu43 := Try.underlying43
  have HR0 := Aside0.mk hr0
  have HC0 := Aside0.mk hc0
  clear hr0 hc0
  have HB := Aside0.mk (Below.refl w.heap.size w)
  have H : ((colophonref27_Good.f k l0).bind fun t171 => (if t171 = true then (if a1 < 1 then (colophonref27_Best.j0 k l0 a1 true) else (colophonref27_Best.j0 k l0 a1 (decide (a1 > 1073741824)))) else (colophonref27_Best.j0 k l0 a1 true))) = some (r1, r2, r3) := h
  clear h
  have HC3 := Aside0.mk H
  clear H
  go_enter Try.func16, Try.ntmps16
  go_upto_region 1 with (fail)
  go_cut [27] (fun v27 wc => ∃ (kq : Nat) (x27_2 : Bool), v27 = .bool x27_2 ∧ Aside0 (colophonref27_Best.j0 kq l0 a1 x27_2 = some (r1, r2, r3)) ∧ Aside0 (kq ≤ k) ∧ Aside0 (Below w.heap.size w wc))
  case first =>
    have H := HC3.out
    clear HC3
    replace H := Option.bind_eq_some_iff.mp H
    obtain ⟨t171, A40, H⟩ := H
    replace H : (if t171 = true then (if a1 < 1 then (colophonref27_Best.j0 k l0 a1 true) else (colophonref27_Best.j0 k l0 a1 (decide (a1 > 1073741824)))) else (colophonref27_Best.j0 k l0 a1 true)) = some (r1, r2, r3) := H
    have A4 := Aside0.mk A40
    clear A40
    by_cases c5 : t171 = true
    · subst c5
      have H1 : (if a1 < 1 then (colophonref27_Best.j0 k l0 a1 true) else (colophonref27_Best.j0 k l0 a1 (decide (a1 > 1073741824)))) = some (r1, r2, r3) := by rw [if_pos rfl] at H; exact H
      clear H
      have H := H1
      clear H1
      by_cases c6 : a1 < 1
      · rw [if_pos c6] at H
        have c6b0 : decide (a1 < 1) = true := decide_eq_true c6
        clear c6
        (first | rw [c6b0] | (simp only [i64_w, i32_w]; rw [c6b0]) | skip)
        have H' := Aside0.mk H
        clear H
        go_wp2_with (first | ((with_reducible refine gate_callee (f := 19) rfl ?_); refine goesL_ (some 18) rfl rfl Try.func19 (by kernel_rfl) rfl #[.slice A0 l0.length c0] rfl (by (try simp only [List.map_toArray, List.map_cons, List.map_nil]); first | done | rfl | (simp only [List.length_drop, List.length_take]; rfl)) ?_; (with_reducible refine (colophonref27_Good.calls k _ _ l0 true _ ?side1 ?side2 A4.out).mono ?_); (case side1 => repeat (first | exact (Kd.C_below HR0.out HB.out) | (with_reducible refine Kd.C_alloc ?_ _) | (with_reducible refine Kd.C_drewN ?_ _) | (with_reducible refine Kd.C_drew ?_))); (case side2 => exact HC0.out); rintro e w7 ⟨rfl, hb⟩; refine ⟨_, rfl, ?_⟩; have n0_ := Aside0.mk (below_step (by repeat (first | (with_reducible first | exact HB.out | apply below_alloc | apply pw_below_drewN | apply below_drew1) | exact HB.out)) hb); clear HB; have HB := n0_; clear n0_; (try clear hb); (try clear hb2); (try clear hk); (try clear hi)))
        go_meet
        case rel => exact ⟨_, (true), (by first | rfl | (simp; done) | (simp [*]; done)), H', ⟨by first | omega | exact Nat.le_refl _⟩, ⟨by repeat (first | (with_reducible first | exact HB.out | apply below_alloc | apply pw_below_drewN | apply below_drew1) | exact HB.out)⟩⟩
      · rw [if_neg c6] at H
        have c6b0 : decide (a1 < 1) = false := decide_eq_false c6
        clear c6
        (first | rw [c6b0] | (simp only [i64_w, i32_w]; rw [c6b0]) | skip)
        have H' := Aside0.mk H
        clear H
        go_wp2_with (first | ((with_reducible refine gate_callee (f := 19) rfl ?_); refine goesL_ (some 18) rfl rfl Try.func19 (by kernel_rfl) rfl #[.slice A0 l0.length c0] rfl (by (try simp only [List.map_toArray, List.map_cons, List.map_nil]); first | done | rfl | (simp only [List.length_drop, List.length_take]; rfl)) ?_; (with_reducible refine (colophonref27_Good.calls k _ _ l0 true _ ?side1 ?side2 A4.out).mono ?_); (case side1 => repeat (first | exact (Kd.C_below HR0.out HB.out) | (with_reducible refine Kd.C_alloc ?_ _) | (with_reducible refine Kd.C_drewN ?_ _) | (with_reducible refine Kd.C_drew ?_))); (case side2 => exact HC0.out); rintro e w8 ⟨rfl, hb⟩; refine ⟨_, rfl, ?_⟩; have n0_ := Aside0.mk (below_step (by repeat (first | (with_reducible first | exact HB.out | apply below_alloc | apply pw_below_drewN | apply below_drew1) | exact HB.out)) hb); clear HB; have HB := n0_; clear n0_; (try clear hb); (try clear hb2); (try clear hk); (try clear hi)))
        go_meet
        case rel => exact ⟨_, (decide (a1 > 1073741824)), (by first | rfl | (simp; done) | (simp [*]; done)), H', ⟨by first | omega | exact Nat.le_refl _⟩, ⟨by repeat (first | (with_reducible first | exact HB.out | apply below_alloc | apply pw_below_drewN | apply below_drew1) | exact HB.out)⟩⟩
    · replace c5 := Bool.eq_false_iff.mpr c5
      subst c5
      have H1 : (colophonref27_Best.j0 k l0 a1 true) = some (r1, r2, r3) := by rw [if_neg (show ¬ (false = true) by decide)] at H; exact H
      clear H
      have H := H1
      clear H1
      have H' := Aside0.mk H
      clear H
      go_wp2_with (first | ((with_reducible refine gate_callee (f := 19) rfl ?_); refine goesL_ (some 18) rfl rfl Try.func19 (by kernel_rfl) rfl #[.slice A0 l0.length c0] rfl (by (try simp only [List.map_toArray, List.map_cons, List.map_nil]); first | done | rfl | (simp only [List.length_drop, List.length_take]; rfl)) ?_; (with_reducible refine (colophonref27_Good.calls k _ _ l0 false _ ?side1 ?side2 A4.out).mono ?_); (case side1 => repeat (first | exact (Kd.C_below HR0.out HB.out) | (with_reducible refine Kd.C_alloc ?_ _) | (with_reducible refine Kd.C_drewN ?_ _) | (with_reducible refine Kd.C_drew ?_))); (case side2 => exact HC0.out); rintro e w9 ⟨rfl, hb⟩; refine ⟨_, rfl, ?_⟩; have n0_ := Aside0.mk (below_step (by repeat (first | (with_reducible first | exact HB.out | apply below_alloc | apply pw_below_drewN | apply below_drew1) | exact HB.out)) hb); clear HB; have HB := n0_; clear n0_; (try clear hb); (try clear hb2); (try clear hk); (try clear hi)))
      go_meet
      case rel => exact ⟨_, (true), (by first | rfl | (simp; done) | (simp [*]; done)), H', ⟨by first | omega | exact Nat.le_refl _⟩, ⟨by repeat (first | (with_reducible first | exact HB.out | apply below_alloc | apply pw_below_drewN | apply below_drew1) | exact HB.out)⟩⟩
  case rest =>
    clear HC3
    try clear c1
    try clear p2
    try clear c5
    try clear c6
    try clear c6b0
    obtain ⟨kq, x27_2, rfl, HA, HJ2, HB⟩ := hcut
    cases kq with
    | zero => exact absurd HA.out (by simp [colophonref27_Best.j0])
    | succ kj2 =>
      have H := HA.out
      clear HA
      simp only [colophonref27_Best.j0] at H
      by_cases c10 : x27_2 = true
      · subst c10
        have H1 : (some (([] : List Int), 0, false)) = some (r1, r2, r3) := by rw [if_pos rfl] at H; exact H
        clear H
        have H := H1
        clear H1
        simp only [Option.some.injEq, Prod.mk.injEq] at H
        obtain ⟨rfl, rfl, rfl⟩ := H
        go_wp2
        go_ret3
        exact ⟨_, by first | rfl | (simp [errW_none, errW_some] <;> rfl) | (simp [*, errW_none, errW_some] <;> rfl), by first | exact Kd.R_nil _ _ _ _ _ | exact Kd.N_nil _ _ _ _ _ | exact Kd.V_nil _ _ _ _ _ | exact Kd.Q_nil _ _ _ _ _ | exact Kd.S_nil _ _ _ _ _, by repeat (first | (with_reducible first | exact HB.out | apply below_alloc | apply pw_below_drewN | apply below_drew1) | exact HB.out)⟩
      · replace c10 := Bool.eq_false_iff.mpr c10
        subst c10
        have H1 : (if 0 ≤ (wrap64 ((l0.length : Int) + 1)) then (if (wrap64 ((l0.length : Int) + 1) : Int).toNat ≤ 35184372088832 then (colophonref27_Best.l0 kj2 l0 a1 (l0.length : Int) (List.replicate (wrap64 ((l0.length : Int) + 1) : Int).toNat 0) (List.replicate (wrap64 ((l0.length : Int) + 1) : Int).toNat 0) (wrap64 ((l0.length : Int) - 2))) else (none)) else (none)) = some (r1, r2, r3) := by rw [if_neg (show ¬ (false = true) by decide)] at H; exact H
        clear H
        have H := H1
        clear H1
        obtain ⟨ji11, hji11⟩ : ∃ j_ : Int, (wrap64 ((l0.length : Int) + 1)) = j_ := ⟨_, rfl⟩
        replace H : (if 0 ≤ (ji11) then (if (ji11 : Int).toNat ≤ 35184372088832 then (colophonref27_Best.l0 kj2 l0 a1 (l0.length : Int) (List.replicate (ji11 : Int).toNat 0) (List.replicate (ji11 : Int).toNat 0) (wrap64 ((l0.length : Int) - 2))) else (none)) else (none)) = some (r1, r2, r3) := by first | (rw [hji11] at H; exact H) | (simp only [hji11] at H ⊢; exact H)
        have hji11w : (IntKind.i64.wrap ((l0.length : Int) + 1)) = ji11 := (i64_w _).trans hji11
        by_cases c12 : 0 ≤ (ji11)
        · rw [if_pos c12] at H
          have c12b0 := eq_true c12
          have c12b1 : decide (0 ≤ (ji11)) = true := decide_eq_true c12
          clear c12
          by_cases c13 : (ji11 : Int).toNat ≤ 35184372088832
          · rw [if_pos c13] at H
            have c13b0 := eq_true c13
            have c13b1 : decide ((ji11 : Int).toNat ≤ 35184372088832) = true := decide_eq_true c13
            clear c13
            obtain ⟨y172, hy172⟩ : ∃ y_ : List Int, y_ = (List.replicate (ji11 : Int).toNat 0) := ⟨_, rfl⟩
            replace H : (colophonref27_Best.l0 kj2 l0 a1 (l0.length : Int) y172 (List.replicate (ji11 : Int).toNat 0) (wrap64 ((l0.length : Int) - 2))) = some (r1, r2, r3) := by first | (rw [hy172]; with_reducible exact H) | (have H2_ := (Option.bind_some _ _).symm.trans H; rw [hy172]; with_reducible exact H2_) | (have H2_ := (Option.bind_some _ _).symm.trans H; with_reducible exact H2_) | with_reducible exact H | (rw [hy172]; exact H) | exact H
            have Ny172 := Aside0.mk hy172
            clear hy172
            obtain ⟨y175, hy175⟩ : ∃ y_ : List Int, y_ = (List.replicate (ji11 : Int).toNat 0) := ⟨_, rfl⟩
            replace H : (colophonref27_Best.l0 kj2 l0 a1 (l0.length : Int) y172 y175 (wrap64 ((l0.length : Int) - 2))) = some (r1, r2, r3) := by first | (rw [hy175]; with_reducible exact H) | (have H2_ := (Option.bind_some _ _).symm.trans H; rw [hy175]; with_reducible exact H2_) | (have H2_ := (Option.bind_some _ _).symm.trans H; with_reducible exact H2_) | with_reducible exact H | (rw [hy175]; exact H) | exact H
            have Ny175 := Aside0.mk hy175
            clear hy175
            have H' := Aside0.mk H
            clear H
            try go_wp2
            have n0_ := Aside0.mk (below_drew1 HB.out)
            clear HB
            have HB := n0_
            clear n0_
            refine start_ (n := 8) (S := fun w' => True) (ds := []) #[false, false, false, false, false, false, false, false] (by kernel_rfl) rfl rfl trivial (fun hHeld => ?_); refine with_tabW colophonref27_Best.tab4 colophonref27_Best.bits4 (fun HT_ HW_ => ?_)
            generalize wc.drew = w14 at HB hHeld ⊢
            refine pure_ (i := 0) (N := some 30) (v := ?_) (a' := ?_) #[true, false, false, false, false, false, false, false] rfl rfl (any_of HT_.out (by kernel_rfl)) (fun _ _ _ h => h) (Or.inl ⟨by rfl, ?_⟩) ?_ ?_
            rotate_left
            · intro w'
              go_simp
              with_reducible rfl
            rotate_left
            · simp only [Act.put, List.setIfInBounds_toArray, List.set_cons_zero, List.set_cons_succ, i64_w, i32_w]
              rfl
            refine pure_ (i := 1) (N := some 31) (v := ?_) (a' := ?_) #[true, true, false, false, false, false, false, false] rfl rfl (any_of HT_.out (by kernel_rfl)) (fun _ _ _ h => h) (Or.inl ⟨by rfl, ?_⟩) ?_ ?_
            rotate_left
            · intro w'
              go_simp
              with_reducible rfl
            rotate_left
            · simp only [Act.put, List.setIfInBounds_toArray, List.set_cons_zero, List.set_cons_succ, i64_w, i32_w]
              rfl
            refine pure_ (i := 3) (N := some 33) (v := ?_) (a' := ?_) #[true, true, false, true, false, false, false, false] rfl rfl (any_of HT_.out (by kernel_rfl)) (fun _ _ _ h => h) (Or.inl ⟨by rfl, ?_⟩) ?_ ?_
            rotate_left
            · intro w'
              go_simp
              with_reducible rfl
            rotate_left
            · simp only [Act.put, List.setIfInBounds_toArray, List.set_cons_zero, List.set_cons_succ, i64_w, i32_w]
              rfl
            refine pure_ (i := 4) (N := some 34) (v := ?_) (a' := ?_) #[true, true, false, true, true, false, false, false] rfl rfl (any_of HT_.out (by kernel_rfl)) (fun _ _ _ h => h) (Or.inl ⟨by rfl, ?_⟩) ?_ ?_
            rotate_left
            · intro w'
              go_simp
              with_reducible rfl
            rotate_left
            · simp only [Act.put, List.setIfInBounds_toArray, List.set_cons_zero, List.set_cons_succ, i64_w, i32_w]
              rfl
            refine join_ (σ := Value × Value) 1 #[true, true, true, true, true, true, true, false] (fun s_ => [(32, s_.1), (35, s_.2), (8, s_.1)]) (fun s_ w' => (Kd.R (Kd.int .i64) 3 w' w.heap.size (fun k_ => some k_ ≠ (s_.2 : Value).ownBlock) s_.1 y172) ∧ (Kd.R (Kd.int .i64) 3 w' w.heap.size (fun k_ => some k_ ≠ (s_.1 : Value).ownBlock) s_.2 y175) ∧ (Below w.heap.size w w')) ?_ ?_
            rotate_left
            · intro hCont
              refine two_ (i := 2) (j := 5) (Ni := some 32) (Nj := some 35) #[true, true, true, true, true, false, false, false] #[true, true, false, true, true, true, false, false] rfl rfl rfl rfl (two_of HT_.out (by kernel_rfl)) (by decide) (by decide) (fun K hK => ?_) (fun K hK => ?_)
              · skip
                refine Kd.R_make_step (Kd.int .i64) _ 3 (by rfl) (N := 32) rfl 26 _ _ rfl ji11 rfl rfl Try.underlying26 (.int .i64 0) 8 info3 rfl (by decide) (by omega) 0 (ok := fun _ => True) (okp := fun _ => True) rfl (fun _ hk => hk) trivial (of_decide_eq_true (by first | (with_reducible assumption) | assumption)) (Nat.le_trans (Nat.mul_le_mul_right _ (of_decide_eq_true (by first | (with_reducible assumption) | assumption) : ji11.toNat ≤ 35184372088832)) (by omega)) (Below.refl _ _) (Nat.le_refl _) ?_
                intro v173 w15 ho16 hb hg_ hnew_
                clear hg_ hnew_
                (first | rw [← Ny172.out] at ho16 | (simp only [Int.reduceToNat] at ho16; rw [← Ny172.out] at ho16))
                have n0_ := Aside0.mk (Kd.R_lower ho16 (below_size (by repeat (first | (with_reducible first | exact HB.out | apply below_alloc | apply pw_below_drewN | apply below_drew1) | exact HB.out))))
                have n1_ := Aside0.mk (below_step (by repeat (first | (with_reducible first | exact HB.out | apply below_alloc | apply pw_below_drewN | apply below_drew1) | exact HB.out)) hb)
                clear HB
                have HO174 := n0_
                have HB := n1_
                clear n0_ n1_
                clear hb ho16
                refine hK.out _ _ trivial (fun hHeld => ?_)
                clear hK K
                refine norm_ (a' := ?_) ?_ ?_
                rotate_left
                · show Act.put _ (some 32) _ = _
                  simp only [Act.put, List.setIfInBounds_toArray, List.set_cons_zero, List.set_cons_succ, i64_w, i32_w]
                  rfl
                refine pure_ (i := 6) (N := some 8) (v := ?_) (a' := ?_) #[true, true, true, true, true, false, true, false] rfl rfl (any_of HT_.out (by kernel_rfl)) (fun _ _ _ h => h) (Or.inl ⟨by rfl, ?_⟩) ?_ ?_
                rotate_left
                · intro w'
                  go_simp
                  with_reducible rfl
                rotate_left
                · simp only [Act.put, List.setIfInBounds_toArray, List.set_cons_zero, List.set_cons_succ, i64_w, i32_w]
                  rfl
                refine one_ (i := 5) (N := some 35) #[true, true, true, true, true, true, true, false] rfl rfl (one_of HT_.out (by kernel_rfl)) (by decide) (fun K hK => ?_)
                refine Kd.R_make_step (Kd.int .i64) _ 3 (by rfl) (N := 35) rfl 26 _ _ rfl ji11 rfl rfl Try.underlying26 (.int .i64 0) 8 info3 rfl (by decide) (by omega) 0 (ok := fun _ => True) (okp := fun _ => True) rfl (fun _ hk => hk) trivial (of_decide_eq_true (by first | (with_reducible assumption) | assumption)) (Nat.le_trans (Nat.mul_le_mul_right _ (of_decide_eq_true (by first | (with_reducible assumption) | assumption) : ji11.toNat ≤ 35184372088832)) (by omega)) (Below.refl _ _) (Nat.le_refl _) ?_
                intro v176 w17 ho18 hb hg_ hnew_
                clear hg_ hnew_
                (first | rw [← Ny175.out] at ho18 | (simp only [Int.reduceToNat] at ho18; rw [← Ny175.out] at ho18))
                have n0_ := Aside0.mk (Kd.R_elder' (by (with_reducible repeat (first | apply Kd.R_alloc | apply Kd.R_drewN | apply Kd.R_drew)); exact HO174.out) (Kd.R_base ho18) hb)
                have n1_ := Aside0.mk (Kd.R_lower (Kd.R_new' ho18 (Kd.R_lt (by (with_reducible repeat (first | apply Kd.R_alloc | apply Kd.R_drewN | apply Kd.R_drew)); exact HO174.out))) (below_size (by repeat (first | (with_reducible first | exact HB.out | apply below_alloc | apply pw_below_drewN | apply below_drew1) | exact HB.out))))
                have n2_ := Aside0.mk (below_step (by repeat (first | (with_reducible first | exact HB.out | apply below_alloc | apply pw_below_drewN | apply below_drew1) | exact HB.out)) hb)
                clear HO174
                clear HB
                have HO174 := n0_
                have HO177 := n1_
                have HB := n2_
                clear n0_ n1_ n2_
                clear hb ho18
                refine hK.out _ _ trivial (fun hHeld => ?_)
                clear hK K
                refine norm_ (a' := ?_) ?_ ?_
                rotate_left
                · show Act.put _ (some 35) _ = _
                  simp only [Act.put, List.setIfInBounds_toArray, List.set_cons_zero, List.set_cons_succ, i64_w, i32_w]
                  rfl
                exact norm_ (by simp only [putAll, Act.put, List.setIfInBounds_toArray, List.set_cons_zero, List.set_cons_succ]) (hCont (v173, v176) _ ⟨(by (with_reducible repeat (first | apply Kd.R_alloc | apply Kd.R_drewN | apply Kd.R_drew)); exact Kd.R_mono HO174.out (fun _ hk => hk.2)), (by (with_reducible repeat (first | apply Kd.R_alloc | apply Kd.R_drewN | apply Kd.R_drew)); exact Kd.R_mono HO177.out (fun _ hk => hk.2)), (by repeat (first | (with_reducible first | exact HB.out | apply below_alloc | apply pw_below_drewN | apply below_drew1) | exact HB.out))⟩)
              · skip
                refine Kd.R_make_step (Kd.int .i64) _ 3 (by rfl) (N := 35) rfl 26 _ _ rfl ji11 rfl rfl Try.underlying26 (.int .i64 0) 8 info3 rfl (by decide) (by omega) 0 (ok := fun _ => True) (okp := fun _ => True) rfl (fun _ hk => hk) trivial (of_decide_eq_true (by first | (with_reducible assumption) | assumption)) (Nat.le_trans (Nat.mul_le_mul_right _ (of_decide_eq_true (by first | (with_reducible assumption) | assumption) : ji11.toNat ≤ 35184372088832)) (by omega)) (Below.refl _ _) (Nat.le_refl _) ?_
                intro v176 w15 ho16 hb hg_ hnew_
                clear hg_ hnew_
                (first | rw [← Ny175.out] at ho16 | (simp only [Int.reduceToNat] at ho16; rw [← Ny175.out] at ho16))
                have n0_ := Aside0.mk (Kd.R_lower ho16 (below_size (by repeat (first | (with_reducible first | exact HB.out | apply below_alloc | apply pw_below_drewN | apply below_drew1) | exact HB.out))))
                have n1_ := Aside0.mk (below_step (by repeat (first | (with_reducible first | exact HB.out | apply below_alloc | apply pw_below_drewN | apply below_drew1) | exact HB.out)) hb)
                clear HB
                have HO177 := n0_
                have HB := n1_
                clear n0_ n1_
                clear hb ho16
                refine hK.out _ _ trivial (fun hHeld => ?_)
                clear hK K
                refine norm_ (a' := ?_) ?_ ?_
                rotate_left
                · show Act.put _ (some 35) _ = _
                  simp only [Act.put, List.setIfInBounds_toArray, List.set_cons_zero, List.set_cons_succ, i64_w, i32_w]
                  rfl
                refine one_ (i := 2) (N := some 32) #[true, true, true, true, true, true, false, false] rfl rfl (one_of HT_.out (by kernel_rfl)) (by decide) (fun K hK => ?_)
                refine Kd.R_make_step (Kd.int .i64) _ 3 (by rfl) (N := 32) rfl 26 _ _ rfl ji11 rfl rfl Try.underlying26 (.int .i64 0) 8 info3 rfl (by decide) (by omega) 0 (ok := fun _ => True) (okp := fun _ => True) rfl (fun _ hk => hk) trivial (of_decide_eq_true (by first | (with_reducible assumption) | assumption)) (Nat.le_trans (Nat.mul_le_mul_right _ (of_decide_eq_true (by first | (with_reducible assumption) | assumption) : ji11.toNat ≤ 35184372088832)) (by omega)) (Below.refl _ _) (Nat.le_refl _) ?_
                intro v173 w17 ho18 hb hg_ hnew_
                clear hg_ hnew_
                (first | rw [← Ny172.out] at ho18 | (simp only [Int.reduceToNat] at ho18; rw [← Ny172.out] at ho18))
                have n0_ := Aside0.mk (Kd.R_elder' (by (with_reducible repeat (first | apply Kd.R_alloc | apply Kd.R_drewN | apply Kd.R_drew)); exact HO177.out) (Kd.R_base ho18) hb)
                have n1_ := Aside0.mk (Kd.R_lower (Kd.R_new' ho18 (Kd.R_lt (by (with_reducible repeat (first | apply Kd.R_alloc | apply Kd.R_drewN | apply Kd.R_drew)); exact HO177.out))) (below_size (by repeat (first | (with_reducible first | exact HB.out | apply below_alloc | apply pw_below_drewN | apply below_drew1) | exact HB.out))))
                have n2_ := Aside0.mk (below_step (by repeat (first | (with_reducible first | exact HB.out | apply below_alloc | apply pw_below_drewN | apply below_drew1) | exact HB.out)) hb)
                clear HO177
                clear HB
                have HO177 := n0_
                have HO174 := n1_
                have HB := n2_
                clear n0_ n1_ n2_
                clear hb ho18
                refine hK.out _ _ trivial (fun hHeld => ?_)
                clear hK K
                refine norm_ (a' := ?_) ?_ ?_
                rotate_left
                · show Act.put _ (some 32) _ = _
                  simp only [Act.put, List.setIfInBounds_toArray, List.set_cons_zero, List.set_cons_succ, i64_w, i32_w]
                  rfl
                refine pure_ (i := 6) (N := some 8) (v := ?_) (a' := ?_) #[true, true, true, true, true, true, true, false] rfl rfl (any_of HT_.out (by kernel_rfl)) (fun _ _ _ h => h) (Or.inl ⟨by rfl, ?_⟩) ?_ ?_
                rotate_left
                · intro w'
                  go_simp
                  with_reducible rfl
                rotate_left
                · simp only [Act.put, List.setIfInBounds_toArray, List.set_cons_zero, List.set_cons_succ, i64_w, i32_w]
                  rfl
                exact norm_ (by simp only [putAll, Act.put, List.setIfInBounds_toArray, List.set_cons_zero, List.set_cons_succ]) (hCont (v173, v176) _ ⟨(by (with_reducible repeat (first | apply Kd.R_alloc | apply Kd.R_drewN | apply Kd.R_drew)); exact Kd.R_mono HO174.out (fun _ hk => hk.2)), (by (with_reducible repeat (first | apply Kd.R_alloc | apply Kd.R_drewN | apply Kd.R_drew)); exact Kd.R_mono HO177.out (fun _ hk => hk.2)), (by repeat (first | (with_reducible first | exact HB.out | apply below_alloc | apply pw_below_drewN | apply below_drew1) | exact HB.out))⟩)
            rintro ⟨v173, v176⟩ w19 ⟨h0_, h1_, h2_⟩
            have n0_ : Aside0 (Kd.R (Kd.int .i64) 3 w19 w.heap.size (fun k_ => some k_ ≠ (v176 : Value).ownBlock) v173 y172) := ⟨h0_⟩
            have n1_ : Aside0 (Kd.R (Kd.int .i64) 3 w19 w.heap.size (fun k_ => some k_ ≠ (v173 : Value).ownBlock) v176 y175) := ⟨h1_⟩
            have n2_ : Aside0 (Below w.heap.size w w19) := ⟨h2_⟩
            clear HB
            clear h0_ h1_ h2_
            have HO174 := n0_
            have HO177 := n1_
            have HB := n2_
            clear n0_ n1_ n2_
            have hHeld := trivial
            refine norm_ (a' := ?_) ?_ ?_
            rotate_left
            · simp only [putAll, Act.put, List.setIfInBounds_toArray, List.set_cons_zero, List.set_cons_succ]
              rfl
            refine pure_ (i := 7) (N := some 9) (v := ?_) (a' := ?_) #[true, true, true, true, true, true, true, true] rfl rfl (any_of HT_.out (by kernel_rfl)) (fun _ _ _ h => h) (Or.inl ⟨by rfl, ?_⟩) ?_ ?_
            rotate_left
            · intro w'
              go_simp
              with_reducible rfl
            rotate_left
            · simp only [Act.put, List.setIfInBounds_toArray, List.set_cons_zero, List.set_cons_succ, i64_w, i32_w]
              rfl
            refine done_ (done_of HT_.out (by kernel_rfl)) ?_
            try go_wp2
            go_loopg [10] kj2 (fun kq v10 w' => ∃ (x8_2 : List Int) (x9_2 : List Int) (x10_2 : Int), v10 = .int .i64 x10_2 ∧ Aside0 (colophonref27_Best.l0 kq l0 a1 (l0.length : Int) x8_2 x9_2 x10_2 = some (r1, r2, r3)) ∧ Aside0 (kq ≤ kj2) ∧ Aside0 (Kd.R (Kd.int .i64) 3 w' w.heap.size (fun k_ => some k_ ≠ (v176 : Value).ownBlock) v173 x8_2) ∧ Aside0 (Kd.R (Kd.int .i64) 3 w' w.heap.size (fun k_ => some k_ ≠ (v173 : Value).ownBlock) v176 x9_2) ∧ Aside0 (Below w.heap.size w w'))
            case atStart => exact ⟨(y172), (y175), (wrap64 ((l0.length : Int) - 2)), (by first | rfl | (simp; done) | (simp [*]; done)), H', ⟨Nat.le_refl _⟩, ⟨by (with_reducible repeat (first | apply Kd.R_alloc | apply Kd.R_drewN | apply Kd.R_drew)); exact HO174.out⟩, ⟨by (with_reducible repeat (first | apply Kd.R_alloc | apply Kd.R_drewN | apply Kd.R_drew)); exact HO177.out⟩, ⟨by repeat (first | (with_reducible first | exact HB.out | apply below_alloc | apply pw_below_drewN | apply below_drew1) | exact HB.out)⟩⟩
            case round =>
              clear H'
              try clear c1
              try clear p2
              try clear c5
              try clear c6
              try clear c6b0
              try clear p6
              try clear c10
              try clear c12
              try clear c12b0
              try clear c12b1
              try clear c13
              try clear c13b0
              try clear c13b1
              try clear c16
              try clear c19
              try clear p2
              obtain ⟨x8_2, x9_2, x10_2, rfl, HA, HK2, HO_8, HO_9, HB⟩ := hrel
              cases gk with
              | zero => exact absurd HA.out (by simp [colophonref27_Best.l0])
              | succ k2 =>
                have H := HA.out
                clear HA
                simp only [colophonref27_Best.l0] at H
                by_cases c20 : x10_2 ≥ (-1)
                · rw [if_pos c20] at H
                  have c20b0 : decide ((-1) ≤ x10_2) = true := decide_eq_true c20
                  clear c20
                  obtain ⟨ji21, hji21⟩ : ∃ j_ : Int, (wrap64 (x10_2 + 1)) = j_ := ⟨_, rfl⟩
                  replace H : (if 0 ≤ (ji21) then (if (ji21) < (x8_2.length : Int) then ((some (x8_2.set ((ji21) : Int).toNat (-1) : List Int)).bind fun y178 => (if x10_2 ≥ 0 then ((colophonref27_legal.f l0 x10_2).bind fun t179 => (colophonref27_Best.j2 k2 l0 a1 (l0.length : Int) y178 x9_2 x10_2 (!t179))) else (colophonref27_Best.j2 k2 l0 a1 (l0.length : Int) y178 x9_2 x10_2 false))) else (none)) else (none)) = some (r1, r2, r3) := by first | (rw [hji21] at H; exact H) | (simp only [hji21] at H ⊢; exact H)
                  have hji21w : (IntKind.i64.wrap (x10_2 + 1)) = ji21 := (i64_w _).trans hji21
                  by_cases c22 : 0 ≤ (ji21)
                  · rw [if_pos c22] at H
                    have c22b0 : decide (0 ≤ (ji21)) = true := decide_eq_true c22
                    clear c22
                    by_cases c23 : (ji21) < (x8_2.length : Int)
                    · rw [if_pos c23] at H
                      have c23b0 : decide ((ji21) < (x8_2.length : Int)) = true := decide_eq_true c23
                      clear c23
                      obtain ⟨y178, hy178⟩ : ∃ y_ : List Int, y_ = (x8_2.set ((ji21) : Int).toNat (-1)) := ⟨_, rfl⟩
                      replace H : (if x10_2 ≥ 0 then ((colophonref27_legal.f l0 x10_2).bind fun t179 => (colophonref27_Best.j2 k2 l0 a1 (l0.length : Int) y178 x9_2 x10_2 (!t179))) else (colophonref27_Best.j2 k2 l0 a1 (l0.length : Int) y178 x9_2 x10_2 false)) = some (r1, r2, r3) := by first | (rw [hy178]; with_reducible exact H) | (have H2_ := (Option.bind_some _ _).symm.trans H; rw [hy178]; with_reducible exact H2_) | (have H2_ := (Option.bind_some _ _).symm.trans H; with_reducible exact H2_) | with_reducible exact H | (rw [hy178]; exact H) | exact H
                      have Ny178 := Aside0.mk hy178
                      clear hy178
                      have HC25 := Aside0.mk H
                      clear H
                      have p24 : 0 ≤ ((ji21) : Int) := of_decide_eq_true (by first | (with_reducible assumption) | assumption)
                      have q24 : ((ji21) : Int) < ((x8_2.length : Int) : Int) := of_decide_eq_true (by first | (with_reducible assumption) | assumption)
                      obtain ⟨go24, co24, eo24, gb24, gl24, cl24, HG24⟩ := Kd.R_form HO_8.out (by omega)
                      (first | cases eo24 | (injection eo24 with ea_ en_ ec_; (first | subst ea_ | (injection ea_ with ea_; subst ea_)); subst ec_; clear en_))
                      have GB24 := Aside0.mk gb24
                      have GG24 := Aside0.mk HG24
                      clear gb24 gl24 HG24
                      obtain ⟨hx24_0, hf24_0⟩ := Kd.R_celln 0 HO_8.out ((ji21) : Int) p24 q24
                      replace p24 := eq_true p24
                      replace q24 := eq_true q24
                      have HP26 := Kd.R_putg HO_8.out ((ji21) : Int) (-1)
                      go_upto_region 9 with (first | ((with_reducible refine gate_store (t := 3) (p := 45) rfl ?_); refine store_event (t := 3) (p := 45) (v := ?vo_w27) (w1 := (wr.setCell ⟨go24, ((ji21) : Int).toNat, none⟩ (.int .i64 (-1)))) ?hg ?ho ?hn ?hr ?_; (case ho => rfl); (case hg => rfl); (case hn => rfl); (case hr => first | (go_simp; done) | (go_simp; rfl)); intro w27 hw; have hg : wr.grownBy w27 (some go24) := (by rw [hw]; exact HP26.2); have hp_ : Kd.R (Kd.int .i64) 3 w27 w.heap.size (fun k_ => some k_ ≠ (v176 : Value).ownBlock) (.slice (some ⟨go24, 0, none⟩) x8_2.length co24) y178 := (by rw [hw, Ny178.out]; exact HP26.1); clear HP26; have n0_ := Aside0.mk (hp_); have n1_ := Aside0.mk (Kd.R_after (v := (.slice (some ⟨go24, 0, none⟩) x8_2.length co24)) (v1 := (.slice (some ⟨go24, 0, none⟩) x8_2.length co24)) (ok := (fun _ => True)) (by (with_reducible repeat (first | apply Kd.R_alloc | apply Kd.R_drewN | apply Kd.R_drew)); exact Kd.R_mono HO_9.out (fun _ hk => ⟨trivial, hk⟩)) hg (.inl rfl)); have n2_ := Aside0.mk ((by rw [hw]; exact below_set (HB.out) GB24.out : Below w.heap.size w w27)); clear HO_8; clear HO_9; clear HB; have HO_8 := n0_; have HO_9 := n1_; have HB := n2_; clear n0_ n1_ n2_; clear hg hw hp_))
                      (try simp only [Act.put, List.setIfInBounds_toArray, List.set_cons_zero, List.set_cons_succ])
                      go_cut [53] (fun v53 wc => ∃ (kq : Nat) (x53_24 : Bool), v53 = .bool x53_24 ∧ Aside0 (colophonref27_Best.j2 kq l0 a1 (l0.length : Int) y178 x9_2 x10_2 x53_24 = some (r1, r2, r3)) ∧ Aside0 (kq ≤ k2) ∧ Aside0 (Kd.R (Kd.int .i64) 3 wc w.heap.size (fun k_ => some k_ ≠ (v176 : Value).ownBlock) (.slice (some ⟨go24, 0, none⟩) x8_2.length co24) y178) ∧ Aside0 (Kd.R (Kd.int .i64) 3 wc w.heap.size (fun k_ => some k_ ≠ ((.slice (some ⟨go24, 0, none⟩) x8_2.length co24) : Value).ownBlock) v176 x9_2) ∧ Aside0 (Below w.heap.size w wc))
                      case first =>
                        have H := HC25.out
                        clear HC25
                        by_cases c28 : x10_2 ≥ 0
                        · rw [if_pos c28] at H
                          have c28b0 : decide (0 ≤ x10_2) = true := decide_eq_true c28
                          clear c28
                          (first | rw [c28b0] | (simp only [i64_w, i32_w]; rw [c28b0]) | skip)
                          replace H := Option.bind_eq_some_iff.mp H
                          obtain ⟨t179, A290, H⟩ := H
                          replace H : (colophonref27_Best.j2 k2 l0 a1 (l0.length : Int) y178 x9_2 x10_2 (!t179)) = some (r1, r2, r3) := H
                          have A29 := Aside0.mk A290
                          clear A290
                          have H' := Aside0.mk H
                          clear H
                          go_wp2_with (first | (go_at_call 40; (with_reducible refine (colophonref27_legal.calls _ _ l0 x10_2 t179 _ ?side1 ?side2 A29.out).mono ?_); (case side1 => repeat (first | exact (Kd.C_below HR0.out HB.out) | (with_reducible refine Kd.C_alloc ?_ _) | (with_reducible refine Kd.C_drewN ?_ _) | (with_reducible refine Kd.C_drew ?_))); (case side2 => exact HC0.out); rintro e w' ⟨rfl, ⟨nd, rfl⟩⟩))
                          go_meet
                          case rel => exact ⟨_, (!t179), (by first | rfl | (simp; done) | (simp [*]; done)), H', ⟨by have := HJ2.out; have := HK2.out; first | omega | exact Nat.le_refl _⟩, ⟨by (with_reducible repeat (first | apply Kd.R_alloc | apply Kd.R_drewN | apply Kd.R_drew)); exact HO_8.out⟩, ⟨by (with_reducible repeat (first | apply Kd.R_alloc | apply Kd.R_drewN | apply Kd.R_drew)); exact Kd.R_mono HO_9.out (fun _ hk => hk.2)⟩, ⟨by repeat (first | (with_reducible first | exact HB.out | apply below_alloc | apply pw_below_drewN | apply below_drew1) | exact HB.out)⟩⟩
                        · rw [if_neg c28] at H
                          have c28b0 : decide (0 ≤ x10_2) = false := decide_eq_false c28
                          clear c28
                          (first | rw [c28b0] | (simp only [i64_w, i32_w]; rw [c28b0]) | skip)
                          have H' := Aside0.mk H
                          clear H
                          go_wp2
                          go_meet
                          case rel => exact ⟨_, (false), (by first | rfl | (simp; done) | (simp [*]; done)), H', ⟨by have := HJ2.out; have := HK2.out; first | omega | exact Nat.le_refl _⟩, ⟨by (with_reducible repeat (first | apply Kd.R_alloc | apply Kd.R_drewN | apply Kd.R_drew)); exact HO_8.out⟩, ⟨by (with_reducible repeat (first | apply Kd.R_alloc | apply Kd.R_drewN | apply Kd.R_drew)); exact Kd.R_mono HO_9.out (fun _ hk => hk.2)⟩, ⟨by repeat (first | (with_reducible first | exact HB.out | apply below_alloc | apply pw_below_drewN | apply below_drew1) | exact HB.out)⟩⟩
                      case rest =>
                        clear HC25
                        try clear c1
                        try clear c2
                        try clear p2
                        try clear q2
                        try clear hx2
                        try clear hf2
                        try clear c5
                        try clear c6
                        try clear c6b0
                        try clear p6
                        try clear c10
                        try clear c12
                        try clear c12b0
                        try clear c12b1
                        try clear c13
                        try clear c13b0
                        try clear c13b1
                        try clear c16
                        try clear c19
                        try clear c20
                        try clear c20b0
                        try clear c22
                        try clear c22b0
                        try clear c23
                        try clear c23b0
                        try clear p24
                        try clear q24
                        try clear hx24
                        try clear hf24
                        try clear c28
                        try clear c28b0
                        try clear hx24_0
                        try clear p2
                        try clear p24
                        try clear p6
                        try clear q24
                        obtain ⟨kq, x53_24, rfl, HA, HJ24, HO_8, HO_9, HB⟩ := hcut
                        have hl8_24 := (Kd.R_reads' HO_8.out).1
                        rw [hl8_24] at HO_8
                        (try simp only [hl8_24])
                        (try simp only [hl8_24] at HO_9)
                        cases kq with
                        | zero => exact absurd HA.out (by simp [colophonref27_Best.j2])
                        | succ kj24 =>
                          have H := HA.out
                          clear HA
                          simp only [colophonref27_Best.j2] at H
                          by_cases c30 : x53_24 = true
                          · subst c30
                            have H1 : (colophonref27_Best.l0 kj24 l0 a1 (l0.length : Int) y178 x9_2 (wrap64 (x10_2 - 1))) = some (r1, r2, r3) := by rw [if_pos rfl] at H; exact H
                            clear H
                            have H := H1
                            clear H1
                            have H' := Aside0.mk H
                            clear H
                            go_wp2
                            (try simp only [← hl8_24])
                            go_roundg kj24
                            case measure => have := HJ2.out; have := HK2.out; have := HJ24.out; omega
                            case rel => exact ⟨(y178), (x9_2), (wrap64 (x10_2 - 1)), (by first | rfl | (simp; done) | (simp [*]; done)), H', ⟨by have := HJ2.out; have := HK2.out; have := HJ24.out; omega⟩, ⟨by (try simp only [hl8_24]); (with_reducible repeat (first | apply Kd.R_alloc | apply Kd.R_drewN | apply Kd.R_drew)); exact HO_8.out⟩, ⟨by (try simp only [hl8_24]); (with_reducible repeat (first | apply Kd.R_alloc | apply Kd.R_drewN | apply Kd.R_drew)); exact HO_9.out⟩, ⟨by repeat (first | (with_reducible first | exact HB.out | apply below_alloc | apply pw_below_drewN | apply below_drew1) | exact HB.out)⟩⟩
                          · replace c30 := Bool.eq_false_iff.mpr c30
                            subst c30
                            have H1 : (colophonref27_Best.l1 kj24 l0 a1 (l0.length : Int) y178 x9_2 x10_2 (wrap64 (x10_2 + 1))) = some (r1, r2, r3) := by rw [if_neg (show ¬ (false = true) by decide)] at H; exact H
                            clear H
                            have H := H1
                            clear H1
                            have H' := Aside0.mk H
                            clear H
                            go_wp2
                            go_loopg [11] kj24 (fun kq v11 w' => ∃ (x8_4 : List Int) (x9_4 : List Int) (x11_4 : Int), v11 = .int .i64 x11_4 ∧ Aside0 (colophonref27_Best.l1 kq l0 a1 (l0.length : Int) x8_4 x9_4 x10_2 x11_4 = some (r1, r2, r3)) ∧ Aside0 (kq ≤ kj24) ∧ Aside0 (Kd.R (Kd.int .i64) 3 w' w.heap.size (fun k_ => some k_ ≠ (v176 : Value).ownBlock) (.slice (some ⟨go24, 0, none⟩) y178.length co24) x8_4) ∧ Aside0 (Kd.R (Kd.int .i64) 3 w' w.heap.size (fun k_ => some k_ ≠ ((.slice (some ⟨go24, 0, none⟩) y178.length co24) : Value).ownBlock) v176 x9_4) ∧ Aside0 (Below w.heap.size w w'))
                            case atStart => exact ⟨(y178), (x9_2), (wrap64 (x10_2 + 1)), (by first | rfl | (simp; done) | (simp [*]; done)), H', ⟨Nat.le_refl _⟩, ⟨by (try simp only [hl8_24]); (with_reducible repeat (first | apply Kd.R_alloc | apply Kd.R_drewN | apply Kd.R_drew)); exact HO_8.out⟩, ⟨by (try simp only [hl8_24]); (with_reducible repeat (first | apply Kd.R_alloc | apply Kd.R_drewN | apply Kd.R_drew)); exact HO_9.out⟩, ⟨by repeat (first | (with_reducible first | exact HB.out | apply below_alloc | apply pw_below_drewN | apply below_drew1) | exact HB.out)⟩⟩
                            case round =>
                              clear H'
                              try clear c1
                              try clear c2
                              try clear p2
                              try clear q2
                              try clear hx2
                              try clear hf2
                              try clear c3
                              try clear c5
                              try clear c6
                              try clear c6b0
                              try clear p6
                              try clear c10
                              try clear c12
                              try clear c12b0
                              try clear c12b1
                              try clear c13
                              try clear c13b0
                              try clear c13b1
                              try clear c16
                              try clear c19
                              try clear c20
                              try clear c20b0
                              try clear c22
                              try clear c22b0
                              try clear c23
                              try clear c23b0
                              try clear p24
                              try clear q24
                              try clear hx24
                              try clear hf24
                              try clear c28
                              try clear c28b0
                              try clear c30
                              try clear hx24_0
                              try clear p2
                              try clear p24
                              try clear p6
                              try clear q2
                              try clear q24
                              obtain ⟨x8_4, x9_4, x11_4, rfl, HA, HK4, HO_8, HO_9, HB⟩ := hrel
                              have hl8_4 := (Kd.R_reads' HO_8.out).1
                              rw [hl8_4] at HO_8
                              (try simp only [hl8_4])
                              (try simp only [hl8_4] at HO_9)
                              cases gk with
                              | zero => exact absurd HA.out (by simp [colophonref27_Best.l1])
                              | succ k4 =>
                                have H := HA.out
                                clear HA
                                simp only [colophonref27_Best.l1] at H
                                by_cases c31 : x11_4 < (l0.length : Int)
                                · rw [if_pos c31] at H
                                  have c31b0 : decide (x11_4 < (l0.length : Int)) = true := decide_eq_true c31
                                  clear c31
                                  replace H := Option.bind_eq_some_iff.mp H
                                  obtain ⟨t180, A320, H⟩ := H
                                  replace H : (if t180 = true then ((colophonref27_cost.f k4 l0 x10_2 x11_4 a1).bind fun bt181 => (if bt181.2 = true then (if x11_4 = (wrap64 ((l0.length : Int) - 1)) then (colophonref27_Best.j4 k4 l0 a1 (l0.length : Int) x8_4 x9_4 x10_2 x11_4 bt181.1 true) else (if 0 ≤ (wrap64 (x11_4 + 1)) then (if (wrap64 (x11_4 + 1)) < (x8_4.length : Int) then (colophonref27_Best.j4 k4 l0 a1 (l0.length : Int) x8_4 x9_4 x10_2 x11_4 bt181.1 (decide ((rd x8_4 (wrap64 (x11_4 + 1))) ≥ 0))) else (none)) else (none))) else (colophonref27_Best.j4 k4 l0 a1 (l0.length : Int) x8_4 x9_4 x10_2 x11_4 bt181.1 false))) else (colophonref27_Best.l1 k4 l0 a1 (l0.length : Int) x8_4 x9_4 x10_2 (wrap64 (x11_4 + 1)))) = some (r1, r2, r3) := H
                                  have A32 := Aside0.mk A320
                                  clear A320
                                  by_cases c33 : t180 = true
                                  · subst c33
                                    have H1 : ((colophonref27_cost.f k4 l0 x10_2 x11_4 a1).bind fun bt181 => (if bt181.2 = true then (if x11_4 = (wrap64 ((l0.length : Int) - 1)) then (colophonref27_Best.j4 k4 l0 a1 (l0.length : Int) x8_4 x9_4 x10_2 x11_4 bt181.1 true) else (if 0 ≤ (wrap64 (x11_4 + 1)) then (if (wrap64 (x11_4 + 1)) < (x8_4.length : Int) then (colophonref27_Best.j4 k4 l0 a1 (l0.length : Int) x8_4 x9_4 x10_2 x11_4 bt181.1 (decide ((rd x8_4 (wrap64 (x11_4 + 1))) ≥ 0))) else (none)) else (none))) else (colophonref27_Best.j4 k4 l0 a1 (l0.length : Int) x8_4 x9_4 x10_2 x11_4 bt181.1 false))) = some (r1, r2, r3) := by rw [if_pos rfl] at H; exact H
                                    clear H
                                    have H := H1
                                    clear H1
                                    replace H := Option.bind_eq_some_iff.mp H
                                    obtain ⟨⟨t181, t182⟩, A340, H⟩ := H
                                    replace H : (if t182 = true then (if x11_4 = (wrap64 ((l0.length : Int) - 1)) then (colophonref27_Best.j4 k4 l0 a1 (l0.length : Int) x8_4 x9_4 x10_2 x11_4 t181 true) else (if 0 ≤ (wrap64 (x11_4 + 1)) then (if (wrap64 (x11_4 + 1)) < (x8_4.length : Int) then (colophonref27_Best.j4 k4 l0 a1 (l0.length : Int) x8_4 x9_4 x10_2 x11_4 t181 (decide ((rd x8_4 (wrap64 (x11_4 + 1))) ≥ 0))) else (none)) else (none))) else (colophonref27_Best.j4 k4 l0 a1 (l0.length : Int) x8_4 x9_4 x10_2 x11_4 t181 false)) = some (r1, r2, r3) := H
                                    have A34 := Aside0.mk A340
                                    clear A340
                                    have HC35 := Aside0.mk H
                                    clear H
                                    go_upto_region 15 with (first | ((with_reducible refine gate_callee (f := 40) rfl ?_); refine goesL_ (some 63) rfl rfl Try.func40 (by kernel_rfl) rfl #[.slice A0 l0.length c0, .int .i64 x11_4] rfl (by (try simp only [List.map_toArray, List.map_cons, List.map_nil]); first | done | rfl | (simp only [List.length_drop, List.length_take]; rfl)) ?_; (with_reducible refine (colophonref27_legal.calls _ _ l0 x11_4 true _ ?side1 ?side2 A32.out).mono ?_); (case side1 => repeat (first | exact (Kd.C_below HR0.out HB.out) | (with_reducible refine Kd.C_alloc ?_ _) | (with_reducible refine Kd.C_drewN ?_ _) | (with_reducible refine Kd.C_drew ?_))); (case side2 => exact HC0.out); rintro e w' ⟨rfl, ⟨nd, rfl⟩⟩; refine ⟨_, rfl, ?_⟩) | ((with_reducible refine gate_callee (f := 41) rfl ?_); refine goesL_ (some 70) rfl rfl Try.func41 (by kernel_rfl) rfl #[.slice A0 l0.length c0, .int .i64 x10_2, .int .i64 x11_4, .int .i64 a1] rfl (by (try simp only [List.map_toArray, List.map_cons, List.map_nil]); first | done | rfl | (simp only [List.length_drop, List.length_take]; rfl)) ?_; (with_reducible refine (colophonref27_cost.calls k4 _ _ l0 x10_2 x11_4 a1 t181 t182 _ ?side1 ?side2 A34.out).mono ?_); (case side1 => repeat (first | exact (Kd.C_below HR0.out (by repeat (first | (with_reducible first | exact HB.out | apply below_alloc | apply pw_below_drewN | apply below_drew1) | exact HB.out))) | (with_reducible refine Kd.C_alloc ?_ _) | (with_reducible refine Kd.C_drewN ?_ _) | (with_reducible refine Kd.C_drew ?_))); (case side2 => exact HC0.out); rintro e w36 ⟨rfl, hb⟩; refine ⟨_, rfl, ?_⟩; have n0_ := Aside0.mk (Kd.R_below (by (with_reducible repeat (first | apply Kd.R_alloc | apply Kd.R_drewN | apply Kd.R_drew)); exact HO_8.out) hb); have n1_ := Aside0.mk (Kd.R_below (by (with_reducible repeat (first | apply Kd.R_alloc | apply Kd.R_drewN | apply Kd.R_drew)); exact HO_9.out) hb); have n2_ := Aside0.mk (below_step (by repeat (first | (with_reducible first | exact HB.out | apply below_alloc | apply pw_below_drewN | apply below_drew1) | exact HB.out)) hb); clear HO_8; clear HO_9; clear HB; have HO_8 := n0_; have HO_9 := n1_; have HB := n2_; clear n0_ n1_ n2_; (try clear hb); (try clear hb2); (try clear hk); (try clear hi)))
                                    (try simp only [Act.put, List.setIfInBounds_toArray, List.set_cons_zero, List.set_cons_succ])
                                    go_cut [87] (fun v87 wc => ∃ (kq : Nat) (x87_34 : Bool), v87 = .bool x87_34 ∧ Aside0 (colophonref27_Best.j4 kq l0 a1 (l0.length : Int) x8_4 x9_4 x10_2 x11_4 t181 x87_34 = some (r1, r2, r3)) ∧ Aside0 (kq ≤ k4) ∧ Aside0 (Kd.R (Kd.int .i64) 3 wc w.heap.size (fun k_ => some k_ ≠ (v176 : Value).ownBlock) (.slice (some ⟨go24, 0, none⟩) x8_4.length co24) x8_4) ∧ Aside0 (Kd.R (Kd.int .i64) 3 wc w.heap.size (fun k_ => some k_ ≠ ((.slice (some ⟨go24, 0, none⟩) x8_4.length co24) : Value).ownBlock) v176 x9_4) ∧ Aside0 (Below w.heap.size w wc))
                                    case first =>
                                      have H := HC35.out
                                      clear HC35
                                      by_cases c37 : t182 = true
                                      · subst c37
                                        have H1 : (if x11_4 = (wrap64 ((l0.length : Int) - 1)) then (colophonref27_Best.j4 k4 l0 a1 (l0.length : Int) x8_4 x9_4 x10_2 x11_4 t181 true) else (if 0 ≤ (wrap64 (x11_4 + 1)) then (if (wrap64 (x11_4 + 1)) < (x8_4.length : Int) then (colophonref27_Best.j4 k4 l0 a1 (l0.length : Int) x8_4 x9_4 x10_2 x11_4 t181 (decide ((rd x8_4 (wrap64 (x11_4 + 1))) ≥ 0))) else (none)) else (none))) = some (r1, r2, r3) := by rw [if_pos rfl] at H; exact H
                                        clear H
                                        have H := H1
                                        clear H1
                                        by_cases c38 : x11_4 = (wrap64 ((l0.length : Int) - 1))
                                        · rw [if_pos c38] at H
                                          have c38b0 : (x11_4 == (wrap64 ((l0.length : Int) - 1))) = true := beq_iff_eq.mpr c38
                                          have c38b1 : (x11_4 != (wrap64 ((l0.length : Int) - 1))) = false := bne_eq_false_iff_eq.mpr c38
                                          clear c38
                                          (first | rw [c38b0] | (simp only [i64_w, i32_w]; rw [c38b0]) | skip)
                                          have H' := Aside0.mk H
                                          clear H
                                          go_wp2
                                          go_meet
                                          case rel => exact ⟨_, (true), (by first | rfl | (simp; done) | (simp [*]; done)), H', ⟨by have := HJ2.out; have := HK2.out; have := HJ24.out; have := HK4.out; first | omega | exact Nat.le_refl _⟩, ⟨by (try simp only [hl8_24]); (try simp only [hl8_4]); (with_reducible repeat (first | apply Kd.R_alloc | apply Kd.R_drewN | apply Kd.R_drew)); exact HO_8.out⟩, ⟨by (try simp only [hl8_24]); (try simp only [hl8_4]); (with_reducible repeat (first | apply Kd.R_alloc | apply Kd.R_drewN | apply Kd.R_drew)); exact HO_9.out⟩, ⟨by repeat (first | (with_reducible first | exact HB.out | apply below_alloc | apply pw_below_drewN | apply below_drew1) | exact HB.out)⟩⟩
                                        · rw [if_neg c38] at H
                                          have c38b0 : (x11_4 == (wrap64 ((l0.length : Int) - 1))) = false := beq_eq_false_iff_ne.mpr c38
                                          have c38b1 : (x11_4 != (wrap64 ((l0.length : Int) - 1))) = true := bne_iff_ne.mpr c38
                                          (first | rw [c38b0] | (simp only [i64_w, i32_w]; rw [c38b0]) | skip)
                                          obtain ⟨ji39, hji39⟩ : ∃ j_ : Int, (wrap64 (x11_4 + 1)) = j_ := ⟨_, rfl⟩
                                          replace H : (if 0 ≤ (ji39) then (if (ji39) < (x8_4.length : Int) then (colophonref27_Best.j4 k4 l0 a1 (l0.length : Int) x8_4 x9_4 x10_2 x11_4 t181 (decide ((rd x8_4 (ji39)) ≥ 0))) else (none)) else (none)) = some (r1, r2, r3) := by first | (rw [hji39] at H; exact H) | (simp only [hji39] at H ⊢; exact H)
                                          have hji39w : (IntKind.i64.wrap (x11_4 + 1)) = ji39 := (i64_w _).trans hji39
                                          by_cases c40 : 0 ≤ (ji39)
                                          · rw [if_pos c40] at H
                                            have c40b0 : decide (0 ≤ (ji39)) = true := decide_eq_true c40
                                            clear c40
                                            by_cases c41 : (ji39) < (x8_4.length : Int)
                                            · rw [if_pos c41] at H
                                              have c41b0 : decide ((ji39) < (x8_4.length : Int)) = true := decide_eq_true c41
                                              clear c41
                                              have H' := Aside0.mk H
                                              clear H
                                              have p183 : 0 ≤ ((ji39) : Int) := of_decide_eq_true (by first | (with_reducible assumption) | assumption)
                                              have q183 : (ji39) < (x8_4.length : Int) := of_decide_eq_true (by first | (with_reducible assumption) | assumption)
                                              obtain ⟨ad183, e183, hx183_0⟩ := Kd.at_int (Kd.R_reads' HO_8.out).2.2 (ji39) p183 q183
                                              obtain rfl : (⟨go24, 0, none⟩ : Addr) = ad183 := (by injection e183)
                                              (first | simp only [add_plain] at hx183_0 | simp only [add_at] at hx183_0 | simp only [Addr.add, Nat.zero_add] at hx183_0 | skip)
                                              replace p183 := eq_true p183
                                              replace q183 := eq_true q183
                                              go_wp2
                                              go_meet
                                              case rel => exact ⟨_, (decide ((rd x8_4 (ji39)) ≥ 0)), (by first | rfl | (simp; done) | (simp only [← hji39] <;> (first | rfl | simp)) | (simp [*]; done)), H', ⟨by have := HJ2.out; have := HK2.out; have := HJ24.out; have := HK4.out; first | omega | exact Nat.le_refl _⟩, ⟨by (try simp only [hl8_24]); (try simp only [hl8_4]); (with_reducible repeat (first | apply Kd.R_alloc | apply Kd.R_drewN | apply Kd.R_drew)); exact HO_8.out⟩, ⟨by (try simp only [hl8_24]); (try simp only [hl8_4]); (with_reducible repeat (first | apply Kd.R_alloc | apply Kd.R_drewN | apply Kd.R_drew)); exact HO_9.out⟩, ⟨by repeat (first | (with_reducible first | exact HB.out | apply below_alloc | apply pw_below_drewN | apply below_drew1) | exact HB.out)⟩⟩
                                            · rw [if_neg c41] at H
                                              exact absurd H (by simp)
                                          · rw [if_neg c40] at H
                                            exact absurd H (by simp)
                                      · replace c37 := Bool.eq_false_iff.mpr c37
                                        subst c37
                                        have H1 : (colophonref27_Best.j4 k4 l0 a1 (l0.length : Int) x8_4 x9_4 x10_2 x11_4 t181 false) = some (r1, r2, r3) := by rw [if_neg (show ¬ (false = true) by decide)] at H; exact H
                                        clear H
                                        have H := H1
                                        clear H1
                                        have H' := Aside0.mk H
                                        clear H
                                        go_wp2
                                        go_meet
                                        case rel => exact ⟨_, (false), (by first | rfl | (simp; done) | (simp [*]; done)), H', ⟨by have := HJ2.out; have := HK2.out; have := HJ24.out; have := HK4.out; first | omega | exact Nat.le_refl _⟩, ⟨by (try simp only [hl8_24]); (try simp only [hl8_4]); (with_reducible repeat (first | apply Kd.R_alloc | apply Kd.R_drewN | apply Kd.R_drew)); exact HO_8.out⟩, ⟨by (try simp only [hl8_24]); (try simp only [hl8_4]); (with_reducible repeat (first | apply Kd.R_alloc | apply Kd.R_drewN | apply Kd.R_drew)); exact HO_9.out⟩, ⟨by repeat (first | (with_reducible first | exact HB.out | apply below_alloc | apply pw_below_drewN | apply below_drew1) | exact HB.out)⟩⟩
                                    case rest =>
                                      clear HC35
                                      try clear c1
                                      try clear p1
                                      try clear q1
                                      try clear hx1
                                      try clear c2
                                      try clear p2
                                      try clear q2
                                      try clear hx2
                                      try clear hf2
                                      try clear c3
                                      try clear c4
                                      try clear c5
                                      try clear c6
                                      try clear c6b0
                                      try clear p6
                                      try clear c10
                                      try clear c12
                                      try clear c12b0
                                      try clear c12b1
                                      try clear c13
                                      try clear c13b0
                                      try clear c13b1
                                      try clear c16
                                      try clear p18
                                      try clear q18
                                      try clear hx18
                                      try clear c19
                                      try clear c20
                                      try clear c20b0
                                      try clear c22
                                      try clear c22b0
                                      try clear c23
                                      try clear c23b0
                                      try clear p24
                                      try clear q24
                                      try clear hx24
                                      try clear hf24
                                      try clear c28
                                      try clear c28b0
                                      try clear c30
                                      try clear c31
                                      try clear c31b0
                                      try clear c33
                                      try clear c37
                                      try clear c38
                                      try clear c38b0
                                      try clear c38b1
                                      try clear c40
                                      try clear c40b0
                                      try clear c41
                                      try clear c41b0
                                      try clear hx183_0
                                      try clear hx24_0
                                      try clear p183
                                      try clear p2
                                      try clear p24
                                      try clear p6
                                      try clear q183
                                      try clear q2
                                      try clear q24
                                      obtain ⟨kq, x87_34, rfl, HA, HJ34, HO_8, HO_9, HB⟩ := hcut
                                      cases kq with
                                      | zero => exact absurd HA.out (by simp [colophonref27_Best.j4])
                                      | succ kj34 =>
                                        have H := HA.out
                                        clear HA
                                        simp only [colophonref27_Best.j4] at H
                                        by_cases c42 : x87_34 = true
                                        · subst c42
                                          have H1 : (if x11_4 < (wrap64 ((l0.length : Int) - 1)) then (if 0 ≤ (wrap64 (x11_4 + 1)) then (if (wrap64 (x11_4 + 1)) < (x9_4.length : Int) then (colophonref27_Best.j5 kj34 l0 a1 (l0.length : Int) x8_4 x9_4 x10_2 x11_4 (wrap64 (t181 + (rd x9_4 (wrap64 (x11_4 + 1)))))) else (none)) else (none)) else (colophonref27_Best.j5 kj34 l0 a1 (l0.length : Int) x8_4 x9_4 x10_2 x11_4 t181)) = some (r1, r2, r3) := by rw [if_pos rfl] at H; exact H
                                          clear H
                                          have H := H1
                                          clear H1
                                          have HC43 := Aside0.mk H
                                          clear H
                                          go_upto_if 92 with (fail)
                                          go_cut [14] (fun v14 wc => ∃ (kq : Nat) (x14_42 : Int), v14 = .int .i64 x14_42 ∧ Aside0 (colophonref27_Best.j5 kq l0 a1 (l0.length : Int) x8_4 x9_4 x10_2 x11_4 x14_42 = some (r1, r2, r3)) ∧ Aside0 (kq ≤ kj34) ∧ Aside0 (Kd.R (Kd.int .i64) 3 wc w.heap.size (fun k_ => some k_ ≠ (v176 : Value).ownBlock) (.slice (some ⟨go24, 0, none⟩) x8_4.length co24) x8_4) ∧ Aside0 (Kd.R (Kd.int .i64) 3 wc w.heap.size (fun k_ => some k_ ≠ ((.slice (some ⟨go24, 0, none⟩) x8_4.length co24) : Value).ownBlock) v176 x9_4) ∧ Aside0 (Below w.heap.size w wc))
                                          case first =>
                                            have H := HC43.out
                                            clear HC43
                                            by_cases c44 : x11_4 < (wrap64 ((l0.length : Int) - 1))
                                            · rw [if_pos c44] at H
                                              have c44b0 : decide (x11_4 < (wrap64 ((l0.length : Int) - 1))) = true := decide_eq_true c44
                                              clear c44
                                              (first | rw [c44b0] | (simp only [i64_w, i32_w]; rw [c44b0]) | skip)
                                              try clear hji39w
                                              obtain ⟨ji45, hji45⟩ : ∃ j_ : Int, (wrap64 (x11_4 + 1)) = j_ := ⟨_, rfl⟩
                                              replace H : (if 0 ≤ (ji45) then (if (ji45) < (x9_4.length : Int) then (colophonref27_Best.j5 kj34 l0 a1 (l0.length : Int) x8_4 x9_4 x10_2 x11_4 (wrap64 (t181 + (rd x9_4 (ji45))))) else (none)) else (none)) = some (r1, r2, r3) := by first | (rw [hji45] at H; exact H) | (simp only [hji45] at H ⊢; exact H)
                                              have hji45w : (IntKind.i64.wrap (x11_4 + 1)) = ji45 := (i64_w _).trans hji45
                                              by_cases c46 : 0 ≤ (ji45)
                                              · rw [if_pos c46] at H
                                                have c46b0 : decide (0 ≤ (ji45)) = true := decide_eq_true c46
                                                clear c46
                                                by_cases c47 : (ji45) < (x9_4.length : Int)
                                                · rw [if_pos c47] at H
                                                  have c47b0 : decide ((ji45) < (x9_4.length : Int)) = true := decide_eq_true c47
                                                  clear c47
                                                  have H' := Aside0.mk H
                                                  clear H
                                                  obtain ⟨Ao48, co48, eo48⟩ := Kd.R_slice HO_9.out
                                                  subst eo48
                                                  have p184 : 0 ≤ ((ji45) : Int) := of_decide_eq_true (by first | (with_reducible assumption) | assumption)
                                                  have q184 : (ji45) < (x9_4.length : Int) := of_decide_eq_true (by first | (with_reducible assumption) | assumption)
                                                  obtain ⟨ad184, e184, hx184_0⟩ := Kd.at_int (Kd.R_reads' HO_9.out).2.2 (ji45) p184 q184
                                                  cases e184
                                                  replace p184 := eq_true p184
                                                  replace q184 := eq_true q184
                                                  go_wp2
                                                  go_meet
                                                  case rel => exact ⟨_, (wrap64 (t181 + (rd x9_4 (ji45)))), (by first | rfl | (simp; done) | (simp only [← hji45] <;> (first | rfl | simp)) | (simp [*]; done)), H', ⟨by have := HJ2.out; have := HK2.out; have := HJ24.out; have := HK4.out; have := HJ34.out; first | omega | exact Nat.le_refl _⟩, ⟨by (try simp only [hl8_24]); (try simp only [hl8_4]); (with_reducible repeat (first | apply Kd.R_alloc | apply Kd.R_drewN | apply Kd.R_drew)); exact HO_8.out⟩, ⟨by (try simp only [hl8_24]); (try simp only [hl8_4]); (with_reducible repeat (first | apply Kd.R_alloc | apply Kd.R_drewN | apply Kd.R_drew)); exact HO_9.out⟩, ⟨by repeat (first | (with_reducible first | exact HB.out | apply below_alloc | apply pw_below_drewN | apply below_drew1) | exact HB.out)⟩⟩
                                                · rw [if_neg c47] at H
                                                  exact absurd H (by simp)
                                              · rw [if_neg c46] at H
                                                exact absurd H (by simp)
                                            · rw [if_neg c44] at H
                                              have c44b0 : decide (x11_4 < (wrap64 ((l0.length : Int) - 1))) = false := decide_eq_false c44
                                              clear c44
                                              (first | rw [c44b0] | (simp only [i64_w, i32_w]; rw [c44b0]) | skip)
                                              have H' := Aside0.mk H
                                              clear H
                                              go_wp2
                                              go_meet
                                              case rel => exact ⟨_, (t181), (by first | rfl | (simp; done) | (simp [*]; done)), H', ⟨by have := HJ2.out; have := HK2.out; have := HJ24.out; have := HK4.out; have := HJ34.out; first | omega | exact Nat.le_refl _⟩, ⟨by (try simp only [hl8_24]); (try simp only [hl8_4]); (with_reducible repeat (first | apply Kd.R_alloc | apply Kd.R_drewN | apply Kd.R_drew)); exact HO_8.out⟩, ⟨by (try simp only [hl8_24]); (try simp only [hl8_4]); (with_reducible repeat (first | apply Kd.R_alloc | apply Kd.R_drewN | apply Kd.R_drew)); exact HO_9.out⟩, ⟨by repeat (first | (with_reducible first | exact HB.out | apply below_alloc | apply pw_below_drewN | apply below_drew1) | exact HB.out)⟩⟩
                                          case rest =>
                                            clear HC43
                                            try clear c1
                                            try clear p1
                                            try clear q1
                                            try clear hx1
                                            try clear c2
                                            try clear p2
                                            try clear q2
                                            try clear hx2
                                            try clear hf2
                                            try clear c3
                                            try clear c4
                                            try clear c5
                                            try clear c6
                                            try clear c6b0
                                            try clear p6
                                            try clear c10
                                            try clear c12
                                            try clear c12b0
                                            try clear c12b1
                                            try clear c13
                                            try clear c13b0
                                            try clear c13b1
                                            try clear c16
                                            try clear p18
                                            try clear q18
                                            try clear hx18
                                            try clear c19
                                            try clear c20
                                            try clear c20b0
                                            try clear c22
                                            try clear c22b0
                                            try clear c23
                                            try clear c23b0
                                            try clear p24
                                            try clear q24
                                            try clear hx24
                                            try clear hf24
                                            try clear c28
                                            try clear c28b0
                                            try clear c30
                                            try clear c31
                                            try clear c31b0
                                            try clear c33
                                            try clear c37
                                            try clear c38
                                            try clear c38b0
                                            try clear c38b1
                                            try clear c40
                                            try clear c40b0
                                            try clear c41
                                            try clear c41b0
                                            try clear c42
                                            try clear c44
                                            try clear c44b0
                                            try clear c46
                                            try clear c46b0
                                            try clear c47
                                            try clear c47b0
                                            try clear hx183_0
                                            try clear hx184_0
                                            try clear hx24_0
                                            try clear p1
                                            try clear p18
                                            try clear p183
                                            try clear p184
                                            try clear p2
                                            try clear p24
                                            try clear p6
                                            try clear q1
                                            try clear q18
                                            try clear q183
                                            try clear q184
                                            try clear q2
                                            try clear q24
                                            obtain ⟨kq, x14_42, rfl, HA, HJ42, HO_8, HO_9, HB⟩ := hcut
                                            cases kq with
                                            | zero => exact absurd HA.out (by simp [colophonref27_Best.j5])
                                            | succ kj42 =>
                                              have H := HA.out
                                              clear HA
                                              simp only [colophonref27_Best.j5] at H
                                              have HC49 := Aside0.mk H
                                              clear H
                                              go_upto_region 19 with (fail)
                                              go_cut [114] (fun v114 wc => ∃ (kq : Nat) (x114_48 : Bool), v114 = .bool x114_48 ∧ Aside0 (colophonref27_Best.j6 kq l0 a1 (l0.length : Int) x8_4 x9_4 x10_2 x11_4 x14_42 x114_48 = some (r1, r2, r3)) ∧ Aside0 (kq ≤ kj42) ∧ Aside0 (Kd.R (Kd.int .i64) 3 wc w.heap.size (fun k_ => some k_ ≠ (v176 : Value).ownBlock) (.slice (some ⟨go24, 0, none⟩) x8_4.length co24) x8_4) ∧ Aside0 (Kd.R (Kd.int .i64) 3 wc w.heap.size (fun k_ => some k_ ≠ ((.slice (some ⟨go24, 0, none⟩) x8_4.length co24) : Value).ownBlock) v176 x9_4) ∧ Aside0 (Below w.heap.size w wc))
                                              case first =>
                                                have H := HC49.out
                                                clear HC49
                                                try clear hji21w
                                                obtain ⟨ji50, hji50⟩ : ∃ j_ : Int, (wrap64 (x10_2 + 1)) = j_ := ⟨_, rfl⟩
                                                replace H : (if 0 ≤ (ji50) then (if (ji50) < (x8_4.length : Int) then (if (rd x8_4 (ji50)) < 0 then (colophonref27_Best.j6 kj42 l0 a1 (l0.length : Int) x8_4 x9_4 x10_2 x11_4 x14_42 true) else (if (ji50) < (x9_4.length : Int) then (colophonref27_Best.j6 kj42 l0 a1 (l0.length : Int) x8_4 x9_4 x10_2 x11_4 x14_42 (decide (x14_42 < (rd x9_4 (ji50))))) else (none))) else (none)) else (none)) = some (r1, r2, r3) := by first | (rw [hji50] at H; exact H) | (simp only [hji50] at H ⊢; exact H)
                                                have hji50w : (IntKind.i64.wrap (x10_2 + 1)) = ji50 := (i64_w _).trans hji50
                                                by_cases c51 : 0 ≤ (ji50)
                                                · rw [if_pos c51] at H
                                                  have c51b0 : decide (0 ≤ (ji50)) = true := decide_eq_true c51
                                                  clear c51
                                                  (first | rw [c51b0] | (simp only [i64_w, i32_w]; rw [c51b0]) | skip)
                                                  by_cases c52 : (ji50) < (x8_4.length : Int)
                                                  · rw [if_pos c52] at H
                                                    have c52b0 : decide ((ji50) < (x8_4.length : Int)) = true := decide_eq_true c52
                                                    clear c52
                                                    by_cases c53 : (rd x8_4 (ji50)) < 0
                                                    · rw [if_pos c53] at H
                                                      have c53b0 : decide ((rd x8_4 (ji50)) < 0) = true := decide_eq_true c53
                                                      clear c53
                                                      have H' := Aside0.mk H
                                                      clear H
                                                      have p185 : 0 ≤ ((ji50) : Int) := of_decide_eq_true (by first | (with_reducible assumption) | assumption)
                                                      have q185 : (ji50) < (x8_4.length : Int) := of_decide_eq_true (by first | (with_reducible assumption) | assumption)
                                                      obtain ⟨ad185, e185, hx185_0⟩ := Kd.at_int (Kd.R_reads' HO_8.out).2.2 (ji50) p185 q185
                                                      obtain rfl : (⟨go24, 0, none⟩ : Addr) = ad185 := (by injection e185)
                                                      (first | simp only [add_plain] at hx185_0 | simp only [add_at] at hx185_0 | simp only [Addr.add, Nat.zero_add] at hx185_0 | skip)
                                                      replace p185 := eq_true p185
                                                      replace q185 := eq_true q185
                                                      go_wp2
                                                      go_meet
                                                      case rel => exact ⟨_, (true), (by first | rfl | (simp; done) | (simp [*]; done)), H', ⟨by have := HJ2.out; have := HK2.out; have := HJ24.out; have := HK4.out; have := HJ34.out; have := HJ42.out; first | omega | exact Nat.le_refl _⟩, ⟨by (try simp only [hl8_24]); (try simp only [hl8_4]); (with_reducible repeat (first | apply Kd.R_alloc | apply Kd.R_drewN | apply Kd.R_drew)); exact HO_8.out⟩, ⟨by (try simp only [hl8_24]); (try simp only [hl8_4]); (with_reducible repeat (first | apply Kd.R_alloc | apply Kd.R_drewN | apply Kd.R_drew)); exact HO_9.out⟩, ⟨by repeat (first | (with_reducible first | exact HB.out | apply below_alloc | apply pw_below_drewN | apply below_drew1) | exact HB.out)⟩⟩
                                                    · rw [if_neg c53] at H
                                                      have c53b0 : decide ((rd x8_4 (ji50)) < 0) = false := decide_eq_false c53
                                                      clear c53
                                                      by_cases c54 : (ji50) < (x9_4.length : Int)
                                                      · rw [if_pos c54] at H
                                                        have c54b0 : decide ((ji50) < (x9_4.length : Int)) = true := decide_eq_true c54
                                                        clear c54
                                                        have H' := Aside0.mk H
                                                        clear H
                                                        have p185 : 0 ≤ ((ji50) : Int) := of_decide_eq_true (by first | (with_reducible assumption) | assumption)
                                                        have q185 : (ji50) < (x8_4.length : Int) := of_decide_eq_true (by first | (with_reducible assumption) | assumption)
                                                        obtain ⟨ad185, e185, hx185_0⟩ := Kd.at_int (Kd.R_reads' HO_8.out).2.2 (ji50) p185 q185
                                                        obtain rfl : (⟨go24, 0, none⟩ : Addr) = ad185 := (by injection e185)
                                                        (first | simp only [add_plain] at hx185_0 | simp only [add_at] at hx185_0 | simp only [Addr.add, Nat.zero_add] at hx185_0 | skip)
                                                        replace p185 := eq_true p185
                                                        replace q185 := eq_true q185
                                                        obtain ⟨Ao55, co55, eo55⟩ := Kd.R_slice HO_9.out
                                                        subst eo55
                                                        have p186 : 0 ≤ ((ji50) : Int) := of_decide_eq_true (by first | (with_reducible assumption) | assumption)
                                                        have q186 : (ji50) < (x9_4.length : Int) := of_decide_eq_true (by first | (with_reducible assumption) | assumption)
                                                        obtain ⟨ad186, e186, hx186_0⟩ := Kd.at_int (Kd.R_reads' HO_9.out).2.2 (ji50) p186 q186
                                                        cases e186
                                                        replace p186 := eq_true p186
                                                        replace q186 := eq_true q186
                                                        go_wp2
                                                        go_meet
                                                        case rel => exact ⟨_, (decide (x14_42 < (rd x9_4 (ji50)))), (by first | rfl | (simp; done) | (simp only [← hji50] <;> (first | rfl | simp)) | (simp [*]; done)), H', ⟨by have := HJ2.out; have := HK2.out; have := HJ24.out; have := HK4.out; have := HJ34.out; have := HJ42.out; first | omega | exact Nat.le_refl _⟩, ⟨by (try simp only [hl8_24]); (try simp only [hl8_4]); (with_reducible repeat (first | apply Kd.R_alloc | apply Kd.R_drewN | apply Kd.R_drew)); exact HO_8.out⟩, ⟨by (try simp only [hl8_24]); (try simp only [hl8_4]); (with_reducible repeat (first | apply Kd.R_alloc | apply Kd.R_drewN | apply Kd.R_drew)); exact HO_9.out⟩, ⟨by repeat (first | (with_reducible first | exact HB.out | apply below_alloc | apply pw_below_drewN | apply below_drew1) | exact HB.out)⟩⟩
                                                      · rw [if_neg c54] at H
                                                        exact absurd H (by simp)
                                                  · rw [if_neg c52] at H
                                                    exact absurd H (by simp)
                                                · rw [if_neg c51] at H
                                                  exact absurd H (by simp)
                                              case rest =>
                                                clear HC49
                                                try clear c1
                                                try clear p1
                                                try clear q1
                                                try clear hx1
                                                try clear c2
                                                try clear p2
                                                try clear q2
                                                try clear hx2
                                                try clear hf2
                                                try clear c3
                                                try clear c4
                                                try clear c5
                                                try clear c6
                                                try clear c6b0
                                                try clear p6
                                                try clear c10
                                                try clear c12
                                                try clear c12b0
                                                try clear c12b1
                                                try clear c13
                                                try clear c13b0
                                                try clear c13b1
                                                try clear c16
                                                try clear p18
                                                try clear q18
                                                try clear hx18
                                                try clear c19
                                                try clear c20
                                                try clear c20b0
                                                try clear c22
                                                try clear c22b0
                                                try clear c23
                                                try clear c23b0
                                                try clear p24
                                                try clear q24
                                                try clear hx24
                                                try clear hf24
                                                try clear c28
                                                try clear c28b0
                                                try clear c30
                                                try clear c31
                                                try clear c31b0
                                                try clear c33
                                                try clear c37
                                                try clear c38
                                                try clear c38b0
                                                try clear c38b1
                                                try clear c40
                                                try clear c40b0
                                                try clear c41
                                                try clear c41b0
                                                try clear c42
                                                try clear c44
                                                try clear c44b0
                                                try clear c46
                                                try clear c46b0
                                                try clear c47
                                                try clear c47b0
                                                try clear c51
                                                try clear c51b0
                                                try clear c52
                                                try clear c52b0
                                                try clear c53
                                                try clear c53b0
                                                try clear c54
                                                try clear c54b0
                                                try clear hx183_0
                                                try clear hx184_0
                                                try clear hx185_0
                                                try clear hx186_0
                                                try clear hx24_0
                                                try clear p1
                                                try clear p18
                                                try clear p183
                                                try clear p184
                                                try clear p185
                                                try clear p186
                                                try clear p2
                                                try clear p24
                                                try clear p6
                                                try clear q1
                                                try clear q18
                                                try clear q183
                                                try clear q184
                                                try clear q185
                                                try clear q186
                                                try clear q2
                                                try clear q24
                                                obtain ⟨kq, x114_48, rfl, HA, HJ48, HO_8, HO_9, HB⟩ := hcut
                                                cases kq with
                                                | zero => exact absurd HA.out (by simp [colophonref27_Best.j6])
                                                | succ kj48 =>
                                                  have H := HA.out
                                                  clear HA
                                                  simp only [colophonref27_Best.j6] at H
                                                  by_cases c56 : x114_48 = true
                                                  · subst c56
                                                    have H1 : (if 0 ≤ (wrap64 (x10_2 + 1)) then (if (wrap64 (x10_2 + 1)) < (x8_4.length : Int) then ((some (x8_4.set ((wrap64 (x10_2 + 1)) : Int).toNat x11_4 : List Int)).bind fun y187 => (if (wrap64 (x10_2 + 1)) < (x9_4.length : Int) then ((some (x9_4.set ((wrap64 (x10_2 + 1)) : Int).toNat x14_42 : List Int)).bind fun y188 => (if 0 ≤ x11_4 then (if x11_4 < (l0.length : Int) then ((colophonref27_forced.f ((rd_T43 l0 x11_4).f0) ((rd_T43 l0 x11_4).f1) ((rd_T43 l0 x11_4).f2) ((rd_T43 l0 x11_4).f3)).bind fun t190 => (if t190 = true then (colophonref27_Best.l0 kj48 l0 a1 (l0.length : Int) y187 y188 (wrap64 (x10_2 - 1))) else (colophonref27_Best.l1 kj48 l0 a1 (l0.length : Int) y187 y188 x10_2 (wrap64 (x11_4 + 1))))) else (none)) else (none))) else (none))) else (none)) else (none)) = some (r1, r2, r3) := by rw [if_pos rfl] at H; exact H
                                                    clear H
                                                    have H := H1
                                                    clear H1
                                                    try clear hji21w
                                                    try clear hji50w
                                                    obtain ⟨ji57, hji57⟩ : ∃ j_ : Int, (wrap64 (x10_2 + 1)) = j_ := ⟨_, rfl⟩
                                                    replace H : (if 0 ≤ (ji57) then (if (ji57) < (x8_4.length : Int) then ((some (x8_4.set ((ji57) : Int).toNat x11_4 : List Int)).bind fun y187 => (if (ji57) < (x9_4.length : Int) then ((some (x9_4.set ((ji57) : Int).toNat x14_42 : List Int)).bind fun y188 => (if 0 ≤ x11_4 then (if x11_4 < (l0.length : Int) then ((colophonref27_forced.f ((rd_T43 l0 x11_4).f0) ((rd_T43 l0 x11_4).f1) ((rd_T43 l0 x11_4).f2) ((rd_T43 l0 x11_4).f3)).bind fun t190 => (if t190 = true then (colophonref27_Best.l0 kj48 l0 a1 (l0.length : Int) y187 y188 (wrap64 (x10_2 - 1))) else (colophonref27_Best.l1 kj48 l0 a1 (l0.length : Int) y187 y188 x10_2 (wrap64 (x11_4 + 1))))) else (none)) else (none))) else (none))) else (none)) else (none)) = some (r1, r2, r3) := by first | (rw [hji57] at H; exact H) | (simp only [hji57] at H ⊢; exact H)
                                                    have hji57w : (IntKind.i64.wrap (x10_2 + 1)) = ji57 := (i64_w _).trans hji57
                                                    by_cases c58 : 0 ≤ (ji57)
                                                    · rw [if_pos c58] at H
                                                      have c58b0 : decide (0 ≤ (ji57)) = true := decide_eq_true c58
                                                      clear c58
                                                      by_cases c59 : (ji57) < (x8_4.length : Int)
                                                      · rw [if_pos c59] at H
                                                        have c59b0 : decide ((ji57) < (x8_4.length : Int)) = true := decide_eq_true c59
                                                        clear c59
                                                        obtain ⟨y187, hy187⟩ : ∃ y_ : List Int, y_ = (x8_4.set ((ji57) : Int).toNat x11_4) := ⟨_, rfl⟩
                                                        replace H : (if (ji57) < (x9_4.length : Int) then ((some (x9_4.set ((ji57) : Int).toNat x14_42 : List Int)).bind fun y188 => (if 0 ≤ x11_4 then (if x11_4 < (l0.length : Int) then ((colophonref27_forced.f ((rd_T43 l0 x11_4).f0) ((rd_T43 l0 x11_4).f1) ((rd_T43 l0 x11_4).f2) ((rd_T43 l0 x11_4).f3)).bind fun t190 => (if t190 = true then (colophonref27_Best.l0 kj48 l0 a1 (l0.length : Int) y187 y188 (wrap64 (x10_2 - 1))) else (colophonref27_Best.l1 kj48 l0 a1 (l0.length : Int) y187 y188 x10_2 (wrap64 (x11_4 + 1))))) else (none)) else (none))) else (none)) = some (r1, r2, r3) := by first | (rw [hy187]; with_reducible exact H) | (have H2_ := (Option.bind_some _ _).symm.trans H; rw [hy187]; with_reducible exact H2_) | (have H2_ := (Option.bind_some _ _).symm.trans H; with_reducible exact H2_) | with_reducible exact H | (rw [hy187]; exact H) | exact H
                                                        have Ny187 := Aside0.mk hy187
                                                        clear hy187
                                                        by_cases c61 : (ji57) < (x9_4.length : Int)
                                                        · rw [if_pos c61] at H
                                                          have c61b0 : decide ((ji57) < (x9_4.length : Int)) = true := decide_eq_true c61
                                                          clear c61
                                                          obtain ⟨y188, hy188⟩ : ∃ y_ : List Int, y_ = (x9_4.set ((ji57) : Int).toNat x14_42) := ⟨_, rfl⟩
                                                          replace H : (if 0 ≤ x11_4 then (if x11_4 < (l0.length : Int) then ((colophonref27_forced.f ((rd_T43 l0 x11_4).f0) ((rd_T43 l0 x11_4).f1) ((rd_T43 l0 x11_4).f2) ((rd_T43 l0 x11_4).f3)).bind fun t190 => (if t190 = true then (colophonref27_Best.l0 kj48 l0 a1 (l0.length : Int) y187 y188 (wrap64 (x10_2 - 1))) else (colophonref27_Best.l1 kj48 l0 a1 (l0.length : Int) y187 y188 x10_2 (wrap64 (x11_4 + 1))))) else (none)) else (none)) = some (r1, r2, r3) := by first | (rw [hy188]; with_reducible exact H) | (have H2_ := (Option.bind_some _ _).symm.trans H; rw [hy188]; with_reducible exact H2_) | (have H2_ := (Option.bind_some _ _).symm.trans H; with_reducible exact H2_) | with_reducible exact H | (rw [hy188]; exact H) | exact H
                                                          have Ny188 := Aside0.mk hy188
                                                          clear hy188
                                                          by_cases c63 : 0 ≤ x11_4
                                                          · rw [if_pos c63] at H
                                                            have c63b0 : decide (0 ≤ x11_4) = true := decide_eq_true c63
                                                            clear c63
                                                            by_cases c64 : x11_4 < (l0.length : Int)
                                                            · rw [if_pos c64] at H
                                                              have c64b0 : decide (x11_4 < (l0.length : Int)) = true := decide_eq_true c64
                                                              clear c64
                                                              replace H := Option.bind_eq_some_iff.mp H
                                                              obtain ⟨t190, A650, H⟩ := H
                                                              replace H : (if t190 = true then (colophonref27_Best.l0 kj48 l0 a1 (l0.length : Int) y187 y188 (wrap64 (x10_2 - 1))) else (colophonref27_Best.l1 kj48 l0 a1 (l0.length : Int) y187 y188 x10_2 (wrap64 (x11_4 + 1)))) = some (r1, r2, r3) := H
                                                              have A65 := Aside0.mk A650
                                                              clear A650
                                                              by_cases c66 : t190 = true
                                                              · subst c66
                                                                have H1 : (colophonref27_Best.l0 kj48 l0 a1 (l0.length : Int) y187 y188 (wrap64 (x10_2 - 1))) = some (r1, r2, r3) := by rw [if_pos rfl] at H; exact H
                                                                clear H
                                                                have H := H1
                                                                clear H1
                                                                have H' := Aside0.mk H
                                                                clear H
                                                                have p60 : 0 ≤ ((ji57) : Int) := of_decide_eq_true (by first | (with_reducible assumption) | assumption)
                                                                have q60 : ((ji57) : Int) < ((x8_4.length : Int) : Int) := of_decide_eq_true (by first | (with_reducible assumption) | assumption)
                                                                obtain ⟨hx60_0, hf60_0⟩ := Kd.R_celln 0 HO_8.out ((ji57) : Int) p60 q60
                                                                replace p60 := eq_true p60
                                                                replace q60 := eq_true q60
                                                                have HP67 := Kd.R_putg HO_8.out ((ji57) : Int) x11_4
                                                                go_wp2_with (first | ((with_reducible refine gate_store (t := 3) (p := 123) rfl ?_); refine store_event (t := 3) (p := 123) (v := ?vo_w68) (w1 := (wc.setCell ⟨go24, ((ji57) : Int).toNat, none⟩ (.int .i64 x11_4))) ?hg ?ho ?hn ?hr ?_; (case ho => rfl); (case hg => rfl); (case hn => rfl); (case hr => first | (go_simp; done) | (go_simp; rfl)); intro w68 hw; have hg : wc.grownBy w68 (some go24) := (by rw [hw]; exact HP67.2); have hp_ : Kd.R (Kd.int .i64) 3 w68 w.heap.size (fun k_ => some k_ ≠ (v176 : Value).ownBlock) (.slice (some ⟨go24, 0, none⟩) x8_4.length co24) y187 := (by rw [hw, Ny187.out]; exact HP67.1); clear HP67; have n0_ := Aside0.mk (hp_); have n1_ := Aside0.mk (Kd.R_after (v := (.slice (some ⟨go24, 0, none⟩) x8_4.length co24)) (v1 := (.slice (some ⟨go24, 0, none⟩) x8_4.length co24)) (ok := (fun _ => True)) (by (with_reducible repeat (first | apply Kd.R_alloc | apply Kd.R_drewN | apply Kd.R_drew)); exact Kd.R_mono HO_9.out (fun _ hk => ⟨trivial, hk⟩)) hg (.inl rfl)); have n2_ := Aside0.mk ((by rw [hw]; exact below_set (HB.out) GB24.out : Below w.heap.size w w68)); clear HO_8; clear HO_9; clear HB; have HO_8 := n0_; have HO_9 := n1_; have HB := n2_; clear n0_ n1_ n2_; clear hg hw hp_; have p62 : 0 ≤ ((ji57) : Int) := of_decide_eq_true (by first | (with_reducible assumption) | assumption); have q62 : ((ji57) : Int) < ((x9_4.length : Int) : Int) := of_decide_eq_true (by first | (with_reducible assumption) | assumption); obtain ⟨go62, co62, eo62, gb62, gl62, cl62, HG62⟩ := Kd.R_form HO_9.out (by omega); (first | cases eo62 | (injection eo62 with ea_ en_ ec_; (first | subst ea_ | (injection ea_ with ea_; subst ea_)); subst ec_; clear en_)); have GB62 := Aside0.mk gb62; have GG62 := Aside0.mk HG62; clear gb62 gl62 HG62; obtain ⟨hx62_0, hf62_0⟩ := Kd.R_celln 0 HO_9.out ((ji57) : Int) p62 q62; replace p62 := eq_true p62; replace q62 := eq_true q62; have n_ := Aside0.mk (Kd.R_mono (ok' := (fun k_ => some k_ ≠ (.slice (some ⟨go24, 0, none⟩) x8_4.length co24 : Value).ownBlock)) HO_9.out (fun k_ hk => hk.2)); clear HO_9; have HO_9 := n_; clear n_; obtain ⟨hy69_, hz69_⟩ := Kd.R_celln 0 HO_9.out ((ji57) : Int) (of_decide_eq_true (by first | (with_reducible assumption) | assumption)) (of_decide_eq_true (by first | (with_reducible assumption) | assumption)); have HP69 := Kd.R_putg HO_9.out ((ji57) : Int) x14_42) | ((with_reducible refine gate_store (t := 3) (p := 124) rfl ?_); refine store_event (t := 3) (p := 124) (v := ?vo_w70) (w1 := (w68.setCell ⟨go62, ((ji57) : Int).toNat, none⟩ (.int .i64 x14_42))) ?hg ?ho ?hn ?hr ?_; (case ho => rfl); (case hg => rfl); (case hn => rfl); (case hr => first | (go_simp; done) | (go_simp; rfl)); intro w70 hw; have hg : w68.grownBy w70 (some go62) := (by rw [hw]; exact HP69.2); have hp_ : Kd.R (Kd.int .i64) 3 w70 w.heap.size (fun k_ => some k_ ≠ (.slice (some ⟨go24, 0, none⟩) x8_4.length co24 : Value).ownBlock) (.slice (some ⟨go62, 0, none⟩) x9_4.length co62) y188 := (by rw [hw, Ny188.out]; exact HP69.1); clear HP69; have n0_ := Aside0.mk (Kd.R_after (v := (.slice (some ⟨go62, 0, none⟩) x9_4.length co62)) (v1 := (.slice (some ⟨go62, 0, none⟩) x9_4.length co62)) (ok := (fun _ => True)) (by (with_reducible repeat (first | apply Kd.R_alloc | apply Kd.R_drewN | apply Kd.R_drew)); exact Kd.R_mono HO_8.out (fun _ hk => ⟨trivial, hk⟩)) hg (.inl rfl)); have n1_ := Aside0.mk (hp_); have n2_ := Aside0.mk ((by rw [hw]; exact below_set (HB.out) GB62.out : Below w.heap.size w w70)); clear HO_8; clear HO_9; clear HB; have HO_8 := n0_; have HO_9 := n1_; have HB := n2_; clear n0_ n1_ n2_; clear hg hw hp_; have p189 : 0 ≤ (x11_4 : Int) := of_decide_eq_true (by first | (with_reducible assumption) | assumption); have q189 : x11_4 < (l0.length : Int) := of_decide_eq_true (by first | (with_reducible assumption) | assumption); obtain ⟨ad189, e189, hx189_0, hx189_1, hx189_2, hx189_3⟩ := at_T43 HR0.out x11_4 p189 q189; cases e189; replace hx189_0 := (HB.out.cell (World.block_lt_of_cell? w _ hx189_0)).trans hx189_0; replace hx189_1 := (HB.out.cell (World.block_lt_of_cell? w _ hx189_1)).trans hx189_1; replace hx189_2 := (HB.out.cell (World.block_lt_of_cell? w _ hx189_2)).trans hx189_2; replace hx189_3 := (HB.out.cell (World.block_lt_of_cell? w _ hx189_3)).trans hx189_3; replace p189 := eq_true p189; replace q189 := eq_true q189) | ((with_reducible refine gate_callee (f := 42) rfl ?_); refine goesL_ (some 129) rfl rfl Try.func42 (by kernel_rfl) rfl #[.agg #[.int .i64 ((rd_T43 l0 x11_4).f0), .int .i64 ((rd_T43 l0 x11_4).f1), .int .i64 ((rd_T43 l0 x11_4).f2), .int .i64 ((rd_T43 l0 x11_4).f3)]] rfl (by (try simp only [List.map_toArray, List.map_cons, List.map_nil]); first | done | rfl | (simp only [List.length_drop, List.length_take]; rfl)) ?_; (with_reducible refine (colophonref27_forced.calls ((rd_T43 l0 x11_4).f0) ((rd_T43 l0 x11_4).f1) ((rd_T43 l0 x11_4).f2) ((rd_T43 l0 x11_4).f3) true _ A65.out).mono ?_); rintro e w71 ⟨rfl, hb⟩; refine ⟨_, rfl, ?_⟩; have n0_ := Aside0.mk (Kd.R_below (by (with_reducible repeat (first | apply Kd.R_alloc | apply Kd.R_drewN | apply Kd.R_drew)); exact HO_8.out) hb); have n1_ := Aside0.mk (Kd.R_below (by (with_reducible repeat (first | apply Kd.R_alloc | apply Kd.R_drewN | apply Kd.R_drew)); exact HO_9.out) hb); have n2_ := Aside0.mk (below_step (by repeat (first | (with_reducible first | exact HB.out | apply below_alloc | apply pw_below_drewN | apply below_drew1) | exact HB.out)) hb); clear HO_8; clear HO_9; clear HB; have HO_8 := n0_; have HO_9 := n1_; have HB := n2_; clear n0_ n1_ n2_; (try clear hb); (try clear hb2); (try clear hk); (try clear hi)))
                                                                (try simp only [← hl8_24, ← hl8_4])
                                                                go_roundg kj48
                                                                case measure => have := HJ2.out; have := HK2.out; have := HJ24.out; have := HK4.out; have := HJ34.out; have := HJ42.out; have := HJ48.out; omega
                                                                case rel => exact ⟨(y187), (y188), (wrap64 (x10_2 - 1)), (by first | rfl | (simp; done) | (simp [*]; done)), H', ⟨by have := HJ2.out; have := HK2.out; have := HJ24.out; have := HK4.out; have := HJ34.out; have := HJ42.out; have := HJ48.out; omega⟩, ⟨by (try simp only [hl8_24]); (try simp only [hl8_4]); (with_reducible repeat (first | apply Kd.R_alloc | apply Kd.R_drewN | apply Kd.R_drew)); exact Kd.R_mono HO_8.out (fun _ hk => hk.2)⟩, ⟨by (try simp only [hl8_24]); (try simp only [hl8_4]); (with_reducible repeat (first | apply Kd.R_alloc | apply Kd.R_drewN | apply Kd.R_drew)); exact HO_9.out⟩, ⟨by repeat (first | (with_reducible first | exact HB.out | apply below_alloc | apply pw_below_drewN | apply below_drew1) | exact HB.out)⟩⟩
                                                              · replace c66 := Bool.eq_false_iff.mpr c66
                                                                subst c66
                                                                have H1 : (colophonref27_Best.l1 kj48 l0 a1 (l0.length : Int) y187 y188 x10_2 (wrap64 (x11_4 + 1))) = some (r1, r2, r3) := by rw [if_neg (show ¬ (false = true) by decide)] at H; exact H
                                                                clear H
                                                                have H := H1
                                                                clear H1
                                                                have H' := Aside0.mk H
                                                                clear H
                                                                have p60 : 0 ≤ ((ji57) : Int) := of_decide_eq_true (by first | (with_reducible assumption) | assumption)
                                                                have q60 : ((ji57) : Int) < ((x8_4.length : Int) : Int) := of_decide_eq_true (by first | (with_reducible assumption) | assumption)
                                                                obtain ⟨hx60_0, hf60_0⟩ := Kd.R_celln 0 HO_8.out ((ji57) : Int) p60 q60
                                                                replace p60 := eq_true p60
                                                                replace q60 := eq_true q60
                                                                have HP72 := Kd.R_putg HO_8.out ((ji57) : Int) x11_4
                                                                go_wp2_with (first | ((with_reducible refine gate_store (t := 3) (p := 123) rfl ?_); refine store_event (t := 3) (p := 123) (v := ?vo_w73) (w1 := (wc.setCell ⟨go24, ((ji57) : Int).toNat, none⟩ (.int .i64 x11_4))) ?hg ?ho ?hn ?hr ?_; (case ho => rfl); (case hg => rfl); (case hn => rfl); (case hr => first | (go_simp; done) | (go_simp; rfl)); intro w73 hw; have hg : wc.grownBy w73 (some go24) := (by rw [hw]; exact HP72.2); have hp_ : Kd.R (Kd.int .i64) 3 w73 w.heap.size (fun k_ => some k_ ≠ (v176 : Value).ownBlock) (.slice (some ⟨go24, 0, none⟩) x8_4.length co24) y187 := (by rw [hw, Ny187.out]; exact HP72.1); clear HP72; have n0_ := Aside0.mk (hp_); have n1_ := Aside0.mk (Kd.R_after (v := (.slice (some ⟨go24, 0, none⟩) x8_4.length co24)) (v1 := (.slice (some ⟨go24, 0, none⟩) x8_4.length co24)) (ok := (fun _ => True)) (by (with_reducible repeat (first | apply Kd.R_alloc | apply Kd.R_drewN | apply Kd.R_drew)); exact Kd.R_mono HO_9.out (fun _ hk => ⟨trivial, hk⟩)) hg (.inl rfl)); have n2_ := Aside0.mk ((by rw [hw]; exact below_set (HB.out) GB24.out : Below w.heap.size w w73)); clear HO_8; clear HO_9; clear HB; have HO_8 := n0_; have HO_9 := n1_; have HB := n2_; clear n0_ n1_ n2_; clear hg hw hp_; have p62 : 0 ≤ ((ji57) : Int) := of_decide_eq_true (by first | (with_reducible assumption) | assumption); have q62 : ((ji57) : Int) < ((x9_4.length : Int) : Int) := of_decide_eq_true (by first | (with_reducible assumption) | assumption); obtain ⟨go62, co62, eo62, gb62, gl62, cl62, HG62⟩ := Kd.R_form HO_9.out (by omega); (first | cases eo62 | (injection eo62 with ea_ en_ ec_; (first | subst ea_ | (injection ea_ with ea_; subst ea_)); subst ec_; clear en_)); have GB62 := Aside0.mk gb62; have GG62 := Aside0.mk HG62; clear gb62 gl62 HG62; obtain ⟨hx62_0, hf62_0⟩ := Kd.R_celln 0 HO_9.out ((ji57) : Int) p62 q62; replace p62 := eq_true p62; replace q62 := eq_true q62; have n_ := Aside0.mk (Kd.R_mono (ok' := (fun k_ => some k_ ≠ (.slice (some ⟨go24, 0, none⟩) x8_4.length co24 : Value).ownBlock)) HO_9.out (fun k_ hk => hk.2)); clear HO_9; have HO_9 := n_; clear n_; obtain ⟨hy74_, hz74_⟩ := Kd.R_celln 0 HO_9.out ((ji57) : Int) (of_decide_eq_true (by first | (with_reducible assumption) | assumption)) (of_decide_eq_true (by first | (with_reducible assumption) | assumption)); have HP74 := Kd.R_putg HO_9.out ((ji57) : Int) x14_42) | ((with_reducible refine gate_store (t := 3) (p := 124) rfl ?_); refine store_event (t := 3) (p := 124) (v := ?vo_w75) (w1 := (w73.setCell ⟨go62, ((ji57) : Int).toNat, none⟩ (.int .i64 x14_42))) ?hg ?ho ?hn ?hr ?_; (case ho => rfl); (case hg => rfl); (case hn => rfl); (case hr => first | (go_simp; done) | (go_simp; rfl)); intro w75 hw; have hg : w73.grownBy w75 (some go62) := (by rw [hw]; exact HP74.2); have hp_ : Kd.R (Kd.int .i64) 3 w75 w.heap.size (fun k_ => some k_ ≠ (.slice (some ⟨go24, 0, none⟩) x8_4.length co24 : Value).ownBlock) (.slice (some ⟨go62, 0, none⟩) x9_4.length co62) y188 := (by rw [hw, Ny188.out]; exact HP74.1); clear HP74; have n0_ := Aside0.mk (Kd.R_after (v := (.slice (some ⟨go62, 0, none⟩) x9_4.length co62)) (v1 := (.slice (some ⟨go62, 0, none⟩) x9_4.length co62)) (ok := (fun _ => True)) (by (with_reducible repeat (first | apply Kd.R_alloc | apply Kd.R_drewN | apply Kd.R_drew)); exact Kd.R_mono HO_8.out (fun _ hk => ⟨trivial, hk⟩)) hg (.inl rfl)); have n1_ := Aside0.mk (hp_); have n2_ := Aside0.mk ((by rw [hw]; exact below_set (HB.out) GB62.out : Below w.heap.size w w75)); clear HO_8; clear HO_9; clear HB; have HO_8 := n0_; have HO_9 := n1_; have HB := n2_; clear n0_ n1_ n2_; clear hg hw hp_; have p189 : 0 ≤ (x11_4 : Int) := of_decide_eq_true (by first | (with_reducible assumption) | assumption); have q189 : x11_4 < (l0.length : Int) := of_decide_eq_true (by first | (with_reducible assumption) | assumption); obtain ⟨ad189, e189, hx189_0, hx189_1, hx189_2, hx189_3⟩ := at_T43 HR0.out x11_4 p189 q189; cases e189; replace hx189_0 := (HB.out.cell (World.block_lt_of_cell? w _ hx189_0)).trans hx189_0; replace hx189_1 := (HB.out.cell (World.block_lt_of_cell? w _ hx189_1)).trans hx189_1; replace hx189_2 := (HB.out.cell (World.block_lt_of_cell? w _ hx189_2)).trans hx189_2; replace hx189_3 := (HB.out.cell (World.block_lt_of_cell? w _ hx189_3)).trans hx189_3; replace p189 := eq_true p189; replace q189 := eq_true q189) | ((with_reducible refine gate_callee (f := 42) rfl ?_); refine goesL_ (some 129) rfl rfl Try.func42 (by kernel_rfl) rfl #[.agg #[.int .i64 ((rd_T43 l0 x11_4).f0), .int .i64 ((rd_T43 l0 x11_4).f1), .int .i64 ((rd_T43 l0 x11_4).f2), .int .i64 ((rd_T43 l0 x11_4).f3)]] rfl (by (try simp only [List.map_toArray, List.map_cons, List.map_nil]); first | done | rfl | (simp only [List.length_drop, List.length_take]; rfl)) ?_; (with_reducible refine (colophonref27_forced.calls ((rd_T43 l0 x11_4).f0) ((rd_T43 l0 x11_4).f1) ((rd_T43 l0 x11_4).f2) ((rd_T43 l0 x11_4).f3) false _ A65.out).mono ?_); rintro e w76 ⟨rfl, hb⟩; refine ⟨_, rfl, ?_⟩; have n0_ := Aside0.mk (Kd.R_below (by (with_reducible repeat (first | apply Kd.R_alloc | apply Kd.R_drewN | apply Kd.R_drew)); exact HO_8.out) hb); have n1_ := Aside0.mk (Kd.R_below (by (with_reducible repeat (first | apply Kd.R_alloc | apply Kd.R_drewN | apply Kd.R_drew)); exact HO_9.out) hb); have n2_ := Aside0.mk (below_step (by repeat (first | (with_reducible first | exact HB.out | apply below_alloc | apply pw_below_drewN | apply below_drew1) | exact HB.out)) hb); clear HO_8; clear HO_9; clear HB; have HO_8 := n0_; have HO_9 := n1_; have HB := n2_; clear n0_ n1_ n2_; (try clear hb); (try clear hb2); (try clear hk); (try clear hi)))
                                                                (try simp only [← hl8_4])
                                                                go_roundg kj48
                                                                case measure => have := HJ2.out; have := HK2.out; have := HJ24.out; have := HK4.out; have := HJ34.out; have := HJ42.out; have := HJ48.out; omega
                                                                case rel => exact ⟨(y187), (y188), (wrap64 (x11_4 + 1)), (by first | rfl | (simp; done) | (simp [*]; done)), H', ⟨by have := HJ2.out; have := HK2.out; have := HJ24.out; have := HK4.out; have := HJ34.out; have := HJ42.out; have := HJ48.out; omega⟩, ⟨by (try simp only [hl8_24]); (try simp only [hl8_4]); (with_reducible repeat (first | apply Kd.R_alloc | apply Kd.R_drewN | apply Kd.R_drew)); exact Kd.R_mono HO_8.out (fun _ hk => hk.2)⟩, ⟨by (try simp only [hl8_24]); (try simp only [hl8_4]); (with_reducible repeat (first | apply Kd.R_alloc | apply Kd.R_drewN | apply Kd.R_drew)); exact HO_9.out⟩, ⟨by repeat (first | (with_reducible first | exact HB.out | apply below_alloc | apply pw_below_drewN | apply below_drew1) | exact HB.out)⟩⟩
                                                            · rw [if_neg c64] at H
                                                              exact absurd H (by simp)
                                                          · rw [if_neg c63] at H
                                                            exact absurd H (by simp)
                                                        · rw [if_neg c61] at H
                                                          exact absurd H (by simp)
                                                      · rw [if_neg c59] at H
                                                        exact absurd H (by simp)
                                                    · rw [if_neg c58] at H
                                                      exact absurd H (by simp)
                                                  · replace c56 := Bool.eq_false_iff.mpr c56
                                                    subst c56
                                                    have H1 : (if 0 ≤ x11_4 then (if x11_4 < (l0.length : Int) then ((colophonref27_forced.f ((rd_T43 l0 x11_4).f0) ((rd_T43 l0 x11_4).f1) ((rd_T43 l0 x11_4).f2) ((rd_T43 l0 x11_4).f3)).bind fun t192 => (if t192 = true then (colophonref27_Best.l0 kj48 l0 a1 (l0.length : Int) x8_4 x9_4 (wrap64 (x10_2 - 1))) else (colophonref27_Best.l1 kj48 l0 a1 (l0.length : Int) x8_4 x9_4 x10_2 (wrap64 (x11_4 + 1))))) else (none)) else (none)) = some (r1, r2, r3) := by rw [if_neg (show ¬ (false = true) by decide)] at H; exact H
                                                    clear H
                                                    have H := H1
                                                    clear H1
                                                    by_cases c77 : 0 ≤ x11_4
                                                    · rw [if_pos c77] at H
                                                      have c77b0 : decide (0 ≤ x11_4) = true := decide_eq_true c77
                                                      clear c77
                                                      by_cases c78 : x11_4 < (l0.length : Int)
                                                      · rw [if_pos c78] at H
                                                        have c78b0 : decide (x11_4 < (l0.length : Int)) = true := decide_eq_true c78
                                                        clear c78
                                                        replace H := Option.bind_eq_some_iff.mp H
                                                        obtain ⟨t192, A790, H⟩ := H
                                                        replace H : (if t192 = true then (colophonref27_Best.l0 kj48 l0 a1 (l0.length : Int) x8_4 x9_4 (wrap64 (x10_2 - 1))) else (colophonref27_Best.l1 kj48 l0 a1 (l0.length : Int) x8_4 x9_4 x10_2 (wrap64 (x11_4 + 1)))) = some (r1, r2, r3) := H
                                                        have A79 := Aside0.mk A790
                                                        clear A790
                                                        by_cases c80 : t192 = true
                                                        · subst c80
                                                          have H1 : (colophonref27_Best.l0 kj48 l0 a1 (l0.length : Int) x8_4 x9_4 (wrap64 (x10_2 - 1))) = some (r1, r2, r3) := by rw [if_pos rfl] at H; exact H
                                                          clear H
                                                          have H := H1
                                                          clear H1
                                                          have H' := Aside0.mk H
                                                          clear H
                                                          have p191 : 0 ≤ (x11_4 : Int) := of_decide_eq_true (by first | (with_reducible assumption) | assumption)
                                                          have q191 : x11_4 < (l0.length : Int) := of_decide_eq_true (by first | (with_reducible assumption) | assumption)
                                                          obtain ⟨ad191, e191, hx191_0, hx191_1, hx191_2, hx191_3⟩ := at_T43 HR0.out x11_4 p191 q191
                                                          cases e191
                                                          replace hx191_0 := (HB.out.cell (World.block_lt_of_cell? w _ hx191_0)).trans hx191_0
                                                          replace hx191_1 := (HB.out.cell (World.block_lt_of_cell? w _ hx191_1)).trans hx191_1
                                                          replace hx191_2 := (HB.out.cell (World.block_lt_of_cell? w _ hx191_2)).trans hx191_2
                                                          replace hx191_3 := (HB.out.cell (World.block_lt_of_cell? w _ hx191_3)).trans hx191_3
                                                          replace p191 := eq_true p191
                                                          replace q191 := eq_true q191
                                                          go_wp2_with (first | ((with_reducible refine gate_callee (f := 42) rfl ?_); refine goesL_ (some 129) rfl rfl Try.func42 (by kernel_rfl) rfl #[.agg #[.int .i64 ((rd_T43 l0 x11_4).f0), .int .i64 ((rd_T43 l0 x11_4).f1), .int .i64 ((rd_T43 l0 x11_4).f2), .int .i64 ((rd_T43 l0 x11_4).f3)]] rfl (by (try simp only [List.map_toArray, List.map_cons, List.map_nil]); first | done | rfl | (simp only [List.length_drop, List.length_take]; rfl)) ?_; (with_reducible refine (colophonref27_forced.calls ((rd_T43 l0 x11_4).f0) ((rd_T43 l0 x11_4).f1) ((rd_T43 l0 x11_4).f2) ((rd_T43 l0 x11_4).f3) true _ A79.out).mono ?_); rintro e w81 ⟨rfl, hb⟩; refine ⟨_, rfl, ?_⟩; have n0_ := Aside0.mk (Kd.R_below (by (with_reducible repeat (first | apply Kd.R_alloc | apply Kd.R_drewN | apply Kd.R_drew)); exact HO_8.out) hb); have n1_ := Aside0.mk (Kd.R_below (by (with_reducible repeat (first | apply Kd.R_alloc | apply Kd.R_drewN | apply Kd.R_drew)); exact HO_9.out) hb); have n2_ := Aside0.mk (below_step (by repeat (first | (with_reducible first | exact HB.out | apply below_alloc | apply pw_below_drewN | apply below_drew1) | exact HB.out)) hb); clear HO_8; clear HO_9; clear HB; have HO_8 := n0_; have HO_9 := n1_; have HB := n2_; clear n0_ n1_ n2_; (try clear hb); (try clear hb2); (try clear hk); (try clear hi)))
                                                          (try simp only [← hl8_24, ← hl8_4])
                                                          go_roundg kj48
                                                          case measure => have := HJ2.out; have := HK2.out; have := HJ24.out; have := HK4.out; have := HJ34.out; have := HJ42.out; have := HJ48.out; omega
                                                          case rel => exact ⟨(x8_4), (x9_4), (wrap64 (x10_2 - 1)), (by first | rfl | (simp; done) | (simp [*]; done)), H', ⟨by have := HJ2.out; have := HK2.out; have := HJ24.out; have := HK4.out; have := HJ34.out; have := HJ42.out; have := HJ48.out; omega⟩, ⟨by (try simp only [hl8_24]); (try simp only [hl8_4]); (with_reducible repeat (first | apply Kd.R_alloc | apply Kd.R_drewN | apply Kd.R_drew)); exact HO_8.out⟩, ⟨by (try simp only [hl8_24]); (try simp only [hl8_4]); (with_reducible repeat (first | apply Kd.R_alloc | apply Kd.R_drewN | apply Kd.R_drew)); exact HO_9.out⟩, ⟨by repeat (first | (with_reducible first | exact HB.out | apply below_alloc | apply pw_below_drewN | apply below_drew1) | exact HB.out)⟩⟩
                                                        · replace c80 := Bool.eq_false_iff.mpr c80
                                                          subst c80
                                                          have H1 : (colophonref27_Best.l1 kj48 l0 a1 (l0.length : Int) x8_4 x9_4 x10_2 (wrap64 (x11_4 + 1))) = some (r1, r2, r3) := by rw [if_neg (show ¬ (false = true) by decide)] at H; exact H
                                                          clear H
                                                          have H := H1
                                                          clear H1
                                                          have H' := Aside0.mk H
                                                          clear H
                                                          have p191 : 0 ≤ (x11_4 : Int) := of_decide_eq_true (by first | (with_reducible assumption) | assumption)
                                                          have q191 : x11_4 < (l0.length : Int) := of_decide_eq_true (by first | (with_reducible assumption) | assumption)
                                                          obtain ⟨ad191, e191, hx191_0, hx191_1, hx191_2, hx191_3⟩ := at_T43 HR0.out x11_4 p191 q191
                                                          cases e191
                                                          replace hx191_0 := (HB.out.cell (World.block_lt_of_cell? w _ hx191_0)).trans hx191_0
                                                          replace hx191_1 := (HB.out.cell (World.block_lt_of_cell? w _ hx191_1)).trans hx191_1
                                                          replace hx191_2 := (HB.out.cell (World.block_lt_of_cell? w _ hx191_2)).trans hx191_2
                                                          replace hx191_3 := (HB.out.cell (World.block_lt_of_cell? w _ hx191_3)).trans hx191_3
                                                          replace p191 := eq_true p191
                                                          replace q191 := eq_true q191
                                                          go_wp2_with (first | ((with_reducible refine gate_callee (f := 42) rfl ?_); refine goesL_ (some 129) rfl rfl Try.func42 (by kernel_rfl) rfl #[.agg #[.int .i64 ((rd_T43 l0 x11_4).f0), .int .i64 ((rd_T43 l0 x11_4).f1), .int .i64 ((rd_T43 l0 x11_4).f2), .int .i64 ((rd_T43 l0 x11_4).f3)]] rfl (by (try simp only [List.map_toArray, List.map_cons, List.map_nil]); first | done | rfl | (simp only [List.length_drop, List.length_take]; rfl)) ?_; (with_reducible refine (colophonref27_forced.calls ((rd_T43 l0 x11_4).f0) ((rd_T43 l0 x11_4).f1) ((rd_T43 l0 x11_4).f2) ((rd_T43 l0 x11_4).f3) false _ A79.out).mono ?_); rintro e w82 ⟨rfl, hb⟩; refine ⟨_, rfl, ?_⟩; have n0_ := Aside0.mk (Kd.R_below (by (with_reducible repeat (first | apply Kd.R_alloc | apply Kd.R_drewN | apply Kd.R_drew)); exact HO_8.out) hb); have n1_ := Aside0.mk (Kd.R_below (by (with_reducible repeat (first | apply Kd.R_alloc | apply Kd.R_drewN | apply Kd.R_drew)); exact HO_9.out) hb); have n2_ := Aside0.mk (below_step (by repeat (first | (with_reducible first | exact HB.out | apply below_alloc | apply pw_below_drewN | apply below_drew1) | exact HB.out)) hb); clear HO_8; clear HO_9; clear HB; have HO_8 := n0_; have HO_9 := n1_; have HB := n2_; clear n0_ n1_ n2_; (try clear hb); (try clear hb2); (try clear hk); (try clear hi)))
                                                          (try simp only [← hl8_4])
                                                          go_roundg kj48
                                                          case measure => have := HJ2.out; have := HK2.out; have := HJ24.out; have := HK4.out; have := HJ34.out; have := HJ42.out; have := HJ48.out; omega
                                                          case rel => exact ⟨(x8_4), (x9_4), (wrap64 (x11_4 + 1)), (by first | rfl | (simp; done) | (simp [*]; done)), H', ⟨by have := HJ2.out; have := HK2.out; have := HJ24.out; have := HK4.out; have := HJ34.out; have := HJ42.out; have := HJ48.out; omega⟩, ⟨by (try simp only [hl8_24]); (try simp only [hl8_4]); (with_reducible repeat (first | apply Kd.R_alloc | apply Kd.R_drewN | apply Kd.R_drew)); exact HO_8.out⟩, ⟨by (try simp only [hl8_24]); (try simp only [hl8_4]); (with_reducible repeat (first | apply Kd.R_alloc | apply Kd.R_drewN | apply Kd.R_drew)); exact HO_9.out⟩, ⟨by repeat (first | (with_reducible first | exact HB.out | apply below_alloc | apply pw_below_drewN | apply below_drew1) | exact HB.out)⟩⟩
                                                      · rw [if_neg c78] at H
                                                        exact absurd H (by simp)
                                                    · rw [if_neg c77] at H
                                                      exact absurd H (by simp)
                                        · replace c42 := Bool.eq_false_iff.mpr c42
                                          subst c42
                                          have H1 : (if 0 ≤ x11_4 then (if x11_4 < (l0.length : Int) then ((colophonref27_forced.f ((rd_T43 l0 x11_4).f0) ((rd_T43 l0 x11_4).f1) ((rd_T43 l0 x11_4).f2) ((rd_T43 l0 x11_4).f3)).bind fun t194 => (if t194 = true then (colophonref27_Best.l0 kj34 l0 a1 (l0.length : Int) x8_4 x9_4 (wrap64 (x10_2 - 1))) else (colophonref27_Best.l1 kj34 l0 a1 (l0.length : Int) x8_4 x9_4 x10_2 (wrap64 (x11_4 + 1))))) else (none)) else (none)) = some (r1, r2, r3) := by rw [if_neg (show ¬ (false = true) by decide)] at H; exact H
                                          clear H
                                          have H := H1
                                          clear H1
                                          by_cases c83 : 0 ≤ x11_4
                                          · rw [if_pos c83] at H
                                            have c83b0 : decide (0 ≤ x11_4) = true := decide_eq_true c83
                                            clear c83
                                            by_cases c84 : x11_4 < (l0.length : Int)
                                            · rw [if_pos c84] at H
                                              have c84b0 : decide (x11_4 < (l0.length : Int)) = true := decide_eq_true c84
                                              clear c84
                                              replace H := Option.bind_eq_some_iff.mp H
                                              obtain ⟨t194, A850, H⟩ := H
                                              replace H : (if t194 = true then (colophonref27_Best.l0 kj34 l0 a1 (l0.length : Int) x8_4 x9_4 (wrap64 (x10_2 - 1))) else (colophonref27_Best.l1 kj34 l0 a1 (l0.length : Int) x8_4 x9_4 x10_2 (wrap64 (x11_4 + 1)))) = some (r1, r2, r3) := H
                                              have A85 := Aside0.mk A850
                                              clear A850
                                              by_cases c86 : t194 = true
                                              · subst c86
                                                have H1 : (colophonref27_Best.l0 kj34 l0 a1 (l0.length : Int) x8_4 x9_4 (wrap64 (x10_2 - 1))) = some (r1, r2, r3) := by rw [if_pos rfl] at H; exact H
                                                clear H
                                                have H := H1
                                                clear H1
                                                have H' := Aside0.mk H
                                                clear H
                                                have p193 : 0 ≤ (x11_4 : Int) := of_decide_eq_true (by first | (with_reducible assumption) | assumption)
                                                have q193 : x11_4 < (l0.length : Int) := of_decide_eq_true (by first | (with_reducible assumption) | assumption)
                                                obtain ⟨ad193, e193, hx193_0, hx193_1, hx193_2, hx193_3⟩ := at_T43 HR0.out x11_4 p193 q193
                                                cases e193
                                                replace hx193_0 := (HB.out.cell (World.block_lt_of_cell? w _ hx193_0)).trans hx193_0
                                                replace hx193_1 := (HB.out.cell (World.block_lt_of_cell? w _ hx193_1)).trans hx193_1
                                                replace hx193_2 := (HB.out.cell (World.block_lt_of_cell? w _ hx193_2)).trans hx193_2
                                                replace hx193_3 := (HB.out.cell (World.block_lt_of_cell? w _ hx193_3)).trans hx193_3
                                                replace p193 := eq_true p193
                                                replace q193 := eq_true q193
                                                go_wp2_with (first | ((with_reducible refine gate_callee (f := 42) rfl ?_); refine goesL_ (some 129) rfl rfl Try.func42 (by kernel_rfl) rfl #[.agg #[.int .i64 ((rd_T43 l0 x11_4).f0), .int .i64 ((rd_T43 l0 x11_4).f1), .int .i64 ((rd_T43 l0 x11_4).f2), .int .i64 ((rd_T43 l0 x11_4).f3)]] rfl (by (try simp only [List.map_toArray, List.map_cons, List.map_nil]); first | done | rfl | (simp only [List.length_drop, List.length_take]; rfl)) ?_; (with_reducible refine (colophonref27_forced.calls ((rd_T43 l0 x11_4).f0) ((rd_T43 l0 x11_4).f1) ((rd_T43 l0 x11_4).f2) ((rd_T43 l0 x11_4).f3) true _ A85.out).mono ?_); rintro e w87 ⟨rfl, hb⟩; refine ⟨_, rfl, ?_⟩; have n0_ := Aside0.mk (Kd.R_below (by (with_reducible repeat (first | apply Kd.R_alloc | apply Kd.R_drewN | apply Kd.R_drew)); exact HO_8.out) hb); have n1_ := Aside0.mk (Kd.R_below (by (with_reducible repeat (first | apply Kd.R_alloc | apply Kd.R_drewN | apply Kd.R_drew)); exact HO_9.out) hb); have n2_ := Aside0.mk (below_step (by repeat (first | (with_reducible first | exact HB.out | apply below_alloc | apply pw_below_drewN | apply below_drew1) | exact HB.out)) hb); clear HO_8; clear HO_9; clear HB; have HO_8 := n0_; have HO_9 := n1_; have HB := n2_; clear n0_ n1_ n2_; (try clear hb); (try clear hb2); (try clear hk); (try clear hi)))
                                                (try simp only [← hl8_24, ← hl8_4])
                                                go_roundg kj34
                                                case measure => have := HJ2.out; have := HK2.out; have := HJ24.out; have := HK4.out; have := HJ34.out; omega
                                                case rel => exact ⟨(x8_4), (x9_4), (wrap64 (x10_2 - 1)), (by first | rfl | (simp; done) | (simp [*]; done)), H', ⟨by have := HJ2.out; have := HK2.out; have := HJ24.out; have := HK4.out; have := HJ34.out; omega⟩, ⟨by (try simp only [hl8_24]); (try simp only [hl8_4]); (with_reducible repeat (first | apply Kd.R_alloc | apply Kd.R_drewN | apply Kd.R_drew)); exact HO_8.out⟩, ⟨by (try simp only [hl8_24]); (try simp only [hl8_4]); (with_reducible repeat (first | apply Kd.R_alloc | apply Kd.R_drewN | apply Kd.R_drew)); exact HO_9.out⟩, ⟨by repeat (first | (with_reducible first | exact HB.out | apply below_alloc | apply pw_below_drewN | apply below_drew1) | exact HB.out)⟩⟩
                                              · replace c86 := Bool.eq_false_iff.mpr c86
                                                subst c86
                                                have H1 : (colophonref27_Best.l1 kj34 l0 a1 (l0.length : Int) x8_4 x9_4 x10_2 (wrap64 (x11_4 + 1))) = some (r1, r2, r3) := by rw [if_neg (show ¬ (false = true) by decide)] at H; exact H
                                                clear H
                                                have H := H1
                                                clear H1
                                                have H' := Aside0.mk H
                                                clear H
                                                have p193 : 0 ≤ (x11_4 : Int) := of_decide_eq_true (by first | (with_reducible assumption) | assumption)
                                                have q193 : x11_4 < (l0.length : Int) := of_decide_eq_true (by first | (with_reducible assumption) | assumption)
                                                obtain ⟨ad193, e193, hx193_0, hx193_1, hx193_2, hx193_3⟩ := at_T43 HR0.out x11_4 p193 q193
                                                cases e193
                                                replace hx193_0 := (HB.out.cell (World.block_lt_of_cell? w _ hx193_0)).trans hx193_0
                                                replace hx193_1 := (HB.out.cell (World.block_lt_of_cell? w _ hx193_1)).trans hx193_1
                                                replace hx193_2 := (HB.out.cell (World.block_lt_of_cell? w _ hx193_2)).trans hx193_2
                                                replace hx193_3 := (HB.out.cell (World.block_lt_of_cell? w _ hx193_3)).trans hx193_3
                                                replace p193 := eq_true p193
                                                replace q193 := eq_true q193
                                                go_wp2_with (first | ((with_reducible refine gate_callee (f := 42) rfl ?_); refine goesL_ (some 129) rfl rfl Try.func42 (by kernel_rfl) rfl #[.agg #[.int .i64 ((rd_T43 l0 x11_4).f0), .int .i64 ((rd_T43 l0 x11_4).f1), .int .i64 ((rd_T43 l0 x11_4).f2), .int .i64 ((rd_T43 l0 x11_4).f3)]] rfl (by (try simp only [List.map_toArray, List.map_cons, List.map_nil]); first | done | rfl | (simp only [List.length_drop, List.length_take]; rfl)) ?_; (with_reducible refine (colophonref27_forced.calls ((rd_T43 l0 x11_4).f0) ((rd_T43 l0 x11_4).f1) ((rd_T43 l0 x11_4).f2) ((rd_T43 l0 x11_4).f3) false _ A85.out).mono ?_); rintro e w88 ⟨rfl, hb⟩; refine ⟨_, rfl, ?_⟩; have n0_ := Aside0.mk (Kd.R_below (by (with_reducible repeat (first | apply Kd.R_alloc | apply Kd.R_drewN | apply Kd.R_drew)); exact HO_8.out) hb); have n1_ := Aside0.mk (Kd.R_below (by (with_reducible repeat (first | apply Kd.R_alloc | apply Kd.R_drewN | apply Kd.R_drew)); exact HO_9.out) hb); have n2_ := Aside0.mk (below_step (by repeat (first | (with_reducible first | exact HB.out | apply below_alloc | apply pw_below_drewN | apply below_drew1) | exact HB.out)) hb); clear HO_8; clear HO_9; clear HB; have HO_8 := n0_; have HO_9 := n1_; have HB := n2_; clear n0_ n1_ n2_; (try clear hb); (try clear hb2); (try clear hk); (try clear hi)))
                                                (try simp only [← hl8_4])
                                                go_roundg kj34
                                                case measure => have := HJ2.out; have := HK2.out; have := HJ24.out; have := HK4.out; have := HJ34.out; omega
                                                case rel => exact ⟨(x8_4), (x9_4), (wrap64 (x11_4 + 1)), (by first | rfl | (simp; done) | (simp [*]; done)), H', ⟨by have := HJ2.out; have := HK2.out; have := HJ24.out; have := HK4.out; have := HJ34.out; omega⟩, ⟨by (try simp only [hl8_24]); (try simp only [hl8_4]); (with_reducible repeat (first | apply Kd.R_alloc | apply Kd.R_drewN | apply Kd.R_drew)); exact HO_8.out⟩, ⟨by (try simp only [hl8_24]); (try simp only [hl8_4]); (with_reducible repeat (first | apply Kd.R_alloc | apply Kd.R_drewN | apply Kd.R_drew)); exact HO_9.out⟩, ⟨by repeat (first | (with_reducible first | exact HB.out | apply below_alloc | apply pw_below_drewN | apply below_drew1) | exact HB.out)⟩⟩
                                            · rw [if_neg c84] at H
                                              exact absurd H (by simp)
                                          · rw [if_neg c83] at H
                                            exact absurd H (by simp)
                                  · replace c33 := Bool.eq_false_iff.mpr c33
                                    subst c33
                                    have H1 : (colophonref27_Best.l1 k4 l0 a1 (l0.length : Int) x8_4 x9_4 x10_2 (wrap64 (x11_4 + 1))) = some (r1, r2, r3) := by rw [if_neg (show ¬ (false = true) by decide)] at H; exact H
                                    clear H
                                    have H := H1
                                    clear H1
                                    have H' := Aside0.mk H
                                    clear H
                                    go_wp2_with (first | ((with_reducible refine gate_callee (f := 40) rfl ?_); refine goesL_ (some 63) rfl rfl Try.func40 (by kernel_rfl) rfl #[.slice A0 l0.length c0, .int .i64 x11_4] rfl (by (try simp only [List.map_toArray, List.map_cons, List.map_nil]); first | done | rfl | (simp only [List.length_drop, List.length_take]; rfl)) ?_; (with_reducible refine (colophonref27_legal.calls _ _ l0 x11_4 false _ ?side1 ?side2 A32.out).mono ?_); (case side1 => repeat (first | exact (Kd.C_below HR0.out HB.out) | (with_reducible refine Kd.C_alloc ?_ _) | (with_reducible refine Kd.C_drewN ?_ _) | (with_reducible refine Kd.C_drew ?_))); (case side2 => exact HC0.out); rintro e w' ⟨rfl, ⟨nd, rfl⟩⟩; refine ⟨_, rfl, ?_⟩))
                                    (try simp only [← hl8_4])
                                    go_roundg k4
                                    case measure => have := HJ2.out; have := HK2.out; have := HJ24.out; have := HK4.out; omega
                                    case rel => exact ⟨(x8_4), (x9_4), (wrap64 (x11_4 + 1)), (by first | rfl | (simp; done) | (simp [*]; done)), H', ⟨by have := HJ2.out; have := HK2.out; have := HJ24.out; have := HK4.out; omega⟩, ⟨by (try simp only [hl8_24]); (try simp only [hl8_4]); (with_reducible repeat (first | apply Kd.R_alloc | apply Kd.R_drewN | apply Kd.R_drew)); exact HO_8.out⟩, ⟨by (try simp only [hl8_24]); (try simp only [hl8_4]); (with_reducible repeat (first | apply Kd.R_alloc | apply Kd.R_drewN | apply Kd.R_drew)); exact HO_9.out⟩, ⟨by repeat (first | (with_reducible first | exact HB.out | apply below_alloc | apply pw_below_drewN | apply below_drew1) | exact HB.out)⟩⟩
                                · rw [if_neg c31] at H
                                  have c31b0 : decide (x11_4 < (l0.length : Int)) = false := decide_eq_false c31
                                  clear c31
                                  have H' := Aside0.mk H
                                  clear H
                                  go_wp2
                                  (try simp only [← hl8_24, ← hl8_4])
                                  go_roundg k4
                                  case measure => have := HJ2.out; have := HK2.out; have := HJ24.out; have := HK4.out; omega
                                  case rel => exact ⟨(x8_4), (x9_4), (wrap64 (x10_2 - 1)), (by first | rfl | (simp; done) | (simp [*]; done)), H', ⟨by have := HJ2.out; have := HK2.out; have := HJ24.out; have := HK4.out; omega⟩, ⟨by (try simp only [hl8_24]); (try simp only [hl8_4]); (with_reducible repeat (first | apply Kd.R_alloc | apply Kd.R_drewN | apply Kd.R_drew)); exact HO_8.out⟩, ⟨by (try simp only [hl8_24]); (try simp only [hl8_4]); (with_reducible repeat (first | apply Kd.R_alloc | apply Kd.R_drewN | apply Kd.R_drew)); exact HO_9.out⟩, ⟨by repeat (first | (with_reducible first | exact HB.out | apply below_alloc | apply pw_below_drewN | apply below_drew1) | exact HB.out)⟩⟩
                    · rw [if_neg c23] at H
                      exact absurd H (by simp)
                  · rw [if_neg c22] at H
                    exact absurd H (by simp)
                · rw [if_neg c20] at H
                  have c20b0 : decide ((-1) ≤ x10_2) = false := decide_eq_false c20
                  clear c20
                  by_cases c89 : 0 < (x8_2.length : Int)
                  · rw [if_pos c89] at H
                    have c89b0 : decide (0 < (x8_2.length : Int)) = true := decide_eq_true c89
                    have c89b1 : decide (0 < x8_2.length) = true := decide_eq_true (by omega)
                    clear c89
                    by_cases c90 : (rd x8_2 0) < 0
                    · rw [if_pos c90] at H
                      have c90b0 : decide ((rd x8_2 0) < 0) = true := decide_eq_true c90
                      clear c90
                      simp only [Option.some.injEq, Prod.mk.injEq] at H
                      obtain ⟨rfl, rfl, rfl⟩ := H
                      obtain ⟨Ao91, co91, eo91⟩ := Kd.R_slice HO_8.out
                      subst eo91
                      have p195 : 0 ≤ (0 : Int) := (by omega)
                      have q195 : 0 < (x8_2.length : Int) := of_decide_eq_true (by first | (with_reducible assumption) | assumption)
                      obtain ⟨ad195, e195, hx195_0⟩ := Kd.at_int (Kd.R_reads' HO_8.out).2.2 0 p195 q195
                      cases e195
                      have qi195 : (0 < x8_2.length) = True := eq_true (by omega)
                      (try rw [show ((0 : Int)).toNat = 0 from rfl] at hx195_0)
                      (try rw [Addr.add_zero'] at hx195_0)
                      replace p195 := eq_true p195
                      replace q195 := eq_true q195
                      go_wp2
                      go_ret3
                      exact ⟨_, by first | rfl | (simp [errW_none, errW_some] <;> rfl) | (simp only [← hji11]; first | rfl | (simp [errW_none, errW_some] <;> rfl)) | (simp [*, errW_none, errW_some] <;> rfl), by first | exact Kd.R_nil _ _ _ _ _ | exact Kd.N_nil _ _ _ _ _ | exact Kd.V_nil _ _ _ _ _ | exact Kd.Q_nil _ _ _ _ _ | exact Kd.S_nil _ _ _ _ _, by repeat (first | (with_reducible first | exact HB.out | apply below_alloc | apply pw_below_drewN | apply below_drew1) | exact HB.out)⟩
                    · rw [if_neg c90] at H
                      have c90b0 : decide ((rd x8_2 0) < 0) = false := decide_eq_false c90
                      clear c90
                      have H' := Aside0.mk H
                      clear H
                      obtain ⟨Ao92, co92, eo92⟩ := Kd.R_slice HO_8.out
                      subst eo92
                      have p195 : 0 ≤ (0 : Int) := (by omega)
                      have q195 : 0 < (x8_2.length : Int) := of_decide_eq_true (by first | (with_reducible assumption) | assumption)
                      obtain ⟨ad195, e195, hx195_0⟩ := Kd.at_int (Kd.R_reads' HO_8.out).2.2 0 p195 q195
                      cases e195
                      have qi195 : (0 < x8_2.length) = True := eq_true (by omega)
                      (try rw [show ((0 : Int)).toNat = 0 from rfl] at hx195_0)
                      (try rw [Addr.add_zero'] at hx195_0)
                      replace p195 := eq_true p195
                      replace q195 := eq_true q195
                      go_wp2
                      go_loopg [15, 16] k2 (fun kq v15 v16 w' => ∃ (x15_3 : List Int) (x16_3 : Int), v16 = .int .i64 x16_3 ∧ Aside0 (colophonref27_Best.l2 kq (l0.length : Int) x8_2 x9_2 x15_3 x16_3 = some (r1, r2, r3)) ∧ Aside0 (kq ≤ k2) ∧ Aside0 (Kd.R (Kd.int .i64) 3 w' w.heap.size (fun k_ => some k_ ≠ (v176 : Value).ownBlock ∧ some k_ ≠ (v15 : Value).ownBlock) (.slice (some ad195) x8_2.length co92) x8_2) ∧ Aside0 (Kd.R (Kd.int .i64) 3 w' w.heap.size (fun k_ => some k_ ≠ ((.slice (some ad195) x8_2.length co92) : Value).ownBlock ∧ some k_ ≠ (v15 : Value).ownBlock) v176 x9_2) ∧ Aside0 (Kd.R (Kd.int .i64) 3 w' w.heap.size (fun k_ => some k_ ≠ ((.slice (some ad195) x8_2.length co92) : Value).ownBlock ∧ some k_ ≠ (v176 : Value).ownBlock) v15 x15_3) ∧ Aside0 (Below w.heap.size w w'))
                      case atStart => exact ⟨(([] : List Int)), ((-1)), (by first | rfl | (simp; done) | (simp [*]; done)), H', ⟨Nat.le_refl _⟩, ⟨by (with_reducible repeat (first | apply Kd.R_alloc | apply Kd.R_drewN | apply Kd.R_drew)); exact Kd.R_mono HO_8.out (fun _ hk => ⟨hk, (by simp [Value.ownBlock])⟩)⟩, ⟨by (with_reducible repeat (first | apply Kd.R_alloc | apply Kd.R_drewN | apply Kd.R_drew)); exact Kd.R_mono HO_9.out (fun _ hk => ⟨hk, (by simp [Value.ownBlock])⟩)⟩, ⟨by first | exact Kd.R_nil _ _ _ _ _ | exact Kd.N_nil _ _ _ _ _ | exact Kd.V_nil _ _ _ _ _ | exact Kd.Q_nil _ _ _ _ _ | exact Kd.S_nil _ _ _ _ _⟩, ⟨by repeat (first | (with_reducible first | exact HB.out | apply below_alloc | apply pw_below_drewN | apply below_drew1) | exact HB.out)⟩⟩
                      case round =>
                        clear H'
                        try clear c1
                        try clear p1
                        try clear q1
                        try clear hx1
                        try clear qi1
                        try clear c2
                        try clear p2
                        try clear q2
                        try clear hx2
                        try clear hf2
                        try clear c3
                        try clear c4
                        try clear c5
                        try clear c6
                        try clear c6b0
                        try clear p6
                        try clear q6
                        try clear hx6
                        try clear hf6
                        try clear c7
                        try clear c8
                        try clear c9
                        try clear c10
                        try clear c12
                        try clear c12b0
                        try clear c12b1
                        try clear c13
                        try clear c13b0
                        try clear c13b1
                        try clear c16
                        try clear p18
                        try clear q18
                        try clear hx18
                        try clear c19
                        try clear p19
                        try clear q19
                        try clear hx19
                        try clear qi19
                        try clear c20
                        try clear c20b0
                        try clear c22
                        try clear c22b0
                        try clear c23
                        try clear c23b0
                        try clear p24
                        try clear q24
                        try clear hx24
                        try clear hf24
                        try clear c28
                        try clear c28b0
                        try clear c30
                        try clear c31
                        try clear c31b0
                        try clear c33
                        try clear c37
                        try clear c38
                        try clear c38b0
                        try clear c38b1
                        try clear c40
                        try clear c40b0
                        try clear c41
                        try clear c41b0
                        try clear c42
                        try clear c44
                        try clear c44b0
                        try clear c46
                        try clear c46b0
                        try clear c47
                        try clear c47b0
                        try clear c51
                        try clear c51b0
                        try clear c52
                        try clear c52b0
                        try clear c53
                        try clear c53b0
                        try clear c54
                        try clear c54b0
                        try clear c56
                        try clear c58
                        try clear c58b0
                        try clear c59
                        try clear c59b0
                        try clear p60
                        try clear q60
                        try clear hx60
                        try clear hf60
                        try clear c61
                        try clear c61b0
                        try clear p62
                        try clear q62
                        try clear hx62
                        try clear hf62
                        try clear c63
                        try clear c63b0
                        try clear c64
                        try clear c64b0
                        try clear p64
                        try clear c66
                        try clear c77
                        try clear c77b0
                        try clear c78
                        try clear c78b0
                        try clear c80
                        try clear c83
                        try clear c83b0
                        try clear c84
                        try clear c84b0
                        try clear c86
                        try clear c89
                        try clear c89b0
                        try clear c89b1
                        try clear c90
                        try clear c90b0
                        try clear hx183_0
                        try clear hx184_0
                        try clear hx185_0
                        try clear hx186_0
                        try clear hx189_0
                        try clear hx189_1
                        try clear hx189_2
                        try clear hx189_3
                        try clear hx191_0
                        try clear hx191_1
                        try clear hx191_2
                        try clear hx191_3
                        try clear hx193_0
                        try clear hx193_1
                        try clear hx193_2
                        try clear hx193_3
                        try clear hx195_0
                        try clear hx24_0
                        try clear hx60_0
                        try clear hx62_0
                        try clear p1
                        try clear p18
                        try clear p183
                        try clear p184
                        try clear p185
                        try clear p186
                        try clear p189
                        try clear p191
                        try clear p193
                        try clear p195
                        try clear p2
                        try clear p24
                        try clear p6
                        try clear p60
                        try clear p62
                        try clear q1
                        try clear q18
                        try clear q183
                        try clear q184
                        try clear q185
                        try clear q186
                        try clear q189
                        try clear q191
                        try clear q193
                        try clear q195
                        try clear q2
                        try clear q24
                        try clear q60
                        try clear q62
                        obtain ⟨x15_3, x16_3, rfl, HA, HK3, HO_8, HO_9, HO_15, HB⟩ := hrel
                        cases gk with
                        | zero => exact absurd HA.out (by simp [colophonref27_Best.l2])
                        | succ k3 =>
                          have H := HA.out
                          clear HA
                          simp only [colophonref27_Best.l2] at H
                          by_cases c93 : x16_3 = (wrap64 ((l0.length : Int) - 1))
                          · rw [if_pos c93] at H
                            have c93b0 : (x16_3 == (wrap64 ((l0.length : Int) - 1))) = true := beq_iff_eq.mpr c93
                            have c93b1 : (x16_3 != (wrap64 ((l0.length : Int) - 1))) = false := bne_eq_false_iff_eq.mpr c93
                            clear c93
                            by_cases c94 : 0 < (x9_2.length : Int)
                            · rw [if_pos c94] at H
                              have c94b0 : decide (0 < (x9_2.length : Int)) = true := decide_eq_true c94
                              have c94b1 : decide (0 < x9_2.length) = true := decide_eq_true (by omega)
                              clear c94
                              simp only [Option.some.injEq, Prod.mk.injEq] at H
                              obtain ⟨rfl, rfl, rfl⟩ := H
                              try go_wp2
                              have n0_ := Aside0.mk (Kd.R_drew HO_8.out)
                              have n1_ := Aside0.mk (Kd.R_drew HO_9.out)
                              have n2_ := Aside0.mk (Kd.R_drew HO_15.out)
                              have n3_ := Aside0.mk (below_drew1 HB.out)
                              clear HO_8
                              clear HO_9
                              clear HO_15
                              clear HB
                              have HO_8 := n0_
                              have HO_9 := n1_
                              have HO_15 := n2_
                              have HB := n3_
                              clear n0_ n1_ n2_ n3_
                              obtain ⟨Ao96, co96, eo96⟩ := Kd.R_slice HO_9.out
                              (first | subst eo96 | (injection eo96 with f1_ f2_ f3_; have f4_ := f1_.symm; have f5_ := f3_.symm; clear f1_ f2_ f3_; subst f4_; subst f5_))
                              have p196 : 0 ≤ (0 : Int) := (by omega)
                              have q196 : 0 < (x9_2.length : Int) := of_decide_eq_true (by first | (with_reducible assumption) | assumption)
                              obtain ⟨ad196, e196, hx196_0⟩ := Kd.at_int (Kd.R_reads' HO_9.out).2.2 0 p196 q196
                              cases e196
                              have qi196 : (0 < x9_2.length) = True := eq_true (by omega)
                              (try rw [show ((0 : Int)).toNat = 0 from rfl] at hx196_0)
                              (try rw [Addr.add_zero'] at hx196_0)
                              replace p196 := eq_true p196
                              replace q196 := eq_true q196
                              refine start_ (n := 7) (S := fun w' => w'.cell? ad196 = some (.int .i64 (rd x9_2 0))) (ds := []) #[false, false, false, false, false, false, false] (by kernel_rfl) rfl rfl (hx196_0) (fun hHeld => ?_)
                              generalize wr.drew = w95 at HO_8 HO_9 HO_15 HB hx196_0 hHeld ⊢
                              refine pure_ (i := 0) (N := some 147) (v := ?_) (a' := ?_) #[true, false, false, false, false, false, false] rfl rfl (by kernel_rfl) (fun _ _ _ h => h) (Or.inl ⟨by rfl, ?_⟩) ?_ ?_
                              rotate_left
                              · intro w'
                                go_simp
                                with_reducible rfl
                              rotate_left
                              · simp only [Act.put, List.setIfInBounds_toArray, List.set_cons_zero, List.set_cons_succ, i64_w, i32_w]
                                rfl
                              refine pure_ (i := 1) (N := some 148) (v := ?_) (a' := ?_) #[true, true, false, false, false, false, false] rfl rfl (by kernel_rfl) (fun _ _ _ h => h) (Or.inl ⟨by rfl, ?_⟩) ?_ ?_
                              rotate_left
                              · intro w'
                                go_simp
                                with_reducible rfl
                              rotate_left
                              · simp only [Act.put, List.setIfInBounds_toArray, List.set_cons_zero, List.set_cons_succ, i64_w, i32_w]
                                rfl
                              refine pure_ (i := 2) (N := some 149) (v := ?_) (a' := ?_) #[true, true, true, false, false, false, false] rfl rfl (by kernel_rfl) (fun _ _ _ h => h) (Or.inl ⟨by rfl, ?_⟩) ?_ ?_
                              rotate_left
                              · intro w'
                                go_simp
                                with_reducible rfl
                              rotate_left
                              · simp only [Act.put, List.setIfInBounds_toArray, List.set_cons_zero, List.set_cons_succ, i64_w, i32_w]
                                rfl
                              refine pure_ (i := 4) (N := some 4) (v := ?_) (a' := ?_) #[true, true, true, false, true, false, false] rfl rfl (by kernel_rfl) (fun _ _ _ h => h) (Or.inl ⟨by rfl, ?_⟩) ?_ ?_
                              rotate_left
                              · intro w'
                                go_simp
                                with_reducible rfl
                              rotate_left
                              · simp only [Act.put, List.setIfInBounds_toArray, List.set_cons_zero, List.set_cons_succ, i64_w, i32_w]
                                rfl
                              refine take_ (i := 3) (N := some 150) (v := ?_) (a' := ?_) #[true, true, true, true, true, false, false] rfl rfl (by kernel_rfl) (fun _ _ _ h => h) (Or.inl ⟨by rfl, ?_⟩) hHeld ?_ ?_
                              rotate_left
                              · intro w' s0
                                go_simp
                                with_reducible rfl
                              rotate_left
                              · simp only [Act.put, List.setIfInBounds_toArray, List.set_cons_zero, List.set_cons_succ, i64_w, i32_w]
                                rfl
                              refine pure_ (i := 5) (N := some 5) (v := ?_) (a' := ?_) #[true, true, true, true, true, true, false] rfl rfl (by kernel_rfl) (fun _ _ _ h => h) (Or.inl ⟨by rfl, ?_⟩) ?_ ?_
                              rotate_left
                              · intro w'
                                go_simp
                                with_reducible rfl
                              rotate_left
                              · simp only [Act.put, List.setIfInBounds_toArray, List.set_cons_zero, List.set_cons_succ, i64_w, i32_w]
                                rfl
                              refine pure_ (i := 6) (N := some 6) (v := ?_) (a' := ?_) #[true, true, true, true, true, true, true] rfl rfl (by kernel_rfl) (fun _ _ _ h => h) (Or.inl ⟨by rfl, ?_⟩) ?_ ?_
                              rotate_left
                              · intro w'
                                go_simp
                                with_reducible rfl
                              rotate_left
                              · simp only [Act.put, List.setIfInBounds_toArray, List.set_cons_zero, List.set_cons_succ, i64_w, i32_w]
                                rfl
                              refine done_ (by kernel_rfl) ?_
                              try go_wp2
                              go_ret3
                              exact ⟨_, by first | rfl | (simp [errW_none, errW_some] <;> rfl) | (simp only [← hji11]; first | rfl | (simp [errW_none, errW_some] <;> rfl)) | (simp [*, errW_none, errW_some] <;> rfl), by (with_reducible repeat (first | apply Kd.R_alloc | apply Kd.R_drewN | apply Kd.R_drew)); exact Kd.R_mono HO_15.out (fun _ hk => trivial), by repeat (first | (with_reducible first | exact HB.out | apply below_alloc | apply pw_below_drewN | apply below_drew1) | exact HB.out)⟩
                            · rw [if_neg c94] at H
                              exact absurd H (by simp)
                          · rw [if_neg c93] at H
                            have c93b0 : (x16_3 == (wrap64 ((l0.length : Int) - 1))) = false := beq_eq_false_iff_ne.mpr c93
                            have c93b1 : (x16_3 != (wrap64 ((l0.length : Int) - 1))) = true := bne_iff_ne.mpr c93
                            obtain ⟨ji97, hji97⟩ : ∃ j_ : Int, (wrap64 (x16_3 + 1)) = j_ := ⟨_, rfl⟩
                            replace H : (if 0 ≤ (ji97) then (if (ji97) < (x8_2.length : Int) then (if x15_3.length < 17592186044416 then (colophonref27_Best.l2 k3 (l0.length : Int) x8_2 x9_2 (x15_3 ++ [rd x8_2 (ji97)]) (rd x8_2 (ji97))) else (none)) else (none)) else (none)) = some (r1, r2, r3) := by first | (rw [hji97] at H; exact H) | (simp only [hji97] at H ⊢; exact H)
                            have hji97w : (IntKind.i64.wrap (x16_3 + 1)) = ji97 := (i64_w _).trans hji97
                            by_cases c98 : 0 ≤ (ji97)
                            · rw [if_pos c98] at H
                              have c98b0 : decide (0 ≤ (ji97)) = true := decide_eq_true c98
                              clear c98
                              by_cases c99 : (ji97) < (x8_2.length : Int)
                              · rw [if_pos c99] at H
                                have c99b0 : decide ((ji97) < (x8_2.length : Int)) = true := decide_eq_true c99
                                clear c99
                                by_cases c100 : x15_3.length < 17592186044416
                                · rw [if_pos c100] at H
                                  have LMc100 := Aside0.mk c100
                                  clear c100
                                  obtain ⟨y198, hy198⟩ : ∃ y_ : List Int, y_ = (x15_3 ++ [rd x8_2 (ji97)]) := ⟨_, rfl⟩
                                  replace H : (colophonref27_Best.l2 k3 (l0.length : Int) x8_2 x9_2 y198 (rd x8_2 (ji97))) = some (r1, r2, r3) := by first | (rw [hy198]; with_reducible exact H) | (have H2_ := (Option.bind_some _ _).symm.trans H; rw [hy198]; with_reducible exact H2_) | (have H2_ := (Option.bind_some _ _).symm.trans H; with_reducible exact H2_) | with_reducible exact H | (rw [hy198]; exact H) | exact H
                                  have Ny198 := Aside0.mk hy198
                                  clear hy198
                                  have H' := Aside0.mk H
                                  clear H
                                  have p197 : 0 ≤ ((ji97) : Int) := of_decide_eq_true (by first | (with_reducible assumption) | assumption)
                                  have q197 : (ji97) < (x8_2.length : Int) := of_decide_eq_true (by first | (with_reducible assumption) | assumption)
                                  obtain ⟨ad197, e197, hx197_0⟩ := Kd.at_int (Kd.R_reads' HO_8.out).2.2 (ji97) p197 q197
                                  obtain rfl : ad195 = ad197 := (by injection e197)
                                  replace p197 := eq_true p197
                                  replace q197 := eq_true q197
                                  go_wp2_with (first | ((with_reducible refine gate_builtin (b := .append) (xs := #[.tmp 143, .tmp 145]) rfl ?_); at_builtin; refine Kd.R_append (Kd.int .i64) (w0 := w) w.heap.size rfl (.tmp 143) (.tmp 145) 26 3 (.int .i64 0) 8 rfl Try.underlying26 info3 rfl (by decide) (by omega) u15 x15_3 (rd x8_2 (ji97)) [.int .i64 (rd x8_2 (ji97))] (fun k_ => some k_ ≠ (.slice (some ad195) x8_2.length co92 : Value).ownBlock ∧ some k_ ≠ (v176 : Value).ownBlock) (fun _ => False) rfl rfl ?aP (fun _ hk => hk.elim) ?aF ?aO ?aB ?aS ?aL ?_; (case aP => exact rfl); (case aB => exact (by repeat (first | (with_reducible first | exact HB.out | apply below_alloc | apply pw_below_drewN | apply below_drew1) | exact HB.out))); (case aF => exact (fun k_ hk => ⟨Kd.fresh' (Kd.R_lt (by (with_reducible repeat (first | apply Kd.R_alloc | apply Kd.R_drewN | apply Kd.R_drew)); exact HO_8.out)) k_ hk, Kd.fresh' (Kd.R_lt (by (with_reducible repeat (first | apply Kd.R_alloc | apply Kd.R_drewN | apply Kd.R_drew)); exact HO_9.out)) k_ hk⟩)); (case aO => exact (by (with_reducible repeat (first | apply Kd.R_alloc | apply Kd.R_drewN | apply Kd.R_drew)); exact HO_15.out)); (case aS => exact (below_size (by repeat (first | (with_reducible first | exact HB.out | apply below_alloc | apply pw_below_drewN | apply below_drew1) | exact HB.out)))); (case aL => have := LMc100.out; omega); intro v199 w101 ho hb hg hat; rw [← Ny198.out] at ho; have n0_ := Aside0.mk (Kd.R_after (ok := (fun k_ => some k_ ≠ (v176 : Value).ownBlock)) (by (with_reducible repeat (first | apply Kd.R_alloc | apply Kd.R_drewN | apply Kd.R_drew)); exact HO_8.out) hg hat); have n1_ := Aside0.mk (Kd.R_after (ok := (fun k_ => some k_ ≠ (.slice (some ad195) x8_2.length co92 : Value).ownBlock)) (by (with_reducible repeat (first | apply Kd.R_alloc | apply Kd.R_drewN | apply Kd.R_drew)); exact HO_9.out) hg hat); have n2_ := Aside0.mk (hb); have n3_ := Aside0.mk (ho); clear HO_8; clear HO_9; clear HB; clear HO_15; have HO_8 := n0_; have HO_9 := n1_; have HB := n2_; have HO200 := n3_; clear n0_ n1_ n2_ n3_; clear ho hb hg hat))
                                  go_roundg k3
                                  case measure => have := HJ2.out; have := HK2.out; have := HK3.out; omega
                                  case rel => exact ⟨(y198), (rd x8_2 (ji97)), (by first | rfl | (simp; done) | (simp only [← hji97] <;> (first | rfl | simp)) | (simp [*]; done)), H', ⟨by have := HJ2.out; have := HK2.out; have := HK3.out; omega⟩, ⟨by (with_reducible repeat (first | apply Kd.R_alloc | apply Kd.R_drewN | apply Kd.R_drew)); exact HO_8.out⟩, ⟨by (with_reducible repeat (first | apply Kd.R_alloc | apply Kd.R_drewN | apply Kd.R_drew)); exact HO_9.out⟩, ⟨by (with_reducible repeat (first | apply Kd.R_alloc | apply Kd.R_drewN | apply Kd.R_drew)); exact HO200.out⟩, ⟨by repeat (first | (with_reducible first | exact HB.out | apply below_alloc | apply pw_below_drewN | apply below_drew1) | exact HB.out)⟩⟩
                                · rw [if_neg c100] at H
                                  exact absurd H (by simp)
                              · rw [if_neg c99] at H
                                exact absurd H (by simp)
                            · rw [if_neg c98] at H
                              exact absurd H (by simp)
                  · rw [if_neg c89] at H
                    exact absurd H (by simp)
          · rw [if_neg c13] at H
            exact absurd H (by simp)
        · rw [if_neg c12] at H
          exact absurd H (by simp)

end Go.Proofs.Ytogjeababinnlaa.PPagesBest
