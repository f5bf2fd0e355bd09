/- A region in the round of a loop over an iterator (the wide fence): walked as everywhere; an append in such a round. No condition beyond what each theorem states. -/
import Derived.Test.YtenhfmlkdcfbbaaDoorWAll
import Derived.RangeFuncNested
import Derived.RangeFuncBound
import Derived.RangeFuncCalls
import Derived.RangeFuncLeaves
import Derived.RangeFuncBox
import Derived.Shelf.Abstract
import Derived.Shelf.RegionOpen
import Derived.WalkKit
import Derived.OwnWalkIn
import Derived.TacticsInMore
import Derived.LoopNIn
import Derived.LoopIn
import Derived.Maps.OwnIn
namespace Go.Proofs.YtenhfmlkdcfbbaaDoor.Rnd
open Go.RowKit Go.Shelf Go.Proofs.YtenhfmlkdcfbbaaDoorW.PrintWords Go.Proofs.YtenhfmlkdcfbbaaDoorW.PrintLast Go.Proofs.YtenhfmlkdcfbbaaDoorW.PrintMore
abbrev FR (l : Nat) : Fence := Fence.wide.inRound l
def noDefer (ops : Array Oper) : Bool := ops.toList.all fun o => match o.op with
 | .defer _ => false
 | _ => true
section
variable {P : Program} {ops : Array Oper} {Q : Exit → Act → World → Prop} {md : Region.Mode} {l n : Nat}
theorem rows_in {row : String} {args : Array Value} {w : World} {R : Value → World → Prop} (h : Rows P row args w R) : RowsIn (FR l) n P row args w R := by
 intro c cs _
 obtain ⟨v, w', hr, hs⟩ := h c cs
 exact ⟨v, w', hr, stepsIn_wide.2 hs⟩
theorem calls_in {f : FuncId} {args : Array Value} {w : World} {R : Ending → World → Prop} (h : Calls P f args w R) : CallsIn (FR l) n P f args w R := CallsIn.inRound l (callsIn_wide.2 h)
theorem op_in {o : Oper} {a : Act} {w : World} {K : Act → World → Prop} (hd : ∀ c, o.op ≠ .defer c) (h : o.wp P a w K Q) : o.wpIn (FR l) n P a w K Q := by
 refine ⟨fun _ _ => trivial, ?_⟩
 show o.uponIn (FR l) n P a K Q ((o.semAt (some l) a.eval).run P w)
 rw [Oper.semAt_some l _ _ hd]
 unfold Oper.wp at h
 generalize (execOp a.eval o).run P w = r at h ⊢
 cases r with
 | ok x w' =>
  cases x with
  | value v => exact h
  | skip => exact h
  | defer d => exact h
  | enter f args => exact ⟨fun hd => by simp [Fence.wide] at hd, calls_in h⟩
  | row row args => exact ⟨fun hd => by simp [Fence.wide] at hd, rows_in h⟩
  | round l f tmps assign body => exact h.elim
  | _ => first | exact h | exact h.elim
 | halt x w' =>
  cases x <;> first | exact h | exact h.elim
theorem wpOp_in {i : Nat} {a : Act} {w : World} {K K' : Act → World → Prop} (hno : ¬ LetsOut Q) (hd : ∀ (i : Nat) (o : Oper), ops[i]? = some o → ∀ c, o.op ≠ .defer c) (hk : ∀ a w, K a w → K' a w) (h : wpOp P ops Q i K a w) : wpOpIn (FR l) n P ops Q i K' a w := by
 unfold wpOp at h
 unfold wpOpIn
 cases ho : ops[i]? with
 | none => simp only [ho] at h; exact hk _ _ h
 | some o =>
  simp only [ho] at h
  dsimp only
  split at h
  ·rename_i hw
   rw [if_pos hw]
   rcases h with h | h
   ·exact Oper.wpIn_mono (fun a w => hk a w) (op_in (hd i o ho) h)
   ·exact absurd h.2 hno
  ·rename_i hw
   rw [if_neg hw]
   exact ⟨fun _ _ => trivial, hk _ _ h⟩
theorem any_in (hno : ¬ LetsOut Q) (hd : ∀ (i : Nat) (o : Oper), ops[i]? = some o → ∀ c, o.op ≠ .defer c) : ∀ (fuel : Nat) (listed : Array Bool) (a : Act) (w : World), wpAny P md ops Q fuel listed a w → wpAnyIn (FR l) n P md ops Q fuel listed a w
 | 0, _, _, _, h => h
 | fuel + 1, _, _, _, h => ⟨h.1, fun i hi => wpOp_in hno hd (any_in hno hd fuel _) (h.2 i hi)⟩
theorem noDefer_at (h : noDefer ops = true) : ∀ (i : Nat) (o : Oper), ops[i]? = some o → ∀ c, o.op ≠ .defer c := by
 intro i o ho c hc
 have h1 := List.all_eq_true.mp h o (by
  have : o ∈ ops := Array.mem_of_getElem? ho
  simpa using this)
 rw [hc] at h1
 simp at h1
theorem start_in {id m : Nat} {S : World → Prop} {ds : List Nat} {a : Act} {w : World} (ls : Array Bool) (hm : P.follows .mixedOrders = true) (hn : ops.size = m) (hl : Array.replicate m false = ls) (hd : noDefer ops = true) (hno : ¬ LetsOut Q) (hS : S w.drew)
  (h : S w.drew → wpAnyLast P .any ops Q S ds m ls a w.drew) : (Code.region id ops true).wpIn (FR l) n P Q a w := by
 subst hn
 subst hl
 exact wpIn_region_any hm (any_in hno (noDefer_at hd) _ _ _ _ (wpAny_of_last _ _ _ _ (h hS)))
end
section
variable {F : Fence} {nF : Nat} {P : Program} {ops : Array Oper} {rest : List Oper} {o : Oper} {a : Act} {Q : Exit → Act → World → Prop} {α : Type}
end
end Go.Proofs.YtenhfmlkdcfbbaaDoor.Rnd
