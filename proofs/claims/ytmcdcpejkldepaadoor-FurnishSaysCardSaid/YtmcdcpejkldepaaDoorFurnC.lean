/- furnish.walk, with each of the two function literals that it is called with. -/
import Derived.Test.YtmcdcpejkldepaaDoorFurnB
import Derived.Scope
namespace Go
/-- As Q; by a goto to label 1: J1; to label 0: J0. -/
def Exit.two (J1 J0 : Act → World → Prop) (Q : Exit → Act → World → Prop) : Exit → Act → World → Prop
  | .goto l, a, w => (l = 1 ∧ J1 a w) ∨ (l = 0 ∧ J0 a w)
  | e, a, w => Q e a w
/-- As Q; by a goto to label 0: J0. -/
def Exit.one0 (J0 : Act → World → Prop) (Q : Exit → Act → World → Prop) : Exit → Act → World → Prop
  | .goto l, a, w => l = 0 ∧ J0 a w
  | e, a, w => Q e a w
section
variable {P : Program} {a : Act} {w : World} {Q : Exit → Act → World → Prop}
/-- A scope that is left by jumps forward alone: to label 1, from which to label 0 (or on to it); behind label 0 no jump. -/
theorem wp_scope_two {c r1 r0 : Code} (h1 : findLabel c 1 = some r1) (h0 : findLabel c 0 = some r0)
    (first : c.wp P (Exit.two (fun a w => r1.wp P (Exit.one0 (fun a w => r0.wp P (Exit.noGoto Q) a w) Q) a w) (fun a w => r0.wp P (Exit.noGoto Q) a w) Q) a w) : (Code.scope c).wp P Q a w := by
  intro b k cs
  have hg1 : gotoIn 1 (.inScope c :: k) = some (.code r1 :: .inScope c :: k) := by simp [gotoIn, h1]
  have hg0 : gotoIn 0 (.inScope c :: k) = some (.code r0 :: .inScope c :: k) := by simp [gotoIn, h0]
  have tail0 : ∀ a w, r0.wp P (Exit.noGoto Q) a w → ∃ e a' w', Q e a' w' ∧ Arrives P (lone (b.at a (.code r0 :: .inScope c :: k)) cs w) b k cs e a' w' := by
    intro a w h
    obtain ⟨e, a₁, w₁, hq, harr⟩ := h b (.inScope c :: k) cs
    cases e with
    | normal => exact ⟨.normal, a₁, w₁, hq, Steps.trans harr (.one step_inScope)⟩
    | exit id => exact ⟨.exit id, a₁, w₁, hq, fun k' hk => harr k' (by simp [exitTo, hk])⟩
    | goto l => exact hq.elim
    | ret => exact ⟨_, a₁, w₁, hq, harr⟩
    | panic ch => exact ⟨_, a₁, w₁, hq, harr⟩
    | outgrown => exact ⟨_, a₁, w₁, hq, harr⟩
  have tail1 : ∀ a w, r1.wp P (Exit.one0 (fun a w => r0.wp P (Exit.noGoto Q) a w) Q) a w → ∃ e a' w', Q e a' w' ∧ Arrives P (lone (b.at a (.code r1 :: .inScope c :: k)) cs w) b k cs e a' w' := by
    intro a w h
    obtain ⟨e, a₁, w₁, hq, harr⟩ := h b (.inScope c :: k) cs
    cases e with
    | normal => exact ⟨.normal, a₁, w₁, hq, Steps.trans harr (.one step_inScope)⟩
    | exit id => exact ⟨.exit id, a₁, w₁, hq, fun k' hk => harr k' (by simp [exitTo, hk])⟩
    | goto l =>
      obtain ⟨rfl, hJ⟩ := hq
      obtain ⟨e₂, a₂, w₂, hq₂, harr₂⟩ := tail0 a₁ w₁ hJ
      exact ⟨e₂, a₂, w₂, hq₂, .of_steps (harr _ hg0) harr₂⟩
    | ret => exact ⟨_, a₁, w₁, hq, harr⟩
    | panic ch => exact ⟨_, a₁, w₁, hq, harr⟩
    | outgrown => exact ⟨_, a₁, w₁, hq, harr⟩
  obtain ⟨e, a₁, w₁, hq, harr⟩ := first b (.inScope c :: k) cs
  cases e with
  | normal => exact ⟨.normal, a₁, w₁, hq, .head step_scope (Steps.trans harr (.one step_inScope))⟩
  | exit id => exact ⟨.exit id, a₁, w₁, hq, fun k' hk => .head step_scope (harr k' (by simp [exitTo, hk]))⟩
  | goto l =>
    rcases hq with ⟨rfl, hJ⟩ | ⟨rfl, hJ⟩
    · obtain ⟨e₂, a₂, w₂, hq₂, harr₂⟩ := tail1 a₁ w₁ hJ
      exact ⟨e₂, a₂, w₂, hq₂, .of_steps (.head step_scope (harr _ hg1)) harr₂⟩
    · obtain ⟨e₂, a₂, w₂, hq₂, harr₂⟩ := tail0 a₁ w₁ hJ
      exact ⟨e₂, a₂, w₂, hq₂, .of_steps (.head step_scope (harr _ hg0)) harr₂⟩
  | ret => exact ⟨_, a₁, w₁, hq, .of_steps (.one step_scope) harr⟩
  | panic ch => exact ⟨_, a₁, w₁, hq, .of_steps (.one step_scope) harr⟩
  | outgrown => exact ⟨_, a₁, w₁, hq, .of_steps (.one step_scope) harr⟩
end
section
variable {J1 J0 : Act → World → Prop} {Q : Exit → Act → World → Prop} {a : Act} {w : World}
@[go_sem] theorem Exit.two_normal : Exit.two J1 J0 Q .normal a w = Q .normal a w := rfl
@[go_sem] theorem Exit.two_exit (id : Nat) : Exit.two J1 J0 Q (.exit id) a w = Q (.exit id) a w := rfl
@[go_sem] theorem Exit.two_ret : Exit.two J1 J0 Q .ret a w = Q .ret a w := rfl
@[go_sem] theorem Exit.two_panic (ch : List PanicEntry) : Exit.two J1 J0 Q (.panic ch) a w = Q (.panic ch) a w := rfl
theorem Exit.two_goto1 (h : J1 a w) : Exit.two J1 J0 Q (.goto 1) a w := .inl ⟨rfl, h⟩
theorem Exit.two_goto0 (h : J0 a w) : Exit.two J1 J0 Q (.goto 0) a w := .inr ⟨rfl, h⟩
@[go_sem] theorem Exit.one0_normal : Exit.one0 J0 Q .normal a w = Q .normal a w := rfl
@[go_sem] theorem Exit.one0_exit (id : Nat) : Exit.one0 J0 Q (.exit id) a w = Q (.exit id) a w := rfl
@[go_sem] theorem Exit.one0_ret : Exit.one0 J0 Q .ret a w = Q .ret a w := rfl
@[go_sem] theorem Exit.one0_panic (ch : List PanicEntry) : Exit.one0 J0 Q (.panic ch) a w = Q (.panic ch) a w := rfl
end
end Go
namespace Go.Proofs.YtmcdcpejkldepaaDoor.Furn
open Go.RowKit Go.Proofs.YtmcdcpejkldepaaDoorW.PrintWords Go.Proofs.YtmcdcpejkldepaaDoorW.PrintLast Go.Proofs.YtmcdcpejkldepaaDoorW.PrintMore
set_option linter.unusedVariables false
set_option linter.unusedSimpArgs false
def starts (s p : ByteArray) : Bool := decide (p.size ≤ s.size) && ((s.extract 0 p.size).toList == p.toList)
/-- The sign that stands at the front; nothing: there is none. -/
def signP (s : ByteArray) : ByteArray :=
  if starts s ⟨#[123, 123]⟩ then ⟨#[123, 123]⟩
  else if starts s ⟨#[123, 112, 97, 103, 101, 125]⟩ then ⟨#[123, 112, 97, 103, 101, 125]⟩
  else if starts s ⟨#[123, 112, 97, 103, 101, 115, 125]⟩ then ⟨#[123, 112, 97, 103, 101, 115, 125]⟩
  else if starts s ⟨#[123, 116, 105, 116, 108, 101, 125]⟩ then ⟨#[123, 116, 105, 116, 108, 101, 125]⟩
  else ⟨#[]⟩
/-- What walk hands back, and the pieces that it took. -/
def walkFrom (s : ByteArray) : Nat → Nat → Nat → List ByteArray → Int × Bool × List ByteArray
  | 0, _, _, acc => (0, true, acc)
  | fuel + 1, pos, skip, acc =>
    if pos < s.size then
      if pos < skip then walkFrom s fuel (pos + (Utf8.decode s pos).2) skip acc
      else if (Utf8.decode s pos).1 ≠ 123 then walkFrom s fuel (pos + (Utf8.decode s pos).2) skip (acc ++ [Utf8.encode ((Utf8.decode s pos).1 : Int)])
      else if (signP (s.extract pos s.size)).toList ≠ [] then walkFrom s fuel (pos + (Utf8.decode s pos).2) (pos + (signP (s.extract pos s.size)).size) (acc ++ [signP (s.extract pos s.size)])
      else ((pos : Int), false, acc)
    else (0, true, acc)
def walkF (s : ByteArray) : Int × Bool × List ByteArray := walkFrom s s.size 0 0 []
theorem walkFrom_end (s : ByteArray) (fuel pos skip : Nat) (acc : List ByteArray) (h : ¬ pos < s.size) : walkFrom s fuel pos skip acc = (0, true, acc) := by
  cases fuel with
  | zero => rfl
  | succ f => rw [walkFrom, if_neg h]
theorem sign_size (s : ByteArray) : (signP s).size ≤ 7 := by
  unfold signP
  repeat' split
  all_goals decide
set_option maxHeartbeats 4000000 in
set_option maxRecDepth 100000 in
theorem walk22 (hsign : ∀ (s : ByteArray) (w : World), Calls Tryd.prog 36 #[.string s] w fun e w' => e = .returned (.string (signP s)) ∧ Below w.heap.size w w') (s : ByteArray) (w : World) (hs : s.size ≤ 1000000) :
    Calls Tryd.prog 21 #[.string s, .func (.func 22) #[] #[]] w fun e w' => e = .returned (.tuple #[.int .i64 (walkF s).1, .bool (walkF s).2.1]) ∧ Below w.heap.size w w' := by
  have take : ∀ (p : ByteArray) (w : World), Calls Tryd.prog 22 #[.string p] w fun e w' => e = .returned (.tuple #[]) ∧ w' = w := by
    intro p w
    go_enter Tryd.func22, Tryd.ntmps22
    go_wp2
    go_end0
    exact ⟨rfl, rfl⟩
  go_enter Tryd.func21, Tryd.ntmps21
  go_wp2
  go_loopw [6] (fun v6 wr => ∃ (pos fuel skip : Nat) (acc : List ByteArray), v6 = .int .i64 (skip : Int) ∧ Aside0 (wr.heap[w.heap.size]? = some (.stringIter s pos)) ∧ Aside0 (Below w.heap.size w wr) ∧ Aside0 (walkFrom s fuel pos skip acc = walkF s) ∧ Aside0 (s.size ≤ pos + fuel) ∧ Aside0 (skip ≤ s.size + 7)) (fun _ wr => s.size - wr.iterPos w.heap.size)
  case atStart =>
    exact ⟨0, s.size, 0, [], rfl, ⟨World.iter_heap w s 0⟩, ⟨(Below.refl _ w).alloc (Nat.le_refl _) _⟩, ⟨rfl⟩, ⟨by omega⟩, ⟨by omega⟩⟩
  case round =>
    obtain ⟨pos, fuel, skip, acc, rfl, hit, hbw, hacc, hfu, hsk⟩ := hrel
    by_cases hp : pos < s.size
    · have hnx : ∀ ty, (Instr.next (.pointer (some ⟨w.heap.size, 0, none⟩)) true ty).run Tryd.prog wr = _ := fun ty => Lib.run_next_any_at wr w.heap.size s pos ty hit.out hp
      have hwd := width_pos s pos hp
      have hd1 := decode_le s pos
      have hit2 := Lib.iterAt_heap wr w.heap.size s pos (pos + (Utf8.decode s pos).2) hit.out
      have hbw2 := Lib.below_iterAt hbw.out (k := w.heap.size) (Nat.le_refl _) s (pos + (Utf8.decode s pos).2)
      obtain ⟨f, rfl⟩ : ∃ f, fuel = f + 1 := ⟨fuel - 1, by have := hfu.out; omega⟩
      replace hacc := hacc.out
      rw [walkFrom, if_pos hp] at hacc
      generalize wr.iterAt w.heap.size s (pos + (Utf8.decode s pos).2) = W2 at *
      have Hit2 := Aside0.mk hit2
      have Hbw2 := Aside0.mk hbw2
      have Hwd := Aside0.mk hwd
      have Hd1 := Aside0.mk hd1
      have Hp := Aside0.mk hp
      clear hit2 hbw2 hwd hp
      by_cases hs1 : pos < skip
      · rw [if_pos hs1] at hacc
        have Hacc := Aside0.mk hacc
        clear hacc
        have q1 : ((pos : Int) < (skip : Int)) = True := eq_true (by omega)
        have q2 : decide ((pos : Int) < (skip : Int)) = true := decide_eq_true (by omega)
        clear hs1 hd1
        go_wp2
        refine wp_scope_two (by rfl) (by rfl) ?_
        go_wp2
        go_step3
        refine Or.inr ⟨rfl, ?_⟩
        go_wp2
        rw [Exit.noGoto_normal]
        go_roundw
        case rel => exact ⟨_, _, _, _, _, _, _, _, _, _, _, _, _, _, _, _, _, _, _, _, _, _, _, _, _, _, _, _, _, _, _, _, _, ⟨_, f, skip, acc, rfl, Hit2, Hbw2, Hacc, ⟨by have := hfu.out; have := Hwd.out; omega⟩, hsk⟩, rfl⟩
        case measure =>
          have h1 := Hit2.out
          have h2 := hit.out
          have h3 := Hwd.out
          have h4 := Hp.out
          simp only [World.iterPos, h1, h2]
          omega
      · rw [if_neg hs1] at hacc
        have q1 : ((pos : Int) < (skip : Int)) = False := eq_false (by omega)
        have q2 : decide ((pos : Int) < (skip : Int)) = false := decide_eq_false (by omega)
        clear hs1
        by_cases hr : (Utf8.decode s pos).1 ≠ 123
        · rw [if_pos hr] at hacc
          have Hacc := Aside0.mk hacc
          clear hacc
          have r1 : (((Utf8.decode s pos).1 : Int) == 123) = false := beq_eq_false_iff_ne.mpr (by omega)
          have r2 : (((Utf8.decode s pos).1 : Int) != 123) = true := bne_iff_ne.mpr (by omega)
          have r3 : ¬ (((Utf8.decode s pos).1 : Int) = 123) := by omega
          clear hr hd1
          go_wp2
          refine wp_scope_two (by rfl) (by rfl) ?_
          go_wp2
          go_step3
          refine Or.inl ⟨rfl, ?_⟩
          go_wp2_with (go_at_call 22; refine (take _ _).mono ?_; rintro e w1 ⟨rfl, rfl⟩)
          go_step3
          go_roundw
          case rel => exact ⟨_, _, _, _, _, _, _, _, _, _, _, _, _, _, _, _, _, _, _, _, _, _, _, _, _, _, _, _, _, _, _, _, _, ⟨_, f, skip, _, rfl, Hit2, Hbw2, Hacc, ⟨by have := hfu.out; have := Hwd.out; omega⟩, hsk⟩, rfl⟩
          case measure =>
            have h1 := Hit2.out
            have h2 := hit.out
            have h3 := Hwd.out
            have h4 := Hp.out
            simp only [World.iterPos, h1, h2]
            omega
        · rw [if_neg hr] at hacc
          have r1 : (((Utf8.decode s pos).1 : Int) == 123) = true := beq_iff_eq.mpr (by omega)
          have r2 : (((Utf8.decode s pos).1 : Int) != 123) = false := bne_eq_false_iff_eq.mpr (by omega)
          have r3 : ((Utf8.decode s pos).1 : Int) = 123 := by omega
          clear hr hd1
          have b1 : ((0 : Int) ≤ (pos : Int)) = True := eq_true (by omega)
          have b2 : ((pos : Int) ≤ (s.size : Int)) = True := eq_true (by have := Hp.out; omega)
          obtain ⟨x, hx⟩ : ∃ x, x = signP (s.extract pos s.size) := ⟨_, rfl⟩
          have Hx := Aside0.mk hx
          have hxs := sign_size (s.extract pos s.size)
          rw [← hx] at hacc hxs
          clear hx
          by_cases hz : x.toList ≠ []
          · rw [if_pos hz] at hacc
            have Hacc := Aside0.mk hacc
            have Hxs := Aside0.mk hxs
            clear hacc hxs
            have z1 : (x.toList == []) = false := beq_eq_false_iff_ne.mpr hz
            clear hz
            go_wp2
            refine wp_scope_two (by rfl) (by rfl) ?_
            go_wp2_with (first | (go_at_call 36; refine (hsign _ _).mono ?_; rintro e w1 ⟨rfl, hb1⟩; rw [← Hx.out]; have HB1 := Aside0.mk hb1; clear hb1) | (go_at_call 22; refine (take _ _).mono ?_; rintro e w1 ⟨rfl, rfl⟩))
            go_step3
            refine Or.inr ⟨rfl, ?_⟩
            go_wp2
            have hw : wrap64 ((pos : Int) + (x.size : Int)) = ((pos + x.size : Nat) : Int) := by
              have := Hp.out
              have := Hxs.out
              unfold wrap64
              omega
            have Hit3 : Aside0 (w1.heap[w.heap.size]? = some (.stringIter s (pos + (Utf8.decode s pos).2))) := ⟨(HB1.out.block _ (Array.getElem?_eq_some_iff.1 Hit2.out).1).trans Hit2.out⟩
            have Hbw3 : Aside0 (Below w.heap.size w w1) := ⟨Hbw2.out.trans (below_lower (Nat.le_of_lt (Array.getElem?_eq_some_iff.1 Hit2.out).1) HB1.out)⟩
            rw [Exit.noGoto_normal]
            go_roundw
            case rel => exact ⟨_, _, _, _, _, _, _, _, _, _, _, _, _, _, _, _, _, _, _, _, _, _, _, _, _, _, _, _, _, _, _, _, _, ⟨_, f, pos + x.size, _, (by rw [hw]), Hit3, Hbw3, Hacc, ⟨by have := hfu.out; have := Hwd.out; omega⟩, ⟨by have := Hp.out; have := Hxs.out; omega⟩⟩, rfl⟩
            case measure =>
              have h1 := Hit3.out
              have h2 := hit.out
              have h3 := Hwd.out
              have h4 := Hp.out
              simp only [World.iterPos, h1, h2]
              omega
          · rw [if_neg hz] at hacc
            have Hacc := Aside0.mk hacc
            clear hacc hxs
            have z0 : x.toList = [] := Decidable.not_not.1 hz
            have z1 : (x.toList == []) = true := by rw [z0]; rfl
            clear hz
            go_wp2
            refine wp_scope_two (by rfl) (by rfl) ?_
            go_wp2_with (go_at_call 36; refine (hsign _ _).mono ?_; rintro e w1 ⟨rfl, hb1⟩; rw [← Hx.out]; have HB1 := Aside0.mk hb1; clear hb1)
            rw [Exit.two_ret]
            refine (show bodyPost Tryd.prog Tryd.f21 (fun e w' => e = .returned (.tuple #[.int .i64 (walkF s).1, .bool (walkF s).2.1]) ∧ Below w.heap.size w w') .ret _ w1 from ?_)
            go_ret2
            rw [← Hacc.out]
            exact ⟨rfl, Hbw2.out.trans (below_lower (Nat.le_of_lt (Array.getElem?_eq_some_iff.1 Hit2.out).1) HB1.out)⟩
    · have hnx : ∀ ty, (Instr.next (.pointer (some ⟨w.heap.size, 0, none⟩)) true ty).run Tryd.prog wr = _ := fun ty => Lib.run_next_end_at wr w.heap.size s pos ty hit.out hp
      go_wp2
      go_ret2
      rw [walkFrom_end s fuel pos skip acc hp] at hacc
      rw [← hacc.out]
      exact ⟨rfl, hbw.out⟩
end Go.Proofs.YtmcdcpejkldepaaDoor.Furn
