/- A range over a sequence that makes memory of its own at its start: what it has made (the ghost c) is told to the body, and what a round keeps may speak of it. -/
import Derived.RangeFuncNested
import Derived.Below
namespace Go.Proofs.YtenhfmlkdcfbbaaDoorG
open Go Go.RowKit
set_option linter.unusedVariables false
def SeqG {α γ : Type} (F : Fence) (n : Nat) (P : Program) (g : Nat) (lb : Array Value) (encs : α → Array Value) (Kp : γ → World → World → Prop) (G : Nat → γ → World → Prop) (E : γ → List α → α → Prop) (S Sp : γ → List α → Prop) (N : Nat) (w : World) : Prop :=
 ∀ (l : Nat) (J Jx : γ → List α → World → Prop) (W : World), Below w.heap.size w W → (∀ c s X Y, J c s X → X.grownBy Y none → J c s Y) → (∀ c s X Y, Jx c s X → X.grownBy Y none → Jx c s Y) →
  (∀ c pre x W1, J c pre W1 → E c pre x → pre.length < N → YieldAt F (n - 1) P l (encs x) W1 fun e W' =>
   (e = .returned (.bool true) ∧ J c (pre ++ [x]) W' ∧ Kp c W1 W') ∨ (e = .returned (.bool false) ∧ Jx c (pre ++ [x]) W')) →
  (∀ c W', Below W.heap.size W W' → G W.heap.size c W' → J c [] W') →
  CallsIn F n P g (#[.func (.yield l) #[] #[]] ++ lb) W fun e W' => (∃ v, e = .returned v) ∧ ∃ c, (∃ xs, S c xs ∧ J c xs W') ∨ (∃ pre, Sp c pre ∧ Jx c pre W')
def book : Obj → Bool
 | .loop _ | .deferred _ => true
 | _ => false
structure KeepsL (B : Nat) (W W' : World) : Prop where
 size : W.heap.size ≤ W'.heap.size
 same : ∀ k o, B ≤ k → W.heap[k]? = some o → book o = true → W'.heap[k]? = some o
theorem KeepsL.refl (B : Nat) (W : World) : KeepsL B W W := ⟨Nat.le_refl _, fun _ _ _ h _ => h⟩
theorem KeepsL.trans {B : Nat} {X Y Z : World} (h : KeepsL B X Y) (k : KeepsL B Y Z) : KeepsL B X Z := ⟨Nat.le_trans h.size k.size, fun i o hi ho hb => k.same i o hi (h.same i o hi ho hb) hb⟩
theorem KeepsL.below {B : Nat} {W W' : World} (h : Below W.heap.size W W') : KeepsL B W W' := ⟨h.size, fun k o _ ho _ => (h.block k (Array.getElem?_eq_some_iff.1 ho).1).trans ho⟩
def OwnL {β : Type} (B : Nat) (I : β → World → Prop) : Prop :=
 ∀ s W W' row, I s W → W.grownBy W' row → (∀ r, row = some r → B ≤ r ∧ ∃ o : Obj, W.heap[r]? = some o ∧ book o = true) → I s W'
theorem OwnL.loop {β : Type} {B : Nat} {I : β → World → Prop} (h : OwnL B I) {s : β} {W : World} {l : Nat} {L : Loop} (o' : Obj) (hs : I s W) (hB : B ≤ l) (hl : W.heap[l]? = some (.loop L)) : I s (W.putObj l o') :=
 h s W _ (some l) hs (grownBy_putObj' W l o') (fun r e => by cases e; exact ⟨hB, _, hl, rfl⟩)
def postL {α : Type} (B : Nat) (Kp : World → World → Prop) (I : List α → World → Prop) (Ix : Code → List α → World → Prop) (xs : List α) (W : World) : Exit → Act → World → Prop
 | .normal, _, W' => KeepsL B W W' ∧ Kp W W' ∧ I xs W'
 | .ret, _, W' => KeepsL B W W' ∧ Ix .ret xs W'
 | .exit id, _, W' => KeepsL B W W' ∧ Ix (.exit id) xs W'
 | .goto t, _, W' => KeepsL B W W' ∧ Ix (.goto t) xs W'
 | .panic _, _, _ => False
 | .outgrown, _, _ => False
section
variable {F : Fence} {n : Nat} {P : Program} {w : World}
theorem range_ghost {α γ : Type} {g : Operand} {ps : Array Tmp} {assign body : Code} {Q : Exit → Act → World → Prop} {a : Act}
  (hro : F.round = none) (h1 : 1 ≤ n) {gf : Nat} {lb : Array Value} (hg : a.eval g = .func (.func gf) #[] lb) (hFg : F.fn gf) (eg : ∀ args w, (callFunc gf args).run P w = .ok (.enter gf args) w)
  {encs : α → Array Value} {Kp : γ → World → World → Prop} {G : Nat → γ → World → Prop} {E : γ → List α → α → Prop} {S Sp : γ → List α → Prop} {N : Nat} {w0 : World} (hseq : SeqG F (n - 1) P gf lb encs Kp G E S Sp N w0)
  (hKt : ∀ c {A B C : World}, Kp c A B → Kp c B C → Kp c A C) (hKb : ∀ c (W : World) (l : Nat) (L L' : Loop), w.heap.size ≤ l → W.heap[l]? = some (.loop L) → Kp c W (W.putObj l (.loop L'))) (hb0 : Below w0.heap.size w0 w) (hps : ∀ x, (encs x).size = ps.size)
  (I : γ → List α → World → Prop) (Ix : γ → Code → List α → World → Prop) (hI : ∀ c, OwnL w.heap.size (I c)) (hIx : ∀ c k, OwnL w.heap.size (Ix c k))
  (h0 : ∀ c B W', w.heap.size ≤ B → Below w.heap.size w W' → G B c W' → I c [] W') (Ax : γ → α → Act → World → Prop) (hAx : ∀ c x a', OwnL w.heap.size (fun (_ : Unit) W => Ax c x a' W))
  (hassign : ∀ c (l : Nat) (pre : List α) (x : α) (W : World) (K : Act → World → Prop), I c pre W → E c pre x → (∀ a' W', KeepsL w.heap.size W W' → Kp c W W' → I c pre W' → Ax c x a' W' → K a' W') →
   assign.wpIn (F.inRound l) (n - 1 - 1) P (Exit.then K (fun _ _ _ => False)) { tmps := (ps.zip (encs x)).foldl (fun t (p, v) => t.setIfInBounds p v) a.tmps, defers := [] } W)
  (hbody : ∀ c (l : Nat) (pre : List α) (x : α) (a' : Act) (W : World), w.heap.size ≤ l → (∃ r, W.heap[l]? = some (.loop r)) → I c pre W → E c pre x → Ax c x a' W → pre.length < N → body.wpIn (F.inRound l) (n - 1 - 1) P (postL w.heap.size (Kp c) (I c) (Ix c) (pre ++ [x]) W) a' W)
  (hdone : ∀ c (D : Nat) (xs : List α) (W : World), w.heap.size ≤ D → S c xs → I c xs W → W.heap[D]? = some (.deferred (some [])) → Q .normal { a with defers := { target := .collected D, args := #[] } :: a.defers } W)
  (hstop : ∀ c (D : Nat) (k : Code) (pre : List α) (W : World), w.heap.size ≤ D → Sp c pre → Ix c k pre W → W.heap[D]? = some (.deferred (some [])) → k.wpIn F n P Q { a with defers := { target := .collected D, args := #[] } :: a.defers } W) :
  (Code.rangeFunc g ps assign body).wpIn F n P Q a w := by
 refine wpIn_rangeFunc ?_
 intro fn hfn
 rw [hro]
 obtain ⟨rec, hrec⟩ : ∃ rec : LoopState → Option Code → Loop, rec = fun st pe => { state := st, pending := pe, fn, tmps := a.tmps, params := ps, assign, body, defers := w.heap.size } := ⟨_, rfl⟩
 obtain ⟨W1, hW1⟩ : ∃ W1, (w.alloc (.deferred (some []))).alloc (.loop (rec .ready none)) = W1 := ⟨_, rfl⟩
 have sz : W1.heap.size = w.heap.size + 2 := by rw [← hW1]; simp
 have bl : Below w.heap.size w W1 := by rw [← hW1]; exact ((Below.refl _ w).alloc (Nat.le_refl _) _).alloc (by simp) _
 have hL1 : W1.heap[w.heap.size + 1]? = some (.loop (rec .ready none)) := by
  have h := World.alloc_heap_new (w.alloc (.deferred (some []))) (.loop (rec .ready none))
  rw [World.size_alloc, hW1] at h
  exact h
 have hD1 : W1.heap[w.heap.size]? = some (.deferred (some [])) := by
  rw [← hW1]
  exact (Below.heap_alloc _ _ _ (by simp)).trans (World.alloc_heap_new w _)
 let B : LoopState → Option Code → World → Prop := fun st pe W => W.heap[w.heap.size + 1]? = some (.loop (rec st pe)) ∧ W.heap[w.heap.size]? = some (.deferred (some []))
 have hB : ∀ {st pe} {X Y : World} {row : Option Nat}, B st pe X → X.grownBy Y row → (∀ r, row = some r → ∃ o : Obj, X.heap[r]? = some o ∧ o.isWalk = true) → B st pe Y := by
  intro st pe X Y row h hg' hr
  have hr' : ∀ r, row = some r → ∃ o : Obj, X.heap[r]? = some o ∧ o.isWalk = true := hr
  have far : ∀ (k : Nat) (o : Obj), X.heap[k]? = some o → o.isWalk = false → Y.heap[k]? = some o := by
   intro k o ho hw
   refine (hg'.block k (Array.getElem?_eq_some_iff.1 ho).1 (fun e => ?_)).trans ho
   obtain ⟨o2, h2, h3⟩ := hr' k e.symm
   rw [ho] at h2
   cases h2
   rw [hw] at h3
   cases h3
  exact ⟨far _ _ h.1 rfl, far _ _ h.2 rfl⟩
 refine ⟨w.heap.size + 1, [{ target := .collected w.heap.size, args := #[] }], W1, { target := .fn (.func gf) lb, args := #[.func (.yield (w.heap.size + 1)) #[] #[]] }, W1, gf,
  #[.func (.yield (w.heap.size + 1)) #[] #[]] ++ lb, W1, ?_, ?_, ?_, ?_, fun _ => h1, ?_⟩
 ·rw [← hW1, hrec]
  exact run_enterLoop_outer _ _ _ _ _
 ·simp only [resolve, hg]
  simp [go_sem]
 ·intro f' hf'
  simp [Target.leads] at hf'
  subst hf'
  exact hFg
 ·simp [invoke, go_sem, eg]
 refine (hseq (w.heap.size + 1) (fun c pre W => I c pre W ∧ B .ready none W) (fun c pre W => ∃ k, Ix c k pre W ∧ B .done (some k) W) W1 (hb0.trans (bl.mono hb0.size))
  (fun c s X Y hs hg' => ⟨hI c s X Y none hs.1 hg' (fun r e => by cases e), hB hs.2 hg' (fun r e => by cases e)⟩)
  (fun c s X Y hs hg' => by
   obtain ⟨k, hk, hb⟩ := hs
   exact ⟨k, hIx c k s X Y none hk hg' (fun r e => by cases e), hB hb hg' (fun r e => by cases e)⟩)
  ?_ (fun c W' hbl hG => ⟨h0 c _ W' (by omega) (bl.trans (hbl.mono (by omega))) hG, ⟨(hbl.block _ (Array.getElem?_eq_some_iff.1 hL1).1).trans hL1, (hbl.block _ (Array.getElem?_eq_some_iff.1 hD1).1).trans hD1⟩⟩)).mono ?_
 ·
  rintro c pre x W ⟨hi, hl, hk⟩ hE hlen
  have hy := run_yield (P := P) (args := encs x) hl (by rw [hrec]; exact hps x)
  rw [hrec] at hy
  refine ⟨fn, _, assign, body, hy, roundIn_of_wpIn hfn (hassign c _ pre x W _ hi hE ?_)⟩
  clear hy
  intro a' Wa hka hpa hia hax
  have hla := hka.same _ _ (by omega) hl rfl
  have hda := hka.same _ _ (Nat.le_refl _) hk rfl
  have hlt : w.heap.size + 1 < Wa.heap.size := (Array.getElem?_eq_some_iff.1 hla).1
  refine ⟨_, run_beginRound hla (by rw [hrec]), ?_⟩
  obtain ⟨Wb, hWb⟩ : ∃ z, Wa.putObj (w.heap.size + 1) (.loop { rec .ready none with state := .busy }) = z := ⟨_, rfl⟩
  have hlb : Wb.heap[w.heap.size + 1]? = some (.loop { rec .ready none with state := .busy }) := by rw [← hWb]; exact World.putObj_heap_same hlt
  have hdb : Wb.heap[w.heap.size]? = some (.deferred (some [])) := by rw [← hWb]; exact (World.putObj_heap_other (by omega)).trans hda
  have hpb : Kp c W Wb := by rw [← hWb]; exact hKt c hpa (hKb c _ _ _ _ (by omega) hla)
  have hib : I c pre Wb := by rw [← hWb]; exact (hI c).loop _ hia (by omega) hla
  have haxb : Ax c x a' Wb := by rw [← hWb]; exact (hAx c x a').loop (s := ()) _ hax (by omega) hla
  rw [hWb]
  refine wpIn_mono (hbody c _ pre x a' _ (by omega) ⟨_, hlb⟩ hib hE haxb hlen) ?_
  have fin : ∀ (jump : Option Code) (W3 : World), KeepsL w.heap.size Wb W3 →
    (Instr.endRound (w.heap.size + 1) jump).run P W3 = .ok (.bool jump.isNone) (W3.putObj (w.heap.size + 1) (.loop (rec (if jump.isNone then .ready else .done) jump))) ∧
    W3.heap[w.heap.size + 1]? = some (.loop { rec .ready none with state := .busy }) ∧ B (if jump.isNone then .ready else .done) jump (W3.putObj (w.heap.size + 1) (.loop (rec (if jump.isNone then .ready else .done) jump))) := by
   intro jump W3 hk3
   have hl3 := hk3.same _ _ (by omega) hlb rfl
   have hd3 := hk3.same _ _ (Nat.le_refl _) hdb rfl
   have hr := run_endRound (P := P) jump hl3
   rw [hrec] at hr
   refine ⟨?_, hl3, World.putObj_heap_same (Array.getElem?_eq_some_iff.1 hl3).1, (World.putObj_heap_other (by omega)).trans hd3⟩
   rw [hrec]
   exact hr
  rintro e a3 W3 hp
  cases e with
  | normal =>
   obtain ⟨hk3, hp3, hi3⟩ := hp
   obtain ⟨hr, hl3, hb3⟩ := fin none W3 hk3
   exact ⟨_, _, hr, .inl ⟨rfl, ⟨(hI c).loop _ hi3 (by omega) hl3, hb3⟩, hKt c (hKt c hpb hp3) (hKb c _ _ _ _ (by omega) hl3)⟩⟩
  | ret =>
   obtain ⟨hk3, hi3⟩ := hp
   obtain ⟨hr, hl3, hb3⟩ := fin (some .ret) W3 hk3
   exact ⟨_, _, hr, .inr ⟨rfl, .ret, (hIx c _).loop _ hi3 (by omega) hl3, hb3⟩⟩
  | exit id =>
   obtain ⟨hk3, hi3⟩ := hp
   obtain ⟨hr, hl3, hb3⟩ := fin (some (.exit id)) W3 hk3
   exact ⟨_, _, hr, .inr ⟨rfl, .exit id, (hIx c _).loop _ hi3 (by omega) hl3, hb3⟩⟩
  | goto t =>
   obtain ⟨hk3, hi3⟩ := hp
   obtain ⟨hr, hl3, hb3⟩ := fin (some (.goto t)) W3 hk3
   exact ⟨_, _, hr, .inr ⟨rfl, .goto t, (hIx c _).loop _ hi3 (by omega) hl3, hb3⟩⟩
  | panic ch => exact hp.elim
  | outgrown => exact hp.elim
 ·
  rintro e W2 ⟨⟨v, rfl⟩, c, (⟨xs, hS, hi, hl, hk⟩ | ⟨pre, hSp, k, hi, hl, hk⟩)⟩
  ·have hr := run_endLoop (P := P) hl (by rw [hrec]; simp)
   rw [hrec] at hr
   exact ⟨none, _, hr, hdone c _ xs _ (Nat.le_refl _) hS ((hI c).loop _ hi (by omega) hl) ((World.putObj_heap_other (by omega)).trans hk)⟩
  ·have hr := run_endLoop (P := P) hl (by rw [hrec]; simp)
   rw [hrec] at hr
   exact ⟨some k, _, hr, hstop c _ k pre _ (Nat.le_refl _) hSp ((hIx c k).loop _ hi (by omega) hl) ((World.putObj_heap_other (by omega)).trans hk)⟩
end
end Go.Proofs.YtenhfmlkdcfbbaaDoorG
