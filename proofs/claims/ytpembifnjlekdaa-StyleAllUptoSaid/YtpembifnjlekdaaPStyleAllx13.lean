-- Written by a copy of the print that this session has turned (wip/tools/patchprint.py): arrays as records.
import Derived.Test.YtpembifnjlekdaaPStyleAllx0
import Derived.Test.YtpembifnjlekdaaPStyleAllx8
import Derived.Test.YtpembifnjlekdaaPStyleAllx11
import Derived.Test.YtpembifnjlekdaaPStyleAllx12
namespace Go.Proofs.Ytpembifnjlekdaa.PStyleAll
open Go.RowKit Go.Proofs.YtpembifnjlekdaaW.PrintWords Go.Proofs.YtpembifnjlekdaaW.PrintLast Go.Proofs.YtpembifnjlekdaaW.PrintMore
attribute [local go_sem] max2_int min2_int max_two min_two max_three min_three max_four min_four   -- for this text's walks alone
set_option linter.unusedVariables false
set_option linter.unusedSimpArgs false

/-! ### colophonref20_All: function 29 -/
/-! ### colophonref20_all: function 49 -/
def colophonref20_all.down (l : List S41) : Nat → List S56 → S52 → S33 → List S33 → Option (List S33)
  | 0, _, _, _, _ => none
  | k + 1, path, n, par, out =>
    if n.f0.toList.isEmpty = true then style_All.kids (fun x o => colophonref20_all.down l k path x par o) n.f3 out else
    if path.length < 1000000 ∧ out.length < 1000000 then
      (colophonref20_Facts.f k n.f0 n.f1 n.f2 n.f3 n.f4).bind fun f =>
      (colophonref20_Of.f k l (path ++ [⟨f.1, f.2.1, f.2.2⟩]) par.f0 par.f1 par.f2 par.f3 par.f4 par.f5 par.f6 par.f7 par.f8).bind fun q =>
      style_All.kids (fun x o => colophonref20_all.down l k (path ++ [⟨f.1, f.2.1, f.2.2⟩]) x (style_All.s33 q) o) n.f3 (out ++ [style_All.s33 q])
    else none
theorem colophonref20_all.down_mono (l : List S41) : ∀ (k : Nat) (path : List S56) (n : S52) (par : S33) (out : List S33), LeO (colophonref20_all.down l k path n par out) (colophonref20_all.down l (k + 1) path n par out)
  | 0, path, n, par, out => by
    rw [colophonref20_all.down]
    exact LeO.none _
  | k + 1, path, n, par, out => by
    rw [colophonref20_all.down, colophonref20_all.down.eq_def l (k + 1 + 1)]
    dsimp only
    refine LeO.ite (style_All.kids_mono (fun x o => colophonref20_all.down_mono l k _ x _ o) _ _) (LeO.ite (LeO.bind (colophonref20_Facts.mono _ _ _ _ _ _) (fun f => LeO.bind (colophonref20_Of.mono _ _ _ _ _ _ _ _ _ _ _ _) (fun q => style_All.kids_mono (fun x o => colophonref20_all.down_mono l k _ x _ o) _ _))) (LeO.none _))
/-- What a call leaves. -/
structure colophonref20_all.Went (w0 w W : World) (vp vo : Value) (path : List S56) (r : List S33) (vo' : Value) : Prop where
  b : Below w0.heap.size w0 W
  rp : Kd.R k56 56 W w0.heap.size (fun _ => True) vp path
  ro : Kd.R k33 33 W w0.heap.size (fun _ => True) vo' r
  k : Kept w W (fun a => some a = vo.ownBlock)
  ho : style_All.Hat w vo vo'
theorem colophonref20_all.wr_then {w W W2 : World} {vo v2 : Value} (h : Kept w W (fun a => some a = vo.ownBlock)) (h2 : style_All.Hat w vo v2) (k : Kept W W2 (fun a => some a = v2.ownBlock)) : Kept w W2 (fun a => some a = vo.ownBlock) := by
  refine h.then_ k (fun a ha => ?_)
  rcases h2 with h2 | ⟨b, h2, hb⟩
  · exact .inl (ha.trans h2)
  · rw [h2] at ha
    injection ha with ha
    exact .inr (by omega)
section
variable {w0 w W W2 W3 : World} {vp vo v2 v3 : Value} {path path2 : List S56} {o o2 : List S33}
theorem colophonref20_all.Went.below (h : colophonref20_all.Went w0 w W vp vo path o v2) (hb : Below W.heap.size W W2) : colophonref20_all.Went w0 w W2 vp vo path o v2 :=
  ⟨below_step h.b hb, Kd.R_below h.rp hb, Kd.R_below h.ro hb, h.k.below hb, h.ho⟩
theorem colophonref20_all.Went.way (h : Kd.R k56 56 W w0.heap.size (fun _ => True) vp path) (ho : Kd.R k33 33 W w0.heap.size (fun _ => True) vo o) (hk : Kept W W2 (fun a => some a = vo.ownBlock)) : Kd.R k56 56 W2 w0.heap.size (fun _ => True) vp path :=
  Kd.R_mono (Kd.R_kept (Kd.R_apart' h (Kd.R_typed ho) (by decide)) hk (fun a ha => ha.2)) (fun _ _ => trivial)
theorem colophonref20_all.Went.next (h : colophonref20_all.Went w0 w W vp vo path o v2) (b : Below w0.heap.size w0 W3) (ro : Kd.R k33 33 W3 w0.heap.size (fun _ => True) v3 o2) (k : Kept W W3 (fun a => some a = v2.ownBlock)) (ho : style_All.Hat W v2 v3) : colophonref20_all.Went w0 w W3 vp vo path o2 v3 :=
  ⟨b, colophonref20_all.Went.way h.rp h.ro k, ro, colophonref20_all.wr_then h.k h.ho k, h.ho.then_ ho h.k.1⟩
theorem colophonref20_all.blk {g : Nat} {ob : Obj} (hb : W.heap[g]? = some ob) (hk : Kept W W2 (fun a => some a = vo.ownBlock)) (hn : some g ≠ vo.ownBlock) : W2.heap[g]? = some ob := blk_kept hb hk hn
/-- The path's rows, as they were made. -/
theorem colophonref20_all.rowsM {d : Kd S56} {base : Nat} {ok : Nat → Prop} {A : Option Addr} {n c : Nat} (h : d.R 56 W base ok (.slice A n c) path) : ReadsRow (d.M W base (fun k => ok k ∧ some k ≠ (Value.slice A n c).ownBlock)) d.sz W A n path := by
  obtain ⟨A1, c1, he, hl, hr⟩ := OwnRow.reads h.2
  injection he with e1 e2 e3
  subst e1 e2
  exact hr
end
theorem colophonref20_all.apart {W W2 : World} {base : Nat} {v vp : Value} {path : List S56} {Q : Nat → Prop} (h : Kd.R k56 56 W base (fun k => True ∧ base ≤ k ∧ k < W.heap.size ∧ Q k) vp path) (hg : W.grownBy W2 none) (hat : ∃ b, v.ownBlock = some b ∧ W.heap.size ≤ b) : Kd.R k56 56 W2 base (fun a => some a ≠ v.ownBlock) vp path := by
  obtain ⟨b, h1, h2⟩ := hat
  refine Kd.R_mono (Kd.R_grown h hg (fun _ _ => by simp)) (fun k hk he => ?_)
  rw [h1] at he
  injection he with he
  have := hk.2.2.1
  omega
theorem colophonref20_all.newer {w W : World} {v v1 : Value} (h : ∀ k, v.ownBlock = some k → w.heap.size ≤ k) (hat : v1.ownBlock = v.ownBlock ∨ ∃ b, v1.ownBlock = some b ∧ W.heap.size ≤ b) (hs : w.heap.size ≤ W.heap.size) : ∀ k, v1.ownBlock = some k → w.heap.size ≤ k := by
  intro k hk
  rcases hat with e | ⟨b, e, hb⟩
  · exact h k (e ▸ hk)
  · rw [e] at hk
    injection hk with hk
    omega
theorem colophonref20_all.newest {w W : World} {v1 : Value} (hat : ∃ b, v1.ownBlock = some b ∧ W.heap.size ≤ b) (hs : w.heap.size ≤ W.heap.size) : ∀ k, v1.ownBlock = some k → w.heap.size ≤ k := by
  intro k hk
  obtain ⟨b, e, hb⟩ := hat
  rw [e] at hk
  injection hk with hk
  omega
theorem colophonref20_all.rows9 {w0 w : World} {vp vo : Value} {path : List S56} {out : List S33} {g : Nat} {p0 p1 p2 p3 p4 p5 p6 p7 p8 : Int} (hb : Below w0.heap.size w0 w) (rp : Kd.R k56 56 w w0.heap.size (fun _ => True) vp path) (ro : Kd.R k33 33 w w0.heap.size (fun _ => True) vo out) (hq : w.heap[g]? = some (.cells #[.int .i64 p0, .int .i64 p1, .int .i64 p2, .int .i64 p3, .int .i64 p4, .int .i64 p5, .int .i64 p6, .int .i64 p7, .int .i64 p8] 33 (0, 0))) (hg : w0.heap.size ≤ g) (n5 : some g ≠ vo.ownBlock) (q0 q1 q2 q3 q4 q5 q6 q7 q8 : Int) : Below w0.heap.size w0 (((((((((w.setCell ⟨g, 0, none⟩ (.int .i64 q0)).setCell ⟨g, 1, none⟩ (.int .i64 q1)).setCell ⟨g, 2, none⟩ (.int .i64 q2)).setCell ⟨g, 3, none⟩ (.int .i64 q3)).setCell ⟨g, 4, none⟩ (.int .i64 q4)).setCell ⟨g, 5, none⟩ (.int .i64 q5)).setCell ⟨g, 6, none⟩ (.int .i64 q6)).setCell ⟨g, 7, none⟩ (.int .i64 q7)).setCell ⟨g, 8, none⟩ (.int .i64 q8)) ∧ Kd.R k56 56 (((((((((w.setCell ⟨g, 0, none⟩ (.int .i64 q0)).setCell ⟨g, 1, none⟩ (.int .i64 q1)).setCell ⟨g, 2, none⟩ (.int .i64 q2)).setCell ⟨g, 3, none⟩ (.int .i64 q3)).setCell ⟨g, 4, none⟩ (.int .i64 q4)).setCell ⟨g, 5, none⟩ (.int .i64 q5)).setCell ⟨g, 6, none⟩ (.int .i64 q6)).setCell ⟨g, 7, none⟩ (.int .i64 q7)).setCell ⟨g, 8, none⟩ (.int .i64 q8)) w0.heap.size (fun _ => True) vp path ∧ Kd.R k33 33 (((((((((w.setCell ⟨g, 0, none⟩ (.int .i64 q0)).setCell ⟨g, 1, none⟩ (.int .i64 q1)).setCell ⟨g, 2, none⟩ (.int .i64 q2)).setCell ⟨g, 3, none⟩ (.int .i64 q3)).setCell ⟨g, 4, none⟩ (.int .i64 q4)).setCell ⟨g, 5, none⟩ (.int .i64 q5)).setCell ⟨g, 6, none⟩ (.int .i64 q6)).setCell ⟨g, 7, none⟩ (.int .i64 q7)).setCell ⟨g, 8, none⟩ (.int .i64 q8)) w0.heap.size (fun _ => True) vo out := by
  have p0_ := Kd.R_set rp hq (by decide) 0 (.int .i64 q0)
  have o0_ := Kd.R_mono (ok' := fun _ => True) (Kd.R_far (p := ⟨g, 0, none⟩) (Kd.R_far1 ro rfl n5) (fun _ hk => hk.2) (.int .i64 q0)) (fun _ _ => trivial)
  have k0_ : (w.setCell ⟨g, 0, none⟩ (.int .i64 q0)).heap[g]? = some (.cells #[.int .i64 q0, .int .i64 p1, .int .i64 p2, .int .i64 p3, .int .i64 p4, .int .i64 p5, .int .i64 p6, .int .i64 p7, .int .i64 p8] 33 (0, 0)) := blk_put hq 0 (.int .i64 q0) rfl
  have p1_ := Kd.R_set p0_ k0_ (by decide) 1 (.int .i64 q1)
  have o1_ := Kd.R_mono (ok' := fun _ => True) (Kd.R_far (p := ⟨g, 1, none⟩) (Kd.R_far1 o0_ rfl n5) (fun _ hk => hk.2) (.int .i64 q1)) (fun _ _ => trivial)
  have k1_ : ((w.setCell ⟨g, 0, none⟩ (.int .i64 q0)).setCell ⟨g, 1, none⟩ (.int .i64 q1)).heap[g]? = some (.cells #[.int .i64 q0, .int .i64 q1, .int .i64 p2, .int .i64 p3, .int .i64 p4, .int .i64 p5, .int .i64 p6, .int .i64 p7, .int .i64 p8] 33 (0, 0)) := blk_put k0_ 1 (.int .i64 q1) rfl
  have p2_ := Kd.R_set p1_ k1_ (by decide) 2 (.int .i64 q2)
  have o2_ := Kd.R_mono (ok' := fun _ => True) (Kd.R_far (p := ⟨g, 2, none⟩) (Kd.R_far1 o1_ rfl n5) (fun _ hk => hk.2) (.int .i64 q2)) (fun _ _ => trivial)
  have k2_ : (((w.setCell ⟨g, 0, none⟩ (.int .i64 q0)).setCell ⟨g, 1, none⟩ (.int .i64 q1)).setCell ⟨g, 2, none⟩ (.int .i64 q2)).heap[g]? = some (.cells #[.int .i64 q0, .int .i64 q1, .int .i64 q2, .int .i64 p3, .int .i64 p4, .int .i64 p5, .int .i64 p6, .int .i64 p7, .int .i64 p8] 33 (0, 0)) := blk_put k1_ 2 (.int .i64 q2) rfl
  have p3_ := Kd.R_set p2_ k2_ (by decide) 3 (.int .i64 q3)
  have o3_ := Kd.R_mono (ok' := fun _ => True) (Kd.R_far (p := ⟨g, 3, none⟩) (Kd.R_far1 o2_ rfl n5) (fun _ hk => hk.2) (.int .i64 q3)) (fun _ _ => trivial)
  have k3_ : ((((w.setCell ⟨g, 0, none⟩ (.int .i64 q0)).setCell ⟨g, 1, none⟩ (.int .i64 q1)).setCell ⟨g, 2, none⟩ (.int .i64 q2)).setCell ⟨g, 3, none⟩ (.int .i64 q3)).heap[g]? = some (.cells #[.int .i64 q0, .int .i64 q1, .int .i64 q2, .int .i64 q3, .int .i64 p4, .int .i64 p5, .int .i64 p6, .int .i64 p7, .int .i64 p8] 33 (0, 0)) := blk_put k2_ 3 (.int .i64 q3) rfl
  have p4_ := Kd.R_set p3_ k3_ (by decide) 4 (.int .i64 q4)
  have o4_ := Kd.R_mono (ok' := fun _ => True) (Kd.R_far (p := ⟨g, 4, none⟩) (Kd.R_far1 o3_ rfl n5) (fun _ hk => hk.2) (.int .i64 q4)) (fun _ _ => trivial)
  have k4_ : (((((w.setCell ⟨g, 0, none⟩ (.int .i64 q0)).setCell ⟨g, 1, none⟩ (.int .i64 q1)).setCell ⟨g, 2, none⟩ (.int .i64 q2)).setCell ⟨g, 3, none⟩ (.int .i64 q3)).setCell ⟨g, 4, none⟩ (.int .i64 q4)).heap[g]? = some (.cells #[.int .i64 q0, .int .i64 q1, .int .i64 q2, .int .i64 q3, .int .i64 q4, .int .i64 p5, .int .i64 p6, .int .i64 p7, .int .i64 p8] 33 (0, 0)) := blk_put k3_ 4 (.int .i64 q4) rfl
  have p5_ := Kd.R_set p4_ k4_ (by decide) 5 (.int .i64 q5)
  have o5_ := Kd.R_mono (ok' := fun _ => True) (Kd.R_far (p := ⟨g, 5, none⟩) (Kd.R_far1 o4_ rfl n5) (fun _ hk => hk.2) (.int .i64 q5)) (fun _ _ => trivial)
  have k5_ : ((((((w.setCell ⟨g, 0, none⟩ (.int .i64 q0)).setCell ⟨g, 1, none⟩ (.int .i64 q1)).setCell ⟨g, 2, none⟩ (.int .i64 q2)).setCell ⟨g, 3, none⟩ (.int .i64 q3)).setCell ⟨g, 4, none⟩ (.int .i64 q4)).setCell ⟨g, 5, none⟩ (.int .i64 q5)).heap[g]? = some (.cells #[.int .i64 q0, .int .i64 q1, .int .i64 q2, .int .i64 q3, .int .i64 q4, .int .i64 q5, .int .i64 p6, .int .i64 p7, .int .i64 p8] 33 (0, 0)) := blk_put k4_ 5 (.int .i64 q5) rfl
  have p6_ := Kd.R_set p5_ k5_ (by decide) 6 (.int .i64 q6)
  have o6_ := Kd.R_mono (ok' := fun _ => True) (Kd.R_far (p := ⟨g, 6, none⟩) (Kd.R_far1 o5_ rfl n5) (fun _ hk => hk.2) (.int .i64 q6)) (fun _ _ => trivial)
  have k6_ : (((((((w.setCell ⟨g, 0, none⟩ (.int .i64 q0)).setCell ⟨g, 1, none⟩ (.int .i64 q1)).setCell ⟨g, 2, none⟩ (.int .i64 q2)).setCell ⟨g, 3, none⟩ (.int .i64 q3)).setCell ⟨g, 4, none⟩ (.int .i64 q4)).setCell ⟨g, 5, none⟩ (.int .i64 q5)).setCell ⟨g, 6, none⟩ (.int .i64 q6)).heap[g]? = some (.cells #[.int .i64 q0, .int .i64 q1, .int .i64 q2, .int .i64 q3, .int .i64 q4, .int .i64 q5, .int .i64 q6, .int .i64 p7, .int .i64 p8] 33 (0, 0)) := blk_put k5_ 6 (.int .i64 q6) rfl
  have p7_ := Kd.R_set p6_ k6_ (by decide) 7 (.int .i64 q7)
  have o7_ := Kd.R_mono (ok' := fun _ => True) (Kd.R_far (p := ⟨g, 7, none⟩) (Kd.R_far1 o6_ rfl n5) (fun _ hk => hk.2) (.int .i64 q7)) (fun _ _ => trivial)
  have k7_ : ((((((((w.setCell ⟨g, 0, none⟩ (.int .i64 q0)).setCell ⟨g, 1, none⟩ (.int .i64 q1)).setCell ⟨g, 2, none⟩ (.int .i64 q2)).setCell ⟨g, 3, none⟩ (.int .i64 q3)).setCell ⟨g, 4, none⟩ (.int .i64 q4)).setCell ⟨g, 5, none⟩ (.int .i64 q5)).setCell ⟨g, 6, none⟩ (.int .i64 q6)).setCell ⟨g, 7, none⟩ (.int .i64 q7)).heap[g]? = some (.cells #[.int .i64 q0, .int .i64 q1, .int .i64 q2, .int .i64 q3, .int .i64 q4, .int .i64 q5, .int .i64 q6, .int .i64 q7, .int .i64 p8] 33 (0, 0)) := blk_put k6_ 7 (.int .i64 q7) rfl
  have p8_ := Kd.R_set p7_ k7_ (by decide) 8 (.int .i64 q8)
  have o8_ := Kd.R_mono (ok' := fun _ => True) (Kd.R_far (p := ⟨g, 8, none⟩) (Kd.R_far1 o7_ rfl n5) (fun _ hk => hk.2) (.int .i64 q8)) (fun _ _ => trivial)
  have k8_ : (((((((((w.setCell ⟨g, 0, none⟩ (.int .i64 q0)).setCell ⟨g, 1, none⟩ (.int .i64 q1)).setCell ⟨g, 2, none⟩ (.int .i64 q2)).setCell ⟨g, 3, none⟩ (.int .i64 q3)).setCell ⟨g, 4, none⟩ (.int .i64 q4)).setCell ⟨g, 5, none⟩ (.int .i64 q5)).setCell ⟨g, 6, none⟩ (.int .i64 q6)).setCell ⟨g, 7, none⟩ (.int .i64 q7)).setCell ⟨g, 8, none⟩ (.int .i64 q8)).heap[g]? = some (.cells #[.int .i64 q0, .int .i64 q1, .int .i64 q2, .int .i64 q3, .int .i64 q4, .int .i64 q5, .int .i64 q6, .int .i64 q7, .int .i64 q8] 33 (0, 0)) := blk_put k7_ 8 (.int .i64 q8) rfl
  exact ⟨(below_set (below_set (below_set (below_set (below_set (below_set (below_set (below_set (below_set hb hg) hg) hg) hg) hg) hg) hg) hg) hg), p8_, o8_⟩
set_option maxHeartbeats 8000000 in
set_option maxRecDepth 100000 in
theorem colophonref20_all.downs (l : List S41) (w0 : World) (Al : Option Addr) (cl : Nat) (hl : Kd.C k41 w0 Al l.length l) (hlc : l.length ≤ cl) : ∀ (k : Nat) (x : S52) (A2 : Option Addr) (c2 : Nat) (A3 : Option Addr) (c3 : Nat) (par : S33) (path : List S56) (out r : List S33) (vp vo : Value) (w : World)
    (hb : Below w0.heap.size w0 w) (rp : Kd.R k56 56 w w0.heap.size (fun _ => True) vp path) (ro : Kd.R k33 33 w w0.heap.size (fun _ => True) vo out) (h2 : Kd.C k82 w0 A2 x.f2.length x.f2) (hc2 : x.f2.length ≤ c2) (h3 : Kd.C k52 w0 A3 x.f3.length x.f3) (hc3 : x.f3.length ≤ c3) (h : colophonref20_all.down l k path x par out = some r),
    Calls Try.prog 49 #[vo, .slice Al l.length cl, .agg #[.string x.f0, .string x.f1, .slice A2 x.f2.length c2, .slice A3 x.f3.length c3, .int .i64 x.f4], vp, .agg #[.int .i64 par.f0, .int .i64 par.f1, .int .i64 par.f2, .int .i64 par.f3, .int .i64 par.f4, .int .i64 par.f5, .int .i64 par.f6, .int .i64 par.f7, .int .i64 par.f8]] w fun e w' => ∃ vo', e = .returned vo' ∧ Below w0.heap.size w0 w' ∧ Kd.R k33 33 w' w0.heap.size (fun _ => True) vo' r ∧ Kept w w' (fun a => some a = vo.ownBlock) ∧ style_All.Hat w vo vo' := by
  intro k
  induction k with
  | zero =>
    intro x A2 c2 A3 c3 par path out r vp vo w hb rp ro h2 hc2 h3 hc3 h
    rw [colophonref20_all.down] at h
    cases h
  | succ k ih =>
  intro x A2 c2 A3 c3 par path out r vp vo w hb rp ro h2 hc2 h3 hc3 h
  rw [colophonref20_all.down] at h
  obtain ⟨x0, x1, x2, x3, x4⟩ := x
  obtain ⟨p0, p1, p2, p3, p4, p5, p6, p7, p8⟩ := par
  dsimp only at h h2 hc2 h3 hc3 ⊢
  obtain ⟨Ap, cp, rfl⟩ := Kd.R_slice rp
  obtain ⟨Av, cv, rfl⟩ := Kd.R_slice ro
  have HB0 := Aside0.mk hb
  have RP0 := Aside0.mk rp
  have RO0 := Aside0.mk ro
  have H2 := Aside0.mk h2
  have HC2 := Aside0.mk hc2
  have H3 := Aside0.mk h3
  have HC3 := Aside0.mk hc3
  have HL := Aside0.mk hl
  have HLC := Aside0.mk hlc
  have H := Aside0.mk h
  clear hb rp ro h2 hc2 h3 hc3 h
  go_enter Try.func49, Try.ntmps49
  have z1 : ((w.alloc (.cells #[.string x0, .string x1, .slice A2 x2.length c2, .slice A3 x3.length c3, .int .i64 x4] 52)).alloc (.cells #[.int .i64 p0, .int .i64 p1, .int .i64 p2, .int .i64 p3, .int .i64 p4, .int .i64 p5, .int .i64 p6, .int .i64 p7, .int .i64 p8] 33)).heap[w.heap.size]? = some (.cells #[.string x0, .string x1, .slice A2 x2.length c2, .slice A3 x3.length c3, .int .i64 x4] 52 (0, 0)) := ((below_alloc (Below.refl _ _) _).block _ (by simp)).trans (heap_alloc_new w _)
  have z2 : ((w.alloc (.cells #[.string x0, .string x1, .slice A2 x2.length c2, .slice A3 x3.length c3, .int .i64 x4] 52)).alloc (.cells #[.int .i64 p0, .int .i64 p1, .int .i64 p2, .int .i64 p3, .int .i64 p4, .int .i64 p5, .int .i64 p6, .int .i64 p7, .int .i64 p8] 33)).heap[w.heap.size + 1]? = some (.cells #[.int .i64 p0, .int .i64 p1, .int .i64 p2, .int .i64 p3, .int .i64 p4, .int .i64 p5, .int .i64 p6, .int .i64 p7, .int .i64 p8] 33 (0, 0)) := by
    have := heap_alloc_new (w.alloc (.cells #[.string x0, .string x1, .slice A2 x2.length c2, .slice A3 x3.length c3, .int .i64 x4] 52)) (.cells #[.int .i64 p0, .int .i64 p1, .int .i64 p2, .int .i64 p3, .int .i64 p4, .int .i64 p5, .int .i64 p6, .int .i64 p7, .int .i64 p8] 33)
    rw [show (w.alloc (.cells #[.string x0, .string x1, .slice A2 x2.length c2, .slice A3 x3.length c3, .int .i64 x4] 52)).heap.size = w.heap.size + 1 by simp] at this
    exact this
  have z3 := below_alloc (below_alloc (Below.refl w.heap.size w) (.cells #[.string x0, .string x1, .slice A2 x2.length c2, .slice A3 x3.length c3, .int .i64 x4] 52)) (.cells #[.int .i64 p0, .int .i64 p1, .int .i64 p2, .int .i64 p3, .int .i64 p4, .int .i64 p5, .int .i64 p6, .int .i64 p7, .int .i64 p8] 33)
  have BN := Aside0.mk z1
  have BQ := Aside0.mk z2
  have HW := Aside0.mk z3
  clear z1 z2 z3
  go_upto_region 1 with (fail)
  generalize ((w.alloc (.cells #[.string x0, .string x1, .slice A2 x2.length c2, .slice A3 x3.length c3, .int .i64 x4] 52)).alloc (.cells #[.int .i64 p0, .int .i64 p1, .int .i64 p2, .int .i64 p3, .int .i64 p4, .int .i64 p5, .int .i64 p6, .int .i64 p7, .int .i64 p8] 33)) = w1 at BN BQ HW ⊢
  have G0 := Aside0.mk HB0.out.size
  have LN : Aside0 (w.heap.size < w.heap.size + 1) := ⟨by omega⟩
  have n0_ := Aside0.mk (below_step HB0.out HW.out)
  have n1_ := Aside0.mk (Kd.R_below RP0.out HW.out)
  have n2_ := Aside0.mk (Kd.R_below RO0.out HW.out)
  have NO : Aside0 (some (w.heap.size + 1) ≠ (Value.slice Av out.length cv).ownBlock) := ⟨fun e => by have := Kd.R_lt RO0.out _ e.symm; omega⟩
  have n3_ := Aside0.mk (Kept.of_below HW.out (fun a => some a = (Value.slice Av out.length cv).ownBlock))
  clear HB0 RP0 RO0 HW
  have HB := n0_
  have RP := n1_
  have RO := n2_
  have HW := n3_
  clear n0_ n1_ n2_ n3_
  have hc0 : w1.cell? ⟨w.heap.size, 0, none⟩ = some (.string x0) := (blk_cell BN.out 0).trans rfl
  have hc1 : w1.cell? ⟨w.heap.size, 1, none⟩ = some (.string x1) := (blk_cell BN.out 1).trans rfl
  have hc2 : w1.cell? ⟨w.heap.size, 2, none⟩ = some (.slice A2 x2.length c2) := (blk_cell BN.out 2).trans rfl
  have hc3 : w1.cell? ⟨w.heap.size, 3, none⟩ = some (.slice A3 x3.length c3) := (blk_cell BN.out 3).trans rfl
  have hc4 : w1.cell? ⟨w.heap.size, 4, none⟩ = some (.int .i64 x4) := (blk_cell BN.out 4).trans rfl
  cases hx : x0.toList.isEmpty with
  | true =>
    have H1 := Aside0.mk ((if_pos hx).symm.trans H.out)
    clear H
    go_upto_region 5 with (fail)
    clear hc0 hc1 hc2 hc3 hc4 hx
    have hT1 : ((x3.length : Int) ≤ 9223372036854775807) := by have := Kd.C_max H3.out; omega
    go_wp2
    go_loopg [0, 11] x3.length (fun kq v0 v11 w' => ∃ (i : Nat) (o : List S33) (vr : Value), v0 = vr ∧ v11 = .int .i64 (i : Int) ∧ Aside0 (i + kq = x3.length) ∧ Aside0 (style_All.kids (fun x o => colophonref20_all.down l k path x ⟨p0, p1, p2, p3, p4, p5, p6, p7, p8⟩ o) (x3.drop i) o = some r) ∧ Aside0 (colophonref20_all.Went w0 w w' (.slice Ap path.length cp) (.slice Av out.length cv) path o vr) ∧ Aside0 (w'.heap[w.heap.size]? = some (.cells #[.string x0, .string x1, .slice A2 x2.length c2, .slice A3 x3.length c3, .int .i64 x4] 52 (0, 0))) ∧ Aside0 (w'.heap[w.heap.size + 1]? = some (.cells #[.int .i64 p0, .int .i64 p1, .int .i64 p2, .int .i64 p3, .int .i64 p4, .int .i64 p5, .int .i64 p6, .int .i64 p7, .int .i64 p8] 33 (0, 0))) ∧ Aside0 (some (w.heap.size + 1) ≠ vr.ownBlock))
    case atStart => exact ⟨0, out, (.slice Av out.length cv), rfl, rfl, ⟨by omega⟩, H1, ⟨⟨HB.out, RP.out, RO.out, HW.out, .inl rfl⟩⟩, BN, BQ, NO⟩
    case round =>
      clear H1 BN BQ HW HB RP RO NO
      obtain ⟨i, o, vr, rfl, rfl, HI, HK, HW, BN, BQ, NO⟩ := hrel
      have hc3 : wr.cell? ⟨w.heap.size, 3, none⟩ = some (.slice A3 x3.length c3) := (blk_cell BN.out 3).trans rfl
      cases gk with
      | zero =>
        have hi : i = x3.length := by have := HI.out; omega
        subst hi
        have hr : o = r := by have := HK.out; rw [List.drop_eq_nil_of_le (Nat.le_refl _), style_All.kids] at this; exact Option.some.inj this
        subst hr
        have kc1 : ((x3.length : Int) < (x3.length : Int)) = False := eq_false (by omega)
        have kc2 : (x3.length < x3.length) = False := eq_false (by omega)
        go_wp2
        obtain ⟨A9, c9, rfl⟩ := Kd.R_slice HW.out.ro
        go_wp2
        go_ret
        exact ⟨_, rfl, HW.out.b, HW.out.ro, HW.out.k, HW.out.ho⟩
      | succ q =>
        have hi : i < x3.length := by have := HI.out; omega
        have kc1 : ((i : Int) < (x3.length : Int)) = True := eq_true (by omega)
        have kc2 : (i < x3.length) = True := eq_true hi
        have kc3 : ((0 : Int) ≤ (i : Int)) = True := eq_true (by omega)
        have kc4 : decide ((i : Int) < (x3.length : Int)) = true := decide_eq_true (by omega)
        have kc5 : decide (i < x3.length) = true := decide_eq_true hi
        have kc6 : IntKind.i64.wrap ((i : Int) + 1) = (i : Int) + 1 := by rw [IntKind.wrap_i64]; omega
        have HI2 : Aside0 (i + 1 + q = x3.length) := ⟨by have := HI.out; omega⟩
        have hk := HK.out
        rw [style_All.drop52 hi, style_All.kids] at hk
        obtain ⟨o2, hd0, hk2⟩ := Option.bind_eq_some_iff.mp hk
        have HD := Aside0.mk hd0
        have HK2 := Aside0.mk hk2
        clear hk hd0 hk2 HK
        obtain ⟨ad, B2, e2, B3, e3, rfl, y0, y1, y2, y3, y4, l2, g2, l3, g3⟩ := at_T52 H3.out (i : Int) (by omega) (by omega)
        simp only [Int.toNat_natCast] at y0 y1 y2 y3 y4
        have YS := Aside0.mk (And.intro y0 (And.intro y1 (And.intro y2 (And.intro y3 y4))))
        replace y0 := (HW.out.b.cell (World.block_lt_of_cell? w0 _ y0)).trans y0
        replace y1 := (HW.out.b.cell (World.block_lt_of_cell? w0 _ y1)).trans y1
        replace y2 := (HW.out.b.cell (World.block_lt_of_cell? w0 _ y2)).trans y2
        replace y3 := (HW.out.b.cell (World.block_lt_of_cell? w0 _ y3)).trans y3
        replace y4 := (HW.out.b.cell (World.block_lt_of_cell? w0 _ y4)).trans y4
        have HE : Aside0 (wr.cell? (ad.add (i * 5)) = some (.string (rd_T52 x3 (i : Int)).f0) ∧ wr.cell? ⟨(ad.add (i * 5)).block, (ad.add (i * 5)).off + 1, none⟩ = some (.string (rd_T52 x3 (i : Int)).f1) ∧ wr.cell? ⟨(ad.add (i * 5)).block, (ad.add (i * 5)).off + 2, none⟩ = some (.slice B2 (rd_T52 x3 (i : Int)).f2.length e2) ∧ wr.cell? ⟨(ad.add (i * 5)).block, (ad.add (i * 5)).off + 3, none⟩ = some (.slice B3 (rd_T52 x3 (i : Int)).f3.length e3) ∧ wr.cell? ⟨(ad.add (i * 5)).block, (ad.add (i * 5)).off + 4, none⟩ = some (.int .i64 (rd_T52 x3 (i : Int)).f4)) := ⟨y0, y1, y2, y3, y4⟩
        have L2 := Aside0.mk l2
        have G2 := Aside0.mk g2
        have L3 := Aside0.mk l3
        have G3 := Aside0.mk g3
        clear l2 g2 l3 g3 y0 y1 y2 y3 y4
        obtain ⟨Ar, cr, rfl⟩ := Kd.R_slice HW.out.ro
        go_upto_region 8 with (fail)
        clear hc3
        have n0_ := Aside0.mk (HW.out.below (below_drew (Below.refl _ _)))
        have n1_ := Aside0.mk (blk_drew BN.out)
        have n2_ := Aside0.mk (blk_drew BQ.out)
        have n3_ : Aside0 (wr.drew.cell? (ad.add (i * 5)) = some (.string (rd_T52 x3 (i : Int)).f0) ∧ wr.drew.cell? ⟨(ad.add (i * 5)).block, (ad.add (i * 5)).off + 1, none⟩ = some (.string (rd_T52 x3 (i : Int)).f1) ∧ wr.drew.cell? ⟨(ad.add (i * 5)).block, (ad.add (i * 5)).off + 2, none⟩ = some (.slice B2 (rd_T52 x3 (i : Int)).f2.length e2) ∧ wr.drew.cell? ⟨(ad.add (i * 5)).block, (ad.add (i * 5)).off + 3, none⟩ = some (.slice B3 (rd_T52 x3 (i : Int)).f3.length e3) ∧ wr.drew.cell? ⟨(ad.add (i * 5)).block, (ad.add (i * 5)).off + 4, none⟩ = some (.int .i64 (rd_T52 x3 (i : Int)).f4)) := ⟨HE.out.1, HE.out.2.1, HE.out.2.2.1, HE.out.2.2.2.1, HE.out.2.2.2.2⟩
        clear HW BN BQ HE
        have HW := n0_
        have BN := n1_
        have BQ := n2_
        have HE := n3_
        clear n0_ n1_ n2_ n3_
        refine start_ (n := 11) (S := fun w' => w'.cell? ⟨w.heap.size, 3, none⟩ = some (.slice (some ad) x3.length c3) ∧ w'.cell? (ad.add (i * 5)) = some (.string (rd_T52 x3 (i : Int)).f0) ∧ w'.cell? ⟨(ad.add (i * 5)).block, (ad.add (i * 5)).off + 1, none⟩ = some (.string (rd_T52 x3 (i : Int)).f1) ∧ w'.cell? ⟨(ad.add (i * 5)).block, (ad.add (i * 5)).off + 2, none⟩ = some (.slice B2 (rd_T52 x3 (i : Int)).f2.length e2) ∧ w'.cell? ⟨(ad.add (i * 5)).block, (ad.add (i * 5)).off + 3, none⟩ = some (.slice B3 (rd_T52 x3 (i : Int)).f3.length e3) ∧ w'.cell? ⟨(ad.add (i * 5)).block, (ad.add (i * 5)).off + 4, none⟩ = some (.int .i64 (rd_T52 x3 (i : Int)).f4) ∧ w'.cell? ⟨w.heap.size + 1, 0, none⟩ = some (.int .i64 p0) ∧ w'.cell? ⟨w.heap.size + 1, 1, none⟩ = some (.int .i64 p1) ∧ w'.cell? ⟨w.heap.size + 1, 2, none⟩ = some (.int .i64 p2) ∧ w'.cell? ⟨w.heap.size + 1, 3, none⟩ = some (.int .i64 p3) ∧ w'.cell? ⟨w.heap.size + 1, 4, none⟩ = some (.int .i64 p4) ∧ w'.cell? ⟨w.heap.size + 1, 5, none⟩ = some (.int .i64 p5) ∧ w'.cell? ⟨w.heap.size + 1, 6, none⟩ = some (.int .i64 p6) ∧ w'.cell? ⟨w.heap.size + 1, 7, none⟩ = some (.int .i64 p7) ∧ w'.cell? ⟨w.heap.size + 1, 8, none⟩ = some (.int .i64 p8)) (ds := []) #[false, false, false, false, false, false, false, false, false, false, false] (by kernel_rfl) rfl rfl ⟨(blk_cell BN.out 3).trans rfl, HE.out.1, HE.out.2.1, HE.out.2.2.1, HE.out.2.2.2.1, HE.out.2.2.2.2, (blk_cell BQ.out 0).trans rfl, (blk_cell BQ.out 1).trans rfl, (blk_cell BQ.out 2).trans rfl, (blk_cell BQ.out 3).trans rfl, (blk_cell BQ.out 4).trans rfl, (blk_cell BQ.out 5).trans rfl, (blk_cell BQ.out 6).trans rfl, (blk_cell BQ.out 7).trans rfl, (blk_cell BQ.out 8).trans rfl⟩ (fun hHeld => ?_)
        generalize wr.drew = w5 at BN BQ HW HE hHeld ⊢
        refine pure_ (i := 0) (N := some 37) (v := ?_) (a' := ?_) #[true, false, false, false, false, false, false, false, false, false, false] rfl rfl (by kernel_rfl) (fun _ _ _ h => h) (Or.inl ⟨by rfl, ?_⟩) ?_ ?_
        rotate_left
        · intro w'
          go_simp
          with_reducible rfl
        rotate_left
        · simp only [Act.put, List.setIfInBounds_toArray, List.set_cons_zero, List.set_cons_succ, i64_w, i32_w]
          rfl
        refine pure_ (i := 1) (N := some 38) (v := ?_) (a' := ?_) #[true, true, false, false, false, false, false, false, false, false, false] rfl rfl (by kernel_rfl) (fun _ _ _ h => h) (Or.inl ⟨by rfl, ?_⟩) ?_ ?_
        rotate_left
        · intro w'
          go_simp
          with_reducible rfl
        rotate_left
        · simp only [Act.put, List.setIfInBounds_toArray, List.set_cons_zero, List.set_cons_succ, i64_w, i32_w]
          rfl
        refine pure_ (i := 2) (N := some 39) (v := ?_) (a' := ?_) #[true, true, true, false, false, false, false, false, false, false, false] rfl rfl (by kernel_rfl) (fun _ _ _ h => h) (Or.inl ⟨by rfl, ?_⟩) ?_ ?_
        rotate_left
        · intro w'
          go_simp
          with_reducible rfl
        rotate_left
        · simp only [Act.put, List.setIfInBounds_toArray, List.set_cons_zero, List.set_cons_succ, i64_w, i32_w]
          rfl
        refine take_ (i := 3) (N := some 40) (v := ?_) (a' := ?_) #[true, true, true, true, false, false, false, false, false, false, false] rfl rfl (by kernel_rfl) (fun _ _ _ h => h) (Or.inl ⟨by rfl, ?_⟩) hHeld ?_ ?_
        rotate_left
        · rintro w' ⟨s0, s1, s2, s3, s4, s5, s6, s7, s8, s9, s10, s11, s12, s13, s14⟩
          go_simp
          with_reducible rfl
        rotate_left
        · simp only [Act.put, List.setIfInBounds_toArray, List.set_cons_zero, List.set_cons_succ, i64_w, i32_w]
          rfl
        refine pure_ (i := 4) (N := some 41) (v := ?_) (a' := ?_) #[true, true, true, true, true, false, false, false, false, false, false] rfl rfl (by kernel_rfl) (fun _ _ _ h => h) (Or.inl ⟨by rfl, ?_⟩) ?_ ?_
        rotate_left
        · intro w'
          go_simp
          with_reducible rfl
        rotate_left
        · simp only [Act.put, List.setIfInBounds_toArray, List.set_cons_zero, List.set_cons_succ, i64_w, i32_w]
          rfl
        refine pure_ (i := 5) (N := some 42) (v := ?_) (a' := ?_) #[true, true, true, true, true, true, false, false, false, false, false] rfl rfl (by kernel_rfl) (fun _ _ _ h => h) (Or.inl ⟨by rfl, ?_⟩) ?_ ?_
        rotate_left
        · intro w'
          go_simp
          with_reducible rfl
        rotate_left
        · simp only [Act.put, List.setIfInBounds_toArray, List.set_cons_zero, List.set_cons_succ, i64_w, i32_w]
          rfl
        refine take_ (i := 6) (N := some 43) (v := ?_) (a' := ?_) #[true, true, true, true, true, true, true, false, false, false, false] rfl rfl (by kernel_rfl) (fun _ _ _ h => h) (Or.inl ⟨by rfl, ?_⟩) hHeld ?_ ?_
        rotate_left
        · rintro w' ⟨s0, s1, s2, s3, s4, s5, s6, s7, s8, s9, s10, s11, s12, s13, s14⟩
          go_simp
          with_reducible rfl
        rotate_left
        · simp only [Act.put, List.setIfInBounds_toArray, List.set_cons_zero, List.set_cons_succ, i64_w, i32_w]
          rfl
        refine pure_ (i := 7) (N := some 44) (v := ?_) (a' := ?_) #[true, true, true, true, true, true, true, true, false, false, false] rfl rfl (by kernel_rfl) (fun _ _ _ h => h) (Or.inl ⟨by rfl, ?_⟩) ?_ ?_
        rotate_left
        · intro w'
          go_simp
          with_reducible rfl
        rotate_left
        · simp only [Act.put, List.setIfInBounds_toArray, List.set_cons_zero, List.set_cons_succ, i64_w, i32_w]
          rfl
        refine take_ (i := 8) (N := some 45) (v := ?_) (a' := ?_) #[true, true, true, true, true, true, true, true, true, false, false] rfl rfl (by kernel_rfl) (fun _ _ _ h => h) (Or.inl ⟨by rfl, ?_⟩) hHeld ?_ ?_
        rotate_left
        · rintro w' ⟨s0, s1, s2, s3, s4, s5, s6, s7, s8, s9, s10, s11, s12, s13, s14⟩
          go_simp
          with_reducible rfl
        rotate_left
        · simp only [Act.put, List.setIfInBounds_toArray, List.set_cons_zero, List.set_cons_succ, i64_w, i32_w]
          rfl
        refine one_ (i := 9) (N := some 46) #[true, true, true, true, true, true, true, true, true, true, false] rfl rfl (by kernel_rfl) (by decide) (fun K hK => ?_)
        refine goes_ Try.func49 (by kernel_rfl) rfl #[.slice Ar o.length cr, .slice Al l.length cl, .agg #[.string (rd_T52 x3 (i : Int)).f0, .string (rd_T52 x3 (i : Int)).f1, .slice B2 (rd_T52 x3 (i : Int)).f2.length e2, .slice B3 (rd_T52 x3 (i : Int)).f3.length e3, .int .i64 (rd_T52 x3 (i : Int)).f4], (.slice Ap path.length cp), .agg #[.int .i64 p0, .int .i64 p1, .int .i64 p2, .int .i64 p3, .int .i64 p4, .int .i64 p5, .int .i64 p6, .int .i64 p7, .int .i64 p8]] (by rfl) rfl rfl (by (try simp only [List.map_toArray, List.map_cons, List.map_nil]); first | done | rfl) ?_
        with_reducible refine (ih (rd_T52 x3 (i : Int)) B2 e2 B3 e3 ⟨p0, p1, p2, p3, p4, p5, p6, p7, p8⟩ path o o2 (.slice Ap path.length cp) (.slice Ar o.length cr) w5 HW.out.b HW.out.rp HW.out.ro G2.out L2.out G3.out L3.out HD.out).mono ?_
        rintro e w9 ⟨vr2, rfl, hb2, ho2, hk2, ht2⟩
        refine ⟨_, rfl, ?_⟩
        have n0_ := Aside0.mk (HW.out.next hb2 ho2 hk2 ht2)
        have n1_ := Aside0.mk (colophonref20_all.blk BN.out hk2 (Kd.R_ne HW.out.ro BN.out (by decide)))
        have n2_ := Aside0.mk (colophonref20_all.blk BQ.out hk2 NO.out)
        have n3_ := Aside0.mk (ht2.old (blk_lt BQ.out) NO.out)
        have y0 := (hb2.cell (World.block_lt_of_cell? w0 _ YS.out.1)).trans YS.out.1
        have y1 := (hb2.cell (World.block_lt_of_cell? w0 _ YS.out.2.1)).trans YS.out.2.1
        have y2 := (hb2.cell (World.block_lt_of_cell? w0 _ YS.out.2.2.1)).trans YS.out.2.2.1
        have y3 := (hb2.cell (World.block_lt_of_cell? w0 _ YS.out.2.2.2.1)).trans YS.out.2.2.2.1
        have y4 := (hb2.cell (World.block_lt_of_cell? w0 _ YS.out.2.2.2.2)).trans YS.out.2.2.2.2
        obtain ⟨A8, c8, rfl⟩ := Kd.R_slice ho2
        clear HW BN BQ NO HE
        have HW := n0_
        have BN := n1_
        have BQ := n2_
        have NO := n3_
        have HE := Aside0.mk (And.intro y0 (And.intro y1 (And.intro y2 (And.intro y3 y4))))
        clear n0_ n1_ n2_ n3_ hb2 ho2 hk2 ht2 y0 y1 y2 y3 y4
        refine hK.out _ _ ⟨(blk_cell BN.out 3).trans rfl, HE.out.1, HE.out.2.1, HE.out.2.2.1, HE.out.2.2.2.1, HE.out.2.2.2.2, (blk_cell BQ.out 0).trans rfl, (blk_cell BQ.out 1).trans rfl, (blk_cell BQ.out 2).trans rfl, (blk_cell BQ.out 3).trans rfl, (blk_cell BQ.out 4).trans rfl, (blk_cell BQ.out 5).trans rfl, (blk_cell BQ.out 6).trans rfl, (blk_cell BQ.out 7).trans rfl, (blk_cell BQ.out 8).trans rfl⟩ (fun hHeld => ?_)
        clear hK K
        refine norm_ (a' := ?_) ?_ ?_
        rotate_left
        · show Act.put _ (some 46) _ = _
          simp only [Act.put, List.setIfInBounds_toArray, List.set_cons_zero, List.set_cons_succ, i64_w, i32_w]
          rfl
        refine pure_ (i := 10) (N := some 0) (v := ?_) (a' := ?_) #[true, true, true, true, true, true, true, true, true, true, true] rfl rfl (by kernel_rfl) (fun _ _ _ h => h) (Or.inl ⟨by rfl, ?_⟩) ?_ ?_
        rotate_left
        · intro w'
          go_simp
          with_reducible rfl
        rotate_left
        · simp only [Act.put, List.setIfInBounds_toArray, List.set_cons_zero, List.set_cons_succ, i64_w, i32_w]
          rfl
        refine done_ (by kernel_rfl) ?_
        try go_wp2
        go_roundg q
        case measure => exact Nat.lt_succ_self q
        case rel => exact ⟨i + 1, o2, _, rfl, by go_num, HI2, HK2, HW, BN, BQ, NO⟩

  | false =>
    have H1 := Aside0.mk ((if_neg (show ¬ x0.toList.isEmpty = true by rw [hx]; decide)).symm.trans H.out)
    clear H
    by_cases hroom : path.length < 1000000 ∧ out.length < 1000000
    · have HR := Aside0.mk hroom
      have H := Aside0.mk ((if_pos hroom).symm.trans H1.out)
      clear H1 hroom
      obtain ⟨⟨f0, f1, f2⟩, AF0, H2_⟩ := Option.bind_eq_some_iff.mp H.out
      obtain ⟨⟨q0, q1, q2, q3, q4, q5, q6, q7, q8⟩, AQ0, H3_⟩ := Option.bind_eq_some_iff.mp H2_
      dsimp only [style_All.s33] at H3_ AQ0
      have AF := Aside0.mk AF0
      have AQ := Aside0.mk AQ0
      have H1 := Aside0.mk H3_
      clear H H2_ AF0 AQ0 H3_
      obtain ⟨np, hnp⟩ : ∃ z, path ++ [(⟨f0, f1, f2⟩ : S56)] = z := ⟨_, rfl⟩
      rw [hnp] at AQ H1
      have HNP := Aside0.mk hnp
      clear hnp
      go_upto_region 2 with (fail)
      clear hc0 hc1 hc2 hc3 hc4 hx
      have n0_ := Aside0.mk (blk_drew BN.out)
      have n1_ := Aside0.mk (blk_drew BQ.out)
      have n2_ := Aside0.mk (Kept.drew HW.out)
      have n3_ := Aside0.mk (Kd.R_drew RP.out)
      have n4_ := Aside0.mk (Kd.R_drew RO.out)
      have n5_ := Aside0.mk (below_drew1 HB.out)
      clear BN BQ HW HB RP RO
      have BN := n0_
      have BQ := n1_
      have HW := n2_
      have RP := n3_
      have RO := n4_
      have HB := n5_
      clear n0_ n1_ n2_ n3_ n4_ n5_
      refine start_ (n := 8) (S := fun w' => w'.cell? ⟨w.heap.size, 0, none⟩ = some (.string x0) ∧ w'.cell? ⟨w.heap.size, 1, none⟩ = some (.string x1) ∧ w'.cell? ⟨w.heap.size, 2, none⟩ = some (.slice A2 x2.length c2) ∧ w'.cell? ⟨w.heap.size, 3, none⟩ = some (.slice A3 x3.length c3) ∧ w'.cell? ⟨w.heap.size, 4, none⟩ = some (.int .i64 x4)) (ds := []) #[false, false, false, false, false, false, false, false] (by kernel_rfl) rfl rfl ⟨(blk_cell BN.out 0).trans rfl, (blk_cell BN.out 1).trans rfl, (blk_cell BN.out 2).trans rfl, (blk_cell BN.out 3).trans rfl, (blk_cell BN.out 4).trans rfl⟩ (fun hHeld => ?_)
      generalize w1.drew = w2 at BN BQ HW HB RP RO hHeld ⊢
      refine pure_ (i := 1) (N := some 16) (v := ?_) (a' := ?_) #[false, true, false, false, false, false, false, false] rfl rfl (by kernel_rfl) (fun _ _ _ h => h) (Or.inl ⟨by rfl, ?_⟩) ?_ ?_
      rotate_left
      · intro w'
        go_simp
        with_reducible rfl
      rotate_left
      · simp only [Act.put, List.setIfInBounds_toArray, List.set_cons_zero, List.set_cons_succ, i64_w, i32_w]
        rfl
      refine take_ (i := 3) (N := some 18) (v := ?_) (a' := ?_) #[false, true, false, true, false, false, false, false] rfl rfl (by kernel_rfl) (fun _ _ _ h => h) (Or.inl ⟨by rfl, ?_⟩) hHeld ?_ ?_
      rotate_left
      · rintro w' ⟨s0, s1, s2, s3, s4⟩
        go_simp
        with_reducible rfl
      rotate_left
      · simp only [Act.put, List.setIfInBounds_toArray, List.set_cons_zero, List.set_cons_succ, i64_w, i32_w]
        rfl
      refine one_ (i := 0) (N := some 15) #[true, true, false, true, false, false, false, false] rfl rfl (by kernel_rfl) (by decide) (fun K hK => ?_)
      refine Kd.R_lit_step k56 (w0 := w0) w0.heap.size 56 (by rfl) (N := 15) rfl (xs := []) (inner := []) (ok := fun _ => True) (okp := fun _ => False) ?hr ⟨rfl, fun j p hj => by simp at hj⟩ (fun _ h => h.elim) trivial HB.out (below_size HB.out) (by decide) ?_
      (case hr => first | (go_simp; done) | (go_simp; rfl))
      intro v15 w3 ho hb hg hat
      have n0_ := Aside0.mk (blk_grown BN.out hg (by simp))
      have n1_ := Aside0.mk (blk_grown BQ.out hg (by simp))
      have n2_ := Aside0.mk (Kept.of_grown hg HW.out (fun k hk => by simp at hk))
      have n3_ := Aside0.mk (Kd.R_grown RP.out hg (fun _ _ => by simp))
      have n4_ := Aside0.mk (Kd.R_grown RO.out hg (fun _ _ => by simp))
      have EE := Aside0.mk ho
      have PG := Aside0.mk (colophonref20_all.newest hat HW.out.1)
      have PB := Aside0.mk (Kd.R_bound RP.out)
      clear BN BQ HW HB RP RO
      have BN := n0_
      have BQ := n1_
      have HW := n2_
      have HB := Aside0.mk hb
      have RP := n3_
      have RO := n4_
      clear n0_ n1_ n2_ n3_ n4_ ho hb
      have RPB : Aside0 (Kd.R k56 56 w3 w0.heap.size (fun a => some a ≠ v15.ownBlock) (.slice Ap path.length cp) path) := ⟨colophonref20_all.apart PB.out hg hat⟩
      clear PB hg hat
      obtain ⟨A15, c15, e15⟩ := Kd.R_slice EE.out
      subst e15
      refine hK.out _ _ ⟨(blk_cell BN.out 0).trans rfl, (blk_cell BN.out 1).trans rfl, (blk_cell BN.out 2).trans rfl, (blk_cell BN.out 3).trans rfl, (blk_cell BN.out 4).trans rfl⟩ (fun hHeld => ?_)
      clear hK K
      refine norm_ (a' := ?_) ?_ ?_
      rotate_left
      · show Act.put _ (some 15) _ = _
        simp only [Act.put, List.setIfInBounds_toArray, List.set_cons_zero, List.set_cons_succ, i64_w, i32_w]
        rfl
      refine one_ (i := 2) (N := some 17) #[true, true, true, true, false, false, false, false] rfl rfl (by kernel_rfl) (by decide) (fun K hK => ?_)
      refine Kd.R_append_rows_step k56 (w0 := w0) w0.heap.size (by rfl) (.tmp 15) (.tmp 16) 23 56 (.agg #[(.string ⟨#[]⟩), (.string ⟨#[]⟩), (.slice none 0 0)]) 56 rfl Try.underlying23 info56 rfl (by decide) (by omega) _ [] path Ap path.length cp (fun _ => True) (fun a => (some a ≠ (Value.slice A15 ([] : List S56).length c15).ownBlock) ∧ some a ≠ (Value.slice Ap path.length cp).ownBlock) rfl rfl EE.out (colophonref20_all.rowsM RPB.out) (fun _ _ h => h) (fun _ hk => ⟨trivial, hk.1⟩) (fun _ _ => trivial) HB.out (below_size HB.out) (by have := HR.out.1; simp only [List.length_nil]; omega) ?_
      intro v17 w4 ho hb hg hat
      rw [List.nil_append] at ho
      have n0_ := Aside0.mk (blk_grown BN.out hg (Kd.R_ne EE.out BN.out (by decide)))
      have n1_ := Aside0.mk (blk_grown BQ.out hg (Kd.R_ne EE.out BQ.out (by decide)))
      have n2_ := Aside0.mk (Kept.of_grown hg HW.out (fun k hk => .inr (PG.out k hk)))
      have n5_ := Aside0.mk (colophonref20_all.newer PG.out hat HW.out.1)
      have n4_ := Aside0.mk (Kd.R_over' RO.out (Kd.R_typed EE.out) (by decide) hg)
      clear BN BQ HW HB RP RPB RO EE PG
      have PG := n5_
      have BN := n0_
      have BQ := n1_
      have HW := n2_
      have HB := Aside0.mk hb
      have RO := n4_
      have RP := Aside0.mk ho
      clear n0_ n1_ n2_ n4_ n5_ ho hb hg hat
      obtain ⟨A17, c17, e17⟩ := Kd.R_slice RP.out
      subst e17
      refine hK.out _ _ ⟨(blk_cell BN.out 0).trans rfl, (blk_cell BN.out 1).trans rfl, (blk_cell BN.out 2).trans rfl, (blk_cell BN.out 3).trans rfl, (blk_cell BN.out 4).trans rfl⟩ (fun hHeld => ?_)
      clear hK K
      refine norm_ (a' := ?_) ?_ ?_
      rotate_left
      · show Act.put _ (some 17) _ = _
        simp only [Act.put, List.setIfInBounds_toArray, List.set_cons_zero, List.set_cons_succ, i64_w, i32_w]
        rfl
      refine one_ (i := 4) (N := some 19) #[true, true, true, true, true, false, false, false] rfl rfl (by kernel_rfl) (by decide) (fun K hK => ?_)
      refine goes_ Try.func25 (by kernel_rfl) rfl #[.agg #[.string x0, .string x1, .slice A2 x2.length c2, .slice A3 x3.length c3, .int .i64 x4]] (by rfl) rfl rfl (by (try simp only [List.map_toArray, List.map_cons, List.map_nil]); first | done | rfl) ?_
      with_reducible refine (colophonref20_Facts.calls k x0 x1 A2 c2 x2 A3 c3 x3 x4 f0 f1 f2 _ (Kd.C_below H2.out HB.out) HC2.out (Kd.C_below H3.out HB.out) HC3.out AF.out).mono ?_
      rintro e w5 ⟨v2, rfl, ho, hb⟩
      refine ⟨_, rfl, ?_⟩
      have n0_ := Aside0.mk (blk_below BN.out hb)
      have n1_ := Aside0.mk (blk_below BQ.out hb)
      have n2_ := Aside0.mk (HW.out.below hb)
      have n3_ := Aside0.mk (Kd.R_below RP.out hb)
      have n4_ := Aside0.mk (Kd.R_below RO.out hb)
      have FR := Aside0.mk (Kd.R_lower ho (below_size HB.out))
      have n5_ := Aside0.mk (below_step HB.out hb)
      clear BN BQ HW HB RP RO
      have BN := n0_
      have BQ := n1_
      have HW := n2_
      have HB := n5_
      have RP := n3_
      have RO := n4_
      clear n0_ n1_ n2_ n3_ n4_ n5_ ho hb
      refine hK.out _ _ ⟨(blk_cell BN.out 0).trans rfl, (blk_cell BN.out 1).trans rfl, (blk_cell BN.out 2).trans rfl, (blk_cell BN.out 3).trans rfl, (blk_cell BN.out 4).trans rfl⟩ (fun hHeld => ?_)
      clear hK K
      refine norm_ (a' := ?_) ?_ ?_
      rotate_left
      · show Act.put _ (some 19) _ = _
        simp only [Act.put, List.setIfInBounds_toArray, List.set_cons_zero, List.set_cons_succ, i64_w, i32_w]
        rfl
      refine one_ (i := 5) (N := some 20) #[true, true, true, true, true, true, false, false] rfl rfl (by kernel_rfl) (by decide) (fun K hK => ?_)
      refine value_ (w1 := ?_) (v := ?_) (by rfl) rfl ?_ ?_
      rotate_left 2
      · go_simp
        constructor
        · rfl
        · rfl
      refine hK.out _ _ ⟨(blk_cell (blk_alloc BN.out _) 0).trans rfl, (blk_cell (blk_alloc BN.out _) 1).trans rfl, (blk_cell (blk_alloc BN.out _) 2).trans rfl, (blk_cell (blk_alloc BN.out _) 3).trans rfl, (blk_cell (blk_alloc BN.out _) 4).trans rfl⟩ (fun hHeld => ?_)
      clear hK K
      refine norm_ (a' := ?_) ?_ ?_
      rotate_left
      · show Act.put _ (some 20) _ = _
        simp only [Act.put, List.setIfInBounds_toArray, List.set_cons_zero, List.set_cons_succ, i64_w, i32_w]
        rfl
      refine one_ (i := 6) (N := some 21) #[true, true, true, true, true, true, true, false] rfl rfl (by kernel_rfl) (by decide) (fun K hK => ?_)
      refine Kd.R_append_step k56 (w0 := w0) w0.heap.size (by rfl) (.tmp 17) (.tmp 20) 23 56 (.agg #[(.string ⟨#[]⟩), (.string ⟨#[]⟩), (.slice none 0 0)]) 56 rfl Try.underlying23 info56 rfl (by decide) (by omega) (.slice A17 path.length c17) path ⟨f0, f1, f2⟩ [.string f0, .string f1, v2] (fun _ => True) (fun k_ => some k_ ≠ (Value.slice A17 path.length c17).ownBlock) rfl rfl ?aP (fun _ hk => ⟨trivial, hk⟩) ?aF ?aO ?aB ?aS ?aL ?_
      case aP => exact k56_mkM _ _ _ (⟨f0, f1, f2⟩ : S56) (Kd.R_mono (Kd.R_apart' FR.out (Kd.R_typed RP.out) (by decide)) (fun _ hk => hk.2))
      case aF => exact fun _ _ => trivial
      case aO => exact RP.out
      case aB => exact HB.out
      case aS => exact below_size HB.out
      case aL => have := HR.out.1; omega
      intro v3 w6 ho hb hg hat
      rw [HNP.out] at ho
      obtain ⟨Ao, co, rfl⟩ := Kd.R_slice ho
      have n0_ := Aside0.mk (blk_grown BN.out hg (Kd.R_ne RP.out BN.out (by decide)))
      have n1_ := Aside0.mk (blk_grown BQ.out hg (Kd.R_ne RP.out BQ.out (by decide)))
      have n2_ := Aside0.mk (Kept.of_grown hg HW.out (fun k hk => .inr (PG.out k hk)))
      have n4_ := Aside0.mk (Kd.R_over' RO.out (Kd.R_typed RP.out) (by decide) hg)
      clear BN BQ HW HB RP RO FR
      have BN := n0_
      have BQ := n1_
      have HW := n2_
      have HB := Aside0.mk hb
      have RO := n4_
      have RP := Aside0.mk ho
      clear n0_ n1_ n2_ n4_ ho hb hg hat
      refine hK.out _ _ ⟨(blk_cell BN.out 0).trans rfl, (blk_cell BN.out 1).trans rfl, (blk_cell BN.out 2).trans rfl, (blk_cell BN.out 3).trans rfl, (blk_cell BN.out 4).trans rfl⟩ (fun hHeld => ?_)
      clear hK K
      refine norm_ (a' := ?_) ?_ ?_
      rotate_left
      · show Act.put _ (some 21) _ = _
        simp only [Act.put, List.setIfInBounds_toArray, List.set_cons_zero, List.set_cons_succ, i64_w, i32_w]
        rfl
      refine pure_ (i := 7) (N := some 3) (v := ?_) (a' := ?_) #[true, true, true, true, true, true, true, true] rfl rfl (by kernel_rfl) (fun _ _ _ h => h) (Or.inl ⟨by rfl, ?_⟩) ?_ ?_
      rotate_left
      · intro w'
        go_simp
        with_reducible rfl
      rotate_left
      · simp only [Act.put, List.setIfInBounds_toArray, List.set_cons_zero, List.set_cons_succ, i64_w, i32_w]
        rfl
      refine done_ (by kernel_rfl) ?_
      have hq0 : w6.cell? ⟨w.heap.size + 1, 0, none⟩ = some (.int .i64 p0) := (blk_cell BQ.out 0).trans rfl
      have hq1 : w6.cell? ⟨w.heap.size + 1, 1, none⟩ = some (.int .i64 p1) := (blk_cell BQ.out 1).trans rfl
      have hq2 : w6.cell? ⟨w.heap.size + 1, 2, none⟩ = some (.int .i64 p2) := (blk_cell BQ.out 2).trans rfl
      have hq3 : w6.cell? ⟨w.heap.size + 1, 3, none⟩ = some (.int .i64 p3) := (blk_cell BQ.out 3).trans rfl
      have hq4 : w6.cell? ⟨w.heap.size + 1, 4, none⟩ = some (.int .i64 p4) := (blk_cell BQ.out 4).trans rfl
      have hq5 : w6.cell? ⟨w.heap.size + 1, 5, none⟩ = some (.int .i64 p5) := (blk_cell BQ.out 5).trans rfl
      have hq6 : w6.cell? ⟨w.heap.size + 1, 6, none⟩ = some (.int .i64 p6) := (blk_cell BQ.out 6).trans rfl
      have hq7 : w6.cell? ⟨w.heap.size + 1, 7, none⟩ = some (.int .i64 p7) := (blk_cell BQ.out 7).trans rfl
      have hq8 : w6.cell? ⟨w.heap.size + 1, 8, none⟩ = some (.int .i64 p8) := (blk_cell BQ.out 8).trans rfl
      go_upto_region 4 with (first | (go_at_call 17; (with_reducible refine (colophonref20_Of.calls k Al cl l Ao co np p0 p1 p2 p3 p4 p5 p6 p7 p8 q0 q1 q2 q3 q4 q5 q6 q7 q8 _ (Kd.C_below HL.out HB.out) HLC.out (Kd.R_reads' RP.out).2.2 (Kd.R_reads' RP.out).2.1 AQ.out).mono ?_); rintro e w7 ⟨rfl, hb⟩; have n0_ := Aside0.mk (blk_below BN.out hb); have n1_ := Aside0.mk (blk_below BQ.out hb); have n2_ := Aside0.mk (HW.out.below hb); have n3_ := Aside0.mk (Kd.R_below RP.out hb); have n4_ := Aside0.mk (Kd.R_below RO.out hb); have n5_ := Aside0.mk (below_step HB.out hb); clear BN BQ HW HB RP RO hq0 hq1 hq2 hq3 hq4 hq5 hq6 hq7 hq8; have BN := n0_; have BQ := n1_; have HW := n2_; have RP := n3_; have RO := n4_; have HB := n5_; clear n0_ n1_ n2_ n3_ n4_ n5_ hb; have hq0 : w7.cell? ⟨w.heap.size + 1, 0, none⟩ = some (.int .i64 p0) := (blk_cell BQ.out 0).trans rfl; have hf0 := blk_frozen BQ.out 0; have hq1 : w7.cell? ⟨w.heap.size + 1, 1, none⟩ = some (.int .i64 p1) := (blk_cell BQ.out 1).trans rfl; have hf1 := blk_frozen BQ.out 1; have hq2 : w7.cell? ⟨w.heap.size + 1, 2, none⟩ = some (.int .i64 p2) := (blk_cell BQ.out 2).trans rfl; have hf2 := blk_frozen BQ.out 2; have hq3 : w7.cell? ⟨w.heap.size + 1, 3, none⟩ = some (.int .i64 p3) := (blk_cell BQ.out 3).trans rfl; have hf3 := blk_frozen BQ.out 3; have hq4 : w7.cell? ⟨w.heap.size + 1, 4, none⟩ = some (.int .i64 p4) := (blk_cell BQ.out 4).trans rfl; have hf4 := blk_frozen BQ.out 4; have hq5 : w7.cell? ⟨w.heap.size + 1, 5, none⟩ = some (.int .i64 p5) := (blk_cell BQ.out 5).trans rfl; have hf5 := blk_frozen BQ.out 5; have hq6 : w7.cell? ⟨w.heap.size + 1, 6, none⟩ = some (.int .i64 p6) := (blk_cell BQ.out 6).trans rfl; have hf6 := blk_frozen BQ.out 6; have hq7 : w7.cell? ⟨w.heap.size + 1, 7, none⟩ = some (.int .i64 p7) := (blk_cell BQ.out 7).trans rfl; have hf7 := blk_frozen BQ.out 7; have hq8 : w7.cell? ⟨w.heap.size + 1, 8, none⟩ = some (.int .i64 p8) := (blk_cell BQ.out 8).trans rfl; have hf8 := blk_frozen BQ.out 8))
      obtain ⟨nw, hnw⟩ : ∃ z, out ++ [(⟨q0, q1, q2, q3, q4, q5, q6, q7, q8⟩ : S33)] = z := ⟨_, rfl⟩
      rw [hnw] at H1
      have HNW := Aside0.mk hnw
      clear hnw
      have n0_ := Aside0.mk (style_All.far9 BN.out (style_All.tne BN.out BQ.out (by decide)) q0 q1 q2 q3 q4 q5 q6 q7 q8)
      have n1_ := Aside0.mk (style_All.blk9 BQ.out q0 q1 q2 q3 q4 q5 q6 q7 q8)
      have n2_ := Aside0.mk (style_All.kept9 HW.out (show w.heap.size ≤ w.heap.size + 1 by omega) q0 q1 q2 q3 q4 q5 q6 q7 q8)
      have n6_ := colophonref20_all.rows9 HB.out RP.out RO.out BQ.out (Nat.le_trans G0.out (by omega)) NO.out q0 q1 q2 q3 q4 q5 q6 q7 q8
      have n3_ := Aside0.mk n6_.2.1
      have n4_ := Aside0.mk n6_.2.2
      have n5_ := Aside0.mk n6_.1
      clear BN BQ HW HB RP RO n6_ hq0 hq1 hq2 hq3 hq4 hq5 hq6 hq7 hq8 hf0 hf1 hf2 hf3 hf4 hf5 hf6 hf7 hf8
      have BN := n0_
      have BQ := n1_
      have HW := n2_
      have RP := n3_
      have RO := n4_
      have HB := n5_
      clear n0_ n1_ n2_ n3_ n4_ n5_
      obtain ⟨w8, e8⟩ : ∃ z, (((((((((w7.setCell ⟨w.heap.size + 1, 0, none⟩ (.int .i64 q0)).setCell ⟨w.heap.size + 1, 1, none⟩ (.int .i64 q1)).setCell ⟨w.heap.size + 1, 2, none⟩ (.int .i64 q2)).setCell ⟨w.heap.size + 1, 3, none⟩ (.int .i64 q3)).setCell ⟨w.heap.size + 1, 4, none⟩ (.int .i64 q4)).setCell ⟨w.heap.size + 1, 5, none⟩ (.int .i64 q5)).setCell ⟨w.heap.size + 1, 6, none⟩ (.int .i64 q6)).setCell ⟨w.heap.size + 1, 7, none⟩ (.int .i64 q7)).setCell ⟨w.heap.size + 1, 8, none⟩ (.int .i64 q8)) = z := ⟨_, rfl⟩
      rw [e8] at BN BQ HW HB RP RO
      rw [e8]
      clear e8
      have hq0 : w8.cell? ⟨w.heap.size + 1, 0, none⟩ = some (.int .i64 q0) := (blk_cell BQ.out 0).trans rfl
      have hq1 : w8.cell? ⟨w.heap.size + 1, 1, none⟩ = some (.int .i64 q1) := (blk_cell BQ.out 1).trans rfl
      have hq2 : w8.cell? ⟨w.heap.size + 1, 2, none⟩ = some (.int .i64 q2) := (blk_cell BQ.out 2).trans rfl
      have hq3 : w8.cell? ⟨w.heap.size + 1, 3, none⟩ = some (.int .i64 q3) := (blk_cell BQ.out 3).trans rfl
      have hq4 : w8.cell? ⟨w.heap.size + 1, 4, none⟩ = some (.int .i64 q4) := (blk_cell BQ.out 4).trans rfl
      have hq5 : w8.cell? ⟨w.heap.size + 1, 5, none⟩ = some (.int .i64 q5) := (blk_cell BQ.out 5).trans rfl
      have hq6 : w8.cell? ⟨w.heap.size + 1, 6, none⟩ = some (.int .i64 q6) := (blk_cell BQ.out 6).trans rfl
      have hq7 : w8.cell? ⟨w.heap.size + 1, 7, none⟩ = some (.int .i64 q7) := (blk_cell BQ.out 7).trans rfl
      have hq8 : w8.cell? ⟨w.heap.size + 1, 8, none⟩ = some (.int .i64 q8) := (blk_cell BQ.out 8).trans rfl
      go_upto_region 5 with (first | ((with_reducible refine gate_builtin (b := .append) (xs := #[.tmp 26, .tmp 28]) rfl ?_); at_builtin; refine Kd.R_append k33 (w0 := w0) w0.heap.size rfl (.tmp 26) (.tmp 28) 61 33 (.agg #[(.int .i64 0), (.int .i64 0), (.int .i64 0), (.int .i64 0), (.int .i64 0), (.int .i64 0), (.int .i64 0), (.int .i64 0), (.int .i64 0)]) 72 rfl Try.underlying61 info33 rfl (by decide) (by omega) (.slice Av out.length cv) out (⟨q0, q1, q2, q3, q4, q5, q6, q7, q8⟩ : S33) [.int .i64 q0, .int .i64 q1, .int .i64 q2, .int .i64 q3, .int .i64 q4, .int .i64 q5, .int .i64 q6, .int .i64 q7, .int .i64 q8] (fun _ => True) (fun _ => False) rfl rfl ?aP (fun _ hk => hk.elim) ?aF ?aO ?aB ?aS ?aL ?_; (case aP => exact k33_mkM _ _ _ _); (case aF => exact fun _ _ => trivial); (case aO => exact RO.out); (case aB => exact HB.out); (case aS => exact below_size HB.out); (case aL => have := HR.out.2; omega); intro v4 w9 ho hb hg hat; rw [HNW.out] at ho; obtain ⟨Aq, cq, rfl⟩ := Kd.R_slice ho; have n0_ := Aside0.mk (blk_grown BN.out hg (Kd.R_ne RO.out BN.out (by decide))); have n1_ := Aside0.mk (blk_grown BQ.out hg NO.out); have n2_ := Aside0.mk (Kept.of_grown hg HW.out (fun k hk => .inl hk.symm)); have n3_ := Aside0.mk (Kd.R_over' RP.out (Kd.R_typed RO.out) (by decide) hg); have n4_ := Aside0.mk (style_All.Hat.of hat HW.out.1); have n6_ := Aside0.mk ((style_All.Hat.of hat (Nat.le_refl _)).old (blk_lt BQ.out) NO.out); clear BN BQ HW HB RP RO NO; have BN := n0_; have BQ := n1_; have HW := n2_; have RP := n3_; have RO := Aside0.mk ho; have HB := Aside0.mk hb; have HTO := n4_; have NO := n6_; clear n0_ n1_ n2_ n3_ n4_ n6_ hb hg hat ho hq0 hq1 hq2 hq3 hq4 hq5 hq6 hq7 hq8))
      have hT1 : ((x3.length : Int) ≤ 9223372036854775807) := by have := Kd.C_max H3.out; omega
      go_wp2
      go_loopg [0, 11] x3.length (fun kq v0 v11 w' => ∃ (i : Nat) (o : List S33) (vr : Value), v0 = vr ∧ v11 = .int .i64 (i : Int) ∧ Aside0 (i + kq = x3.length) ∧ Aside0 (style_All.kids (fun x o => colophonref20_all.down l k np x ⟨q0, q1, q2, q3, q4, q5, q6, q7, q8⟩ o) (x3.drop i) o = some r) ∧ Aside0 (colophonref20_all.Went w0 w w' (.slice Ao np.length co) (.slice Av out.length cv) np o vr) ∧ Aside0 (w'.heap[w.heap.size]? = some (.cells #[.string x0, .string x1, .slice A2 x2.length c2, .slice A3 x3.length c3, .int .i64 x4] 52 (0, 0))) ∧ Aside0 (w'.heap[w.heap.size + 1]? = some (.cells #[.int .i64 q0, .int .i64 q1, .int .i64 q2, .int .i64 q3, .int .i64 q4, .int .i64 q5, .int .i64 q6, .int .i64 q7, .int .i64 q8] 33 (0, 0))) ∧ Aside0 (some (w.heap.size + 1) ≠ vr.ownBlock))
      case atStart => exact ⟨0, nw, (.slice Aq nw.length cq), rfl, rfl, ⟨by omega⟩, H1, ⟨⟨HB.out, RP.out, RO.out, HW.out, HTO.out⟩⟩, BN, BQ, NO⟩
      case round =>
        clear H1 BN BQ HW HB RP RO NO HTO
        obtain ⟨i, o, vr, rfl, rfl, HI, HK, HW, BN, BQ, NO⟩ := hrel
        have hc3 : wr.cell? ⟨w.heap.size, 3, none⟩ = some (.slice A3 x3.length c3) := (blk_cell BN.out 3).trans rfl
        cases gk with
        | zero =>
          have hi : i = x3.length := by have := HI.out; omega
          subst hi
          have hr : o = r := by have := HK.out; rw [List.drop_eq_nil_of_le (Nat.le_refl _), style_All.kids] at this; exact Option.some.inj this
          subst hr
          have kc1 : ((x3.length : Int) < (x3.length : Int)) = False := eq_false (by omega)
          have kc2 : (x3.length < x3.length) = False := eq_false (by omega)
          go_wp2
          obtain ⟨A9, c9, rfl⟩ := Kd.R_slice HW.out.ro
          go_wp2
          go_ret
          exact ⟨_, rfl, HW.out.b, HW.out.ro, HW.out.k, HW.out.ho⟩
        | succ q =>
          have hi : i < x3.length := by have := HI.out; omega
          have kc1 : ((i : Int) < (x3.length : Int)) = True := eq_true (by omega)
          have kc2 : (i < x3.length) = True := eq_true hi
          have kc3 : ((0 : Int) ≤ (i : Int)) = True := eq_true (by omega)
          have kc4 : decide ((i : Int) < (x3.length : Int)) = true := decide_eq_true (by omega)
          have kc5 : decide (i < x3.length) = true := decide_eq_true hi
          have kc6 : IntKind.i64.wrap ((i : Int) + 1) = (i : Int) + 1 := by rw [IntKind.wrap_i64]; omega
          have HI2 : Aside0 (i + 1 + q = x3.length) := ⟨by have := HI.out; omega⟩
          have hk := HK.out
          rw [style_All.drop52 hi, style_All.kids] at hk
          obtain ⟨o2, hd0, hk2⟩ := Option.bind_eq_some_iff.mp hk
          have HD := Aside0.mk hd0
          have HK2 := Aside0.mk hk2
          clear hk hd0 hk2 HK
          obtain ⟨ad, B2, e2, B3, e3, rfl, y0, y1, y2, y3, y4, l2, g2, l3, g3⟩ := at_T52 H3.out (i : Int) (by omega) (by omega)
          simp only [Int.toNat_natCast] at y0 y1 y2 y3 y4
          have YS := Aside0.mk (And.intro y0 (And.intro y1 (And.intro y2 (And.intro y3 y4))))
          replace y0 := (HW.out.b.cell (World.block_lt_of_cell? w0 _ y0)).trans y0
          replace y1 := (HW.out.b.cell (World.block_lt_of_cell? w0 _ y1)).trans y1
          replace y2 := (HW.out.b.cell (World.block_lt_of_cell? w0 _ y2)).trans y2
          replace y3 := (HW.out.b.cell (World.block_lt_of_cell? w0 _ y3)).trans y3
          replace y4 := (HW.out.b.cell (World.block_lt_of_cell? w0 _ y4)).trans y4
          have HE : Aside0 (wr.cell? (ad.add (i * 5)) = some (.string (rd_T52 x3 (i : Int)).f0) ∧ wr.cell? ⟨(ad.add (i * 5)).block, (ad.add (i * 5)).off + 1, none⟩ = some (.string (rd_T52 x3 (i : Int)).f1) ∧ wr.cell? ⟨(ad.add (i * 5)).block, (ad.add (i * 5)).off + 2, none⟩ = some (.slice B2 (rd_T52 x3 (i : Int)).f2.length e2) ∧ wr.cell? ⟨(ad.add (i * 5)).block, (ad.add (i * 5)).off + 3, none⟩ = some (.slice B3 (rd_T52 x3 (i : Int)).f3.length e3) ∧ wr.cell? ⟨(ad.add (i * 5)).block, (ad.add (i * 5)).off + 4, none⟩ = some (.int .i64 (rd_T52 x3 (i : Int)).f4)) := ⟨y0, y1, y2, y3, y4⟩
          have L2 := Aside0.mk l2
          have G2 := Aside0.mk g2
          have L3 := Aside0.mk l3
          have G3 := Aside0.mk g3
          clear l2 g2 l3 g3 y0 y1 y2 y3 y4
          obtain ⟨Ar, cr, rfl⟩ := Kd.R_slice HW.out.ro
          go_upto_region 8 with (fail)
          clear hc3
          have n0_ := Aside0.mk (HW.out.below (below_drew (Below.refl _ _)))
          have n1_ := Aside0.mk (blk_drew BN.out)
          have n2_ := Aside0.mk (blk_drew BQ.out)
          have n3_ : Aside0 (wr.drew.cell? (ad.add (i * 5)) = some (.string (rd_T52 x3 (i : Int)).f0) ∧ wr.drew.cell? ⟨(ad.add (i * 5)).block, (ad.add (i * 5)).off + 1, none⟩ = some (.string (rd_T52 x3 (i : Int)).f1) ∧ wr.drew.cell? ⟨(ad.add (i * 5)).block, (ad.add (i * 5)).off + 2, none⟩ = some (.slice B2 (rd_T52 x3 (i : Int)).f2.length e2) ∧ wr.drew.cell? ⟨(ad.add (i * 5)).block, (ad.add (i * 5)).off + 3, none⟩ = some (.slice B3 (rd_T52 x3 (i : Int)).f3.length e3) ∧ wr.drew.cell? ⟨(ad.add (i * 5)).block, (ad.add (i * 5)).off + 4, none⟩ = some (.int .i64 (rd_T52 x3 (i : Int)).f4)) := ⟨HE.out.1, HE.out.2.1, HE.out.2.2.1, HE.out.2.2.2.1, HE.out.2.2.2.2⟩
          clear HW BN BQ HE
          have HW := n0_
          have BN := n1_
          have BQ := n2_
          have HE := n3_
          clear n0_ n1_ n2_ n3_
          refine start_ (n := 11) (S := fun w' => w'.cell? ⟨w.heap.size, 3, none⟩ = some (.slice (some ad) x3.length c3) ∧ w'.cell? (ad.add (i * 5)) = some (.string (rd_T52 x3 (i : Int)).f0) ∧ w'.cell? ⟨(ad.add (i * 5)).block, (ad.add (i * 5)).off + 1, none⟩ = some (.string (rd_T52 x3 (i : Int)).f1) ∧ w'.cell? ⟨(ad.add (i * 5)).block, (ad.add (i * 5)).off + 2, none⟩ = some (.slice B2 (rd_T52 x3 (i : Int)).f2.length e2) ∧ w'.cell? ⟨(ad.add (i * 5)).block, (ad.add (i * 5)).off + 3, none⟩ = some (.slice B3 (rd_T52 x3 (i : Int)).f3.length e3) ∧ w'.cell? ⟨(ad.add (i * 5)).block, (ad.add (i * 5)).off + 4, none⟩ = some (.int .i64 (rd_T52 x3 (i : Int)).f4) ∧ w'.cell? ⟨w.heap.size + 1, 0, none⟩ = some (.int .i64 q0) ∧ w'.cell? ⟨w.heap.size + 1, 1, none⟩ = some (.int .i64 q1) ∧ w'.cell? ⟨w.heap.size + 1, 2, none⟩ = some (.int .i64 q2) ∧ w'.cell? ⟨w.heap.size + 1, 3, none⟩ = some (.int .i64 q3) ∧ w'.cell? ⟨w.heap.size + 1, 4, none⟩ = some (.int .i64 q4) ∧ w'.cell? ⟨w.heap.size + 1, 5, none⟩ = some (.int .i64 q5) ∧ w'.cell? ⟨w.heap.size + 1, 6, none⟩ = some (.int .i64 q6) ∧ w'.cell? ⟨w.heap.size + 1, 7, none⟩ = some (.int .i64 q7) ∧ w'.cell? ⟨w.heap.size + 1, 8, none⟩ = some (.int .i64 q8)) (ds := []) #[false, false, false, false, false, false, false, false, false, false, false] (by kernel_rfl) rfl rfl ⟨(blk_cell BN.out 3).trans rfl, HE.out.1, HE.out.2.1, HE.out.2.2.1, HE.out.2.2.2.1, HE.out.2.2.2.2, (blk_cell BQ.out 0).trans rfl, (blk_cell BQ.out 1).trans rfl, (blk_cell BQ.out 2).trans rfl, (blk_cell BQ.out 3).trans rfl, (blk_cell BQ.out 4).trans rfl, (blk_cell BQ.out 5).trans rfl, (blk_cell BQ.out 6).trans rfl, (blk_cell BQ.out 7).trans rfl, (blk_cell BQ.out 8).trans rfl⟩ (fun hHeld => ?_)
          generalize wr.drew = w5 at BN BQ HW HE hHeld ⊢
          refine pure_ (i := 0) (N := some 37) (v := ?_) (a' := ?_) #[true, false, false, false, false, false, false, false, false, false, false] rfl rfl (by kernel_rfl) (fun _ _ _ h => h) (Or.inl ⟨by rfl, ?_⟩) ?_ ?_
          rotate_left
          · intro w'
            go_simp
            with_reducible rfl
          rotate_left
          · simp only [Act.put, List.setIfInBounds_toArray, List.set_cons_zero, List.set_cons_succ, i64_w, i32_w]
            rfl
          refine pure_ (i := 1) (N := some 38) (v := ?_) (a' := ?_) #[true, true, false, false, false, false, false, false, false, false, false] rfl rfl (by kernel_rfl) (fun _ _ _ h => h) (Or.inl ⟨by rfl, ?_⟩) ?_ ?_
          rotate_left
          · intro w'
            go_simp
            with_reducible rfl
          rotate_left
          · simp only [Act.put, List.setIfInBounds_toArray, List.set_cons_zero, List.set_cons_succ, i64_w, i32_w]
            rfl
          refine pure_ (i := 2) (N := some 39) (v := ?_) (a' := ?_) #[true, true, true, false, false, false, false, false, false, false, false] rfl rfl (by kernel_rfl) (fun _ _ _ h => h) (Or.inl ⟨by rfl, ?_⟩) ?_ ?_
          rotate_left
          · intro w'
            go_simp
            with_reducible rfl
          rotate_left
          · simp only [Act.put, List.setIfInBounds_toArray, List.set_cons_zero, List.set_cons_succ, i64_w, i32_w]
            rfl
          refine take_ (i := 3) (N := some 40) (v := ?_) (a' := ?_) #[true, true, true, true, false, false, false, false, false, false, false] rfl rfl (by kernel_rfl) (fun _ _ _ h => h) (Or.inl ⟨by rfl, ?_⟩) hHeld ?_ ?_
          rotate_left
          · rintro w' ⟨s0, s1, s2, s3, s4, s5, s6, s7, s8, s9, s10, s11, s12, s13, s14⟩
            go_simp
            with_reducible rfl
          rotate_left
          · simp only [Act.put, List.setIfInBounds_toArray, List.set_cons_zero, List.set_cons_succ, i64_w, i32_w]
            rfl
          refine pure_ (i := 4) (N := some 41) (v := ?_) (a' := ?_) #[true, true, true, true, true, false, false, false, false, false, false] rfl rfl (by kernel_rfl) (fun _ _ _ h => h) (Or.inl ⟨by rfl, ?_⟩) ?_ ?_
          rotate_left
          · intro w'
            go_simp
            with_reducible rfl
          rotate_left
          · simp only [Act.put, List.setIfInBounds_toArray, List.set_cons_zero, List.set_cons_succ, i64_w, i32_w]
            rfl
          refine pure_ (i := 5) (N := some 42) (v := ?_) (a' := ?_) #[true, true, true, true, true, true, false, false, false, false, false] rfl rfl (by kernel_rfl) (fun _ _ _ h => h) (Or.inl ⟨by rfl, ?_⟩) ?_ ?_
          rotate_left
          · intro w'
            go_simp
            with_reducible rfl
          rotate_left
          · simp only [Act.put, List.setIfInBounds_toArray, List.set_cons_zero, List.set_cons_succ, i64_w, i32_w]
            rfl
          refine take_ (i := 6) (N := some 43) (v := ?_) (a' := ?_) #[true, true, true, true, true, true, true, false, false, false, false] rfl rfl (by kernel_rfl) (fun _ _ _ h => h) (Or.inl ⟨by rfl, ?_⟩) hHeld ?_ ?_
          rotate_left
          · rintro w' ⟨s0, s1, s2, s3, s4, s5, s6, s7, s8, s9, s10, s11, s12, s13, s14⟩
            go_simp
            with_reducible rfl
          rotate_left
          · simp only [Act.put, List.setIfInBounds_toArray, List.set_cons_zero, List.set_cons_succ, i64_w, i32_w]
            rfl
          refine pure_ (i := 7) (N := some 44) (v := ?_) (a' := ?_) #[true, true, true, true, true, true, true, true, false, false, false] rfl rfl (by kernel_rfl) (fun _ _ _ h => h) (Or.inl ⟨by rfl, ?_⟩) ?_ ?_
          rotate_left
          · intro w'
            go_simp
            with_reducible rfl
          rotate_left
          · simp only [Act.put, List.setIfInBounds_toArray, List.set_cons_zero, List.set_cons_succ, i64_w, i32_w]
            rfl
          refine take_ (i := 8) (N := some 45) (v := ?_) (a' := ?_) #[true, true, true, true, true, true, true, true, true, false, false] rfl rfl (by kernel_rfl) (fun _ _ _ h => h) (Or.inl ⟨by rfl, ?_⟩) hHeld ?_ ?_
          rotate_left
          · rintro w' ⟨s0, s1, s2, s3, s4, s5, s6, s7, s8, s9, s10, s11, s12, s13, s14⟩
            go_simp
            with_reducible rfl
          rotate_left
          · simp only [Act.put, List.setIfInBounds_toArray, List.set_cons_zero, List.set_cons_succ, i64_w, i32_w]
            rfl
          refine one_ (i := 9) (N := some 46) #[true, true, true, true, true, true, true, true, true, true, false] rfl rfl (by kernel_rfl) (by decide) (fun K hK => ?_)
          refine goes_ Try.func49 (by kernel_rfl) rfl #[.slice Ar o.length cr, .slice Al l.length cl, .agg #[.string (rd_T52 x3 (i : Int)).f0, .string (rd_T52 x3 (i : Int)).f1, .slice B2 (rd_T52 x3 (i : Int)).f2.length e2, .slice B3 (rd_T52 x3 (i : Int)).f3.length e3, .int .i64 (rd_T52 x3 (i : Int)).f4], (.slice Ao np.length co), .agg #[.int .i64 q0, .int .i64 q1, .int .i64 q2, .int .i64 q3, .int .i64 q4, .int .i64 q5, .int .i64 q6, .int .i64 q7, .int .i64 q8]] (by rfl) rfl rfl (by (try simp only [List.map_toArray, List.map_cons, List.map_nil]); first | done | rfl) ?_
          with_reducible refine (ih (rd_T52 x3 (i : Int)) B2 e2 B3 e3 ⟨q0, q1, q2, q3, q4, q5, q6, q7, q8⟩ np o o2 (.slice Ao np.length co) (.slice Ar o.length cr) w5 HW.out.b HW.out.rp HW.out.ro G2.out L2.out G3.out L3.out HD.out).mono ?_
          rintro e w9 ⟨vr2, rfl, hb2, ho2, hk2, ht2⟩
          refine ⟨_, rfl, ?_⟩
          have n0_ := Aside0.mk (HW.out.next hb2 ho2 hk2 ht2)
          have n1_ := Aside0.mk (colophonref20_all.blk BN.out hk2 (Kd.R_ne HW.out.ro BN.out (by decide)))
          have n2_ := Aside0.mk (colophonref20_all.blk BQ.out hk2 NO.out)
          have n3_ := Aside0.mk (ht2.old (blk_lt BQ.out) NO.out)
          have y0 := (hb2.cell (World.block_lt_of_cell? w0 _ YS.out.1)).trans YS.out.1
          have y1 := (hb2.cell (World.block_lt_of_cell? w0 _ YS.out.2.1)).trans YS.out.2.1
          have y2 := (hb2.cell (World.block_lt_of_cell? w0 _ YS.out.2.2.1)).trans YS.out.2.2.1
          have y3 := (hb2.cell (World.block_lt_of_cell? w0 _ YS.out.2.2.2.1)).trans YS.out.2.2.2.1
          have y4 := (hb2.cell (World.block_lt_of_cell? w0 _ YS.out.2.2.2.2)).trans YS.out.2.2.2.2
          obtain ⟨A8, c8, rfl⟩ := Kd.R_slice ho2
          clear HW BN BQ NO HE
          have HW := n0_
          have BN := n1_
          have BQ := n2_
          have NO := n3_
          have HE := Aside0.mk (And.intro y0 (And.intro y1 (And.intro y2 (And.intro y3 y4))))
          clear n0_ n1_ n2_ n3_ hb2 ho2 hk2 ht2 y0 y1 y2 y3 y4
          refine hK.out _ _ ⟨(blk_cell BN.out 3).trans rfl, HE.out.1, HE.out.2.1, HE.out.2.2.1, HE.out.2.2.2.1, HE.out.2.2.2.2, (blk_cell BQ.out 0).trans rfl, (blk_cell BQ.out 1).trans rfl, (blk_cell BQ.out 2).trans rfl, (blk_cell BQ.out 3).trans rfl, (blk_cell BQ.out 4).trans rfl, (blk_cell BQ.out 5).trans rfl, (blk_cell BQ.out 6).trans rfl, (blk_cell BQ.out 7).trans rfl, (blk_cell BQ.out 8).trans rfl⟩ (fun hHeld => ?_)
          clear hK K
          refine norm_ (a' := ?_) ?_ ?_
          rotate_left
          · show Act.put _ (some 46) _ = _
            simp only [Act.put, List.setIfInBounds_toArray, List.set_cons_zero, List.set_cons_succ, i64_w, i32_w]
            rfl
          refine pure_ (i := 10) (N := some 0) (v := ?_) (a' := ?_) #[true, true, true, true, true, true, true, true, true, true, true] rfl rfl (by kernel_rfl) (fun _ _ _ h => h) (Or.inl ⟨by rfl, ?_⟩) ?_ ?_
          rotate_left
          · intro w'
            go_simp
            with_reducible rfl
          rotate_left
          · simp only [Act.put, List.setIfInBounds_toArray, List.set_cons_zero, List.set_cons_succ, i64_w, i32_w]
            rfl
          refine done_ (by kernel_rfl) ?_
          try go_wp2
          go_roundg q
          case measure => exact Nat.lt_succ_self q
          case rel => exact ⟨i + 1, o2, _, rfl, by go_num, HI2, HK2, HW, BN, BQ, NO⟩

    · rw [if_neg hroom] at H1
      exact absurd H1.out (by simp)
def colophonref20_All.f (k : Nat) (l : List S41) (n0 n1 : ByteArray) (n2 : List S82) (n3 : List S52) (n4 : Int) : Option (List S33) :=
  colophonref20_all.down l k [] ⟨n0, n1, n2, n3, n4⟩ ⟨0, 655360, 786432, 0, 0, 0, 0, 0, 1⟩ []
theorem colophonref20_All.mono : ∀ a0 a1 a2 a3 a4 a5 k, LeO (colophonref20_All.f k a0 a1 a2 a3 a4 a5) (colophonref20_All.f (k + 1) a0 a1 a2 a3 a4 a5) := fun _ _ _ _ _ _ k => colophonref20_all.down_mono _ k _ _ _ _
set_option maxHeartbeats 8000000 in
set_option maxRecDepth 100000 in
theorem colophonref20_All.calls (k : Nat) (A0 : Option Addr) (c0 : Nat) (l : List S41) (n0 n1 : ByteArray) (A2 : Option Addr) (c2 : Nat) (n2 : List S82) (A3 : Option Addr) (c3 : Nat) (n3 : List S52) (n4 : Int) (r : List S33) (w : World) (hl : Kd.C k41 w A0 l.length l) (hlc : l.length ≤ c0) (h2 : Kd.C k82 w A2 n2.length n2) (hc2 : n2.length ≤ c2) (h3 : Kd.C k52 w A3 n3.length n3) (hc3 : n3.length ≤ c3) (h : colophonref20_All.f k l n0 n1 n2 n3 n4 = some r) :
    Calls Try.prog 29 #[.slice A0 l.length c0, .agg #[.string n0, .string n1, .slice A2 n2.length c2, .slice A3 n3.length c3, .int .i64 n4]] w fun e w' => ∃ v0_ : Value, e = .returned v0_ ∧ Kd.R k33 33 w' w.heap.size (fun _ => True) v0_ r ∧ Below w.heap.size w w' := by
  unfold colophonref20_All.f at h
  have HL := Aside0.mk hl
  have HLC := Aside0.mk hlc
  have H2 := Aside0.mk h2
  have HC2 := Aside0.mk hc2
  have H3 := Aside0.mk h3
  have HC3 := Aside0.mk hc3
  have H := Aside0.mk h
  clear hl hlc h2 hc2 h3 hc3 h
  have b0 := heap_alloc_new w (.cells #[.string n0, .string n1, .slice A2 n2.length c2, .slice A3 n3.length c3, .int .i64 n4] 52)
  have a0 := below_alloc (Below.refl w.heap.size w) (.cells #[.string n0, .string n1, .slice A2 n2.length c2, .slice A3 n3.length c3, .int .i64 n4] 52)
  go_enter Try.func29, Try.ntmps29
  go_upto_region 1 with (fail)
  generalize w.alloc (.cells #[.string n0, .string n1, .slice A2 n2.length c2, .slice A3 n3.length c3, .int .i64 n4] 52) = w1 at b0 a0 ⊢
  have BN := Aside0.mk (blk_drew b0)
  have HB := Aside0.mk (below_drew1 a0)
  clear b0 a0
  refine start_ (n := 5) (S := fun w' => w'.cell? ⟨w.heap.size, 0, none⟩ = some (.string n0) ∧ w'.cell? ⟨w.heap.size, 1, none⟩ = some (.string n1) ∧ w'.cell? ⟨w.heap.size, 2, none⟩ = some (.slice A2 n2.length c2) ∧ w'.cell? ⟨w.heap.size, 3, none⟩ = some (.slice A3 n3.length c3) ∧ w'.cell? ⟨w.heap.size, 4, none⟩ = some (.int .i64 n4)) (ds := []) #[false, false, false, false, false] (by kernel_rfl) rfl rfl ⟨(blk_cell BN.out 0).trans rfl, (blk_cell BN.out 1).trans rfl, (blk_cell BN.out 2).trans rfl, (blk_cell BN.out 3).trans rfl, (blk_cell BN.out 4).trans rfl⟩ (fun hHeld => ?_)
  generalize w1.drew = w2 at BN HB hHeld ⊢
  refine pure_ (i := 0) (N := some 5) (v := ?_) (a' := ?_) #[true, false, false, false, false] rfl rfl (by kernel_rfl) (fun _ _ _ h => h) (Or.inl ⟨by rfl, ?_⟩) ?_ ?_
  rotate_left
  · intro w'
    go_simp
    with_reducible rfl
  rotate_left
  · simp only [Act.put, List.setIfInBounds_toArray, List.set_cons_zero, List.set_cons_succ, i64_w, i32_w]
    rfl
  refine take_ (i := 1) (N := some 6) (v := ?_) (a' := ?_) #[true, true, false, false, false] rfl rfl (by kernel_rfl) (fun _ _ _ h => h) (Or.inl ⟨by rfl, ?_⟩) hHeld ?_ ?_
  rotate_left
  · rintro w' ⟨s0, s1, s2, s3, s4⟩
    go_simp
    with_reducible rfl
  rotate_left
  · simp only [Act.put, List.setIfInBounds_toArray, List.set_cons_zero, List.set_cons_succ, i64_w, i32_w]
    rfl
  refine one_ (i := 2) (N := some 7) #[true, true, true, false, false] rfl rfl (by kernel_rfl) (by decide) (fun K hK => ?_)
  refine goes_ Try.func19 (by kernel_rfl) rfl #[] (by rfl) rfl rfl (by (try simp only [List.map_toArray, List.map_cons, List.map_nil]); first | done | rfl) ?_
  with_reducible refine (colophonref20_First.calls 0 655360 786432 0 0 0 0 0 1 _ rfl).mono ?_
  rintro e w3 ⟨rfl, hb⟩
  refine ⟨_, rfl, ?_⟩
  have n0_ := Aside0.mk (below_step HB.out hb)
  have n1_ := Aside0.mk (blk_below BN.out hb)
  clear HB BN
  have HB := n0_
  have BN := n1_
  clear n0_ n1_ hb
  refine hK.out _ _ ⟨(blk_cell BN.out 0).trans rfl, (blk_cell BN.out 1).trans rfl, (blk_cell BN.out 2).trans rfl, (blk_cell BN.out 3).trans rfl, (blk_cell BN.out 4).trans rfl⟩ (fun hHeld => ?_)
  clear hK K
  refine norm_ (a' := ?_) ?_ ?_
  rotate_left
  · show Act.put _ (some 7) _ = _
    simp only [Act.put, List.setIfInBounds_toArray, List.set_cons_zero, List.set_cons_succ, i64_w, i32_w]
    rfl
  refine one_ (i := 3) (N := some 8) #[true, true, true, true, false] rfl rfl (by kernel_rfl) (by decide) (fun K hK => ?_)
  refine goes_ Try.func49 (by kernel_rfl) rfl #[.slice none 0 0, .slice A0 l.length c0, .agg #[.string n0, .string n1, .slice A2 n2.length c2, .slice A3 n3.length c3, .int .i64 n4], .slice none 0 0, .agg #[.int .i64 0, .int .i64 655360, .int .i64 786432, .int .i64 0, .int .i64 0, .int .i64 0, .int .i64 0, .int .i64 0, .int .i64 1]] (by rfl) rfl rfl (by (try simp only [List.map_toArray, List.map_cons, List.map_nil]); first | done | rfl) ?_
  with_reducible refine (colophonref20_all.downs l w A0 c0 HL.out HLC.out k ⟨n0, n1, n2, n3, n4⟩ A2 c2 A3 c3 ⟨0, 655360, 786432, 0, 0, 0, 0, 0, 1⟩ [] [] r (.slice none 0 0) (.slice none 0 0) _ HB.out (Kd.R_nil _ _ _ _ _) (Kd.R_nil _ _ _ _ _) H2.out HC2.out H3.out HC3.out H.out).mono ?_
  rintro e w4 ⟨vo, rfl, hb2, ho2, hk2, ht2⟩
  refine ⟨_, rfl, ?_⟩
  have BN2 := Aside0.mk (colophonref20_all.blk BN.out hk2 (by simp [Value.ownBlock]))
  obtain ⟨A9, c9, rfl⟩ := Kd.R_slice ho2
  have HO := Aside0.mk ho2
  have HB2 := Aside0.mk hb2
  clear hb2 ho2 hk2 ht2 HB BN
  refine hK.out _ _ ⟨(blk_cell BN2.out 0).trans rfl, (blk_cell BN2.out 1).trans rfl, (blk_cell BN2.out 2).trans rfl, (blk_cell BN2.out 3).trans rfl, (blk_cell BN2.out 4).trans rfl⟩ (fun hHeld => ?_)
  clear hK K
  refine norm_ (a' := ?_) ?_ ?_
  rotate_left
  · show Act.put _ (some 8) _ = _
    simp only [Act.put, List.setIfInBounds_toArray, List.set_cons_zero, List.set_cons_succ, i64_w, i32_w]
    rfl
  refine pure_ (i := 4) (N := some 4) (v := ?_) (a' := ?_) #[true, true, true, true, true] rfl rfl (by kernel_rfl) (fun _ _ _ h => h) (Or.inl ⟨by rfl, ?_⟩) ?_ ?_
  rotate_left
  · intro w'
    go_simp
    with_reducible rfl
  rotate_left
  · simp only [Act.put, List.setIfInBounds_toArray, List.set_cons_zero, List.set_cons_succ, i64_w, i32_w]
    rfl
  refine done_ (by kernel_rfl) ?_
  go_wp2
  go_ret
  exact ⟨_, rfl, HO.out, HB2.out⟩

end Go.Proofs.Ytpembifnjlekdaa.PStyleAll
