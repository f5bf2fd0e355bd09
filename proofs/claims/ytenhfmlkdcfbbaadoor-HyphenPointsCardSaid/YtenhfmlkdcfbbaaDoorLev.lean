/- law21: a word's levels (function 17), walked. -/
import Derived.Test.YtenhfmlkdcfbbaaDoorWay
import Derived.Test.YtenhfmlkdcfbbaaDoorRnd
namespace Go.Proofs.YtenhfmlkdcfbbaaDoor.PHyphenPoints
open Go.RowKit Go.Proofs.YtenhfmlkdcfbbaaDoorW.PrintWords Go.Proofs.YtenhfmlkdcfbbaaDoorW.PrintLast Go.Proofs.YtenhfmlkdcfbbaaDoorW.PrintMore Go.Proofs.YtenhfmlkdcfbbaaDoorG
attribute [local go_sem] max2_int min2_int max_two min_two max_three min_three max_four min_four
attribute [local go_sem] Oper.semAt_some
set_option linter.unusedVariables false
set_option linter.unusedSimpArgs false
namespace Lv
def lvs (ar : List Trie.PN) (q : Nat) : List Int := ((ar.getD q Trie.PN.z).lv).getD []
def adds (ar : List Trie.PN) (from_ : Nat) : List Int → List Nat → List Int
 | out, [] => out
 | out, q :: r => adds ar from_ (Trie.lev out from_ (lvs ar q)) r
def dotted (l : List Int) : List Int := 46 :: l ++ [46]
def loop (ar : List Trie.PN) (d : List Int) : Nat → Nat → List Int → List Int
 | 0, _, out => out
 | n + 1, i, out => loop ar d n (i + 1) (adds ar (i - 1) out (Wy.path ar 0 (d.drop i)))
def levels (ar : List Trie.PN) (l : List Int) : List Int := loop ar (dotted l) (l.length + 2) 0 (List.replicate (l.length + 1) 0)
def OK (ar : List Trie.PN) (l : List Int) : Prop := l.length ≤ 64 ∧ (∀ c ∈ l, (Lit.int .i64 c).wf = true) ∧ ∀ i, i < l.length + 2 → ∀ q ∈ Wy.path ar 0 ((dotted l).drop i), (i - 1) + (lvs ar q).length ≤ l.length + 1
theorem slice_from (W : World) (g n c : Nat) (a : Nat) (h1 : a < n) (h2 : n ≤ c) :
  (Instr.slice 22 (.slice (some ⟨g, 0, none⟩) n c) (some (.int .i64 (a : Int))) none none).run Tryd.prog W = .ok (.slice (some ⟨g, a, none⟩) (n - a) (c - a)) W := by
 have hu := Tryd.underlying22
 have k1 : ((0 : Int) ≤ (a : Int)) = True := eq_true (by omega)
 have k2 : ((a : Int) ≤ (n : Int)) = True := eq_true (by omega)
 have k3 : (a ≤ n) = True := eq_true (by omega)
 go_simp
 intro e
 omega
def Marks (W : World) (Ds : List Nat) : Prop := Ds.Nodup ∧ ∀ D ∈ Ds, W.heap[D]? = some (.deferred (some []))
def mk (D : Nat) : Deferred := { target := .collected D, args := #[] }
theorem leave {R : Ending → World → Prop} {tmps : Array Value} : ∀ (Ds : List Nat) (W : World), Marks W Ds →
  (∀ W', (∀ (b : Nat) (o : Obj), W.heap[b]? = some o → Trie.Pl o → W'.heap[b]? = some o) → (∀ B w0, Below B w0 W → B ≤ W.heap.size → (∀ D ∈ Ds, B ≤ D) → Below B w0 W') → ∃ v, (results Tryd.f17 tmps).run Tryd.prog W' = .ok v W' ∧ R (.returned v) W') → LeavesInM Fence.wide 3 Tryd.prog Tryd.f17 tmps R (Ds.map mk) .returning W
 | [], W, _, h => h W (fun _ _ ho _ => ho) (fun _ _ hb _ _ => hb)
 | D :: r, W, hm, h => by
  have hd := hm.2 D List.mem_cons_self
  refine ⟨by simp, .inl ⟨_, _, rfl, run_takeDeferred hd, leave r _ ⟨(List.nodup_cons.1 hm.1).2, fun E hE => ?_⟩ (fun W' h1 h2 => h W' (fun b o ho hp => h1 b o ?_ hp) (fun B w0 hb hB hD => h2 B w0 ?_ ?_ (fun E hE => hD E (List.mem_cons_of_mem _ hE))))⟩⟩
  ·exact (World.putObj_heap_other (fun (e : E = D) => (List.nodup_cons.1 hm.1).1 (by rw [← e]; exact hE))).trans (hm.2 E (List.mem_cons_of_mem _ hE))
  ·exact (World.putObj_heap_other (fun e => by rw [e, hd] at ho; injection ho with ho; subst ho; exact hp)).trans ho
  ·exact hb.grown (grownBy_putObj' W D _) hB (fun k e => by cases e; exact hD D List.mem_cons_self)
  ·exact Nat.le_trans hB (grownBy_putObj' W D (.deferred none)).size
end Lv
def hyphen_Set_Levels.f (k : Nat) (s : Option Cp.HS) (l : List Int) : Option (List Int) :=
 (hyphen_small.f k l).bind fun w => match s with
 | none => some []
 | some s => if w.length = 0 then some [] else some (Lv.levels s.1 w)
def hyphen_Set_Levels.OK (k : Nat) (s : Option Cp.HS) (l : List Int) : Prop := ∀ w t, hyphen_small.f k l = some w → s = some t → w.length ≠ 0 → Lv.OK t.1 w ∧ 0 < t.1.length
namespace Lv
theorem lev_length : ∀ (r L : List Int) (k : Nat), (Trie.lev L k r).length = L.length
 | [], _, _ => rfl
 | x :: r, L, k => by rw [Trie.lev, lev_length r, List.length_set]
theorem adds_length (ar : List Trie.PN) (f : Nat) : ∀ (qs : List Nat) (o : List Int), (adds ar f o qs).length = o.length
 | [], _ => rfl
 | q :: r, o => by rw [adds, adds_length ar f r, lev_length]
theorem adds_snoc (ar : List Trie.PN) (f : Nat) (q : Nat) : ∀ (qs : List Nat) (o : List Int), adds ar f o (qs ++ [q]) = Trie.lev (adds ar f o qs) f (lvs ar q)
 | [], _ => rfl
 | p :: r, o => by rw [List.cons_append, adds, adds, adds_snoc ar f q r]
theorem path_lt {base : Nat} {W : World} {Sb K : Nat} {ar : List Trie.PN} {nb mb qb : Nat → Nat} {es : List (ByteArray × Value)} {kn : List (ByteArray × List Int)} (h : Trie.At base W Sb K ar nb mb qb es kn) : ∀ (l : List Int) (i : Nat), ∀ q ∈ Wy.path ar i l, q < ar.length
 | [], _, q, hq => absurd hq (by simp [Wy.path])
 | c :: r, i, q, hq => by
  cases hn : ar[i]? with
  | none =>
   rw [Wy.path, List.getD_eq_getElem?_getD, hn] at hq
   exact absurd hq (by simp [Trie.PN.z, Trie.kget])
  | some nd =>
   cases hk : nd.kids with
   | none =>
    rw [Wy.path_nil hn hk] at hq
    exact absurd hq (by simp)
   | some l =>
    cases hg : Trie.kget l c with
    | none =>
     rw [Wy.path_end hn hk hg] at hq
     exact absurd hq (by simp)
    | some p =>
     rw [Wy.path_step hn hk hg] at hq
     rcases List.mem_cons.1 hq with e | hq
     ·rw [e]
      exact (h.tr.kids i nd l hn hk).2.2.1 _ (Trie.kget_mem hg)
     ·exact path_lt h r p q hq
structure Inv (w W5 : World) (go b6 gd : Nat) (ar : List Trie.PN) (wd : List Int) (j : Nat) (Ds : List Nat) (W : World) : Prop where
 out : ∃ o : List Int, o.length = wd.length + 1 ∧ W.heap[go]? = some (.cells (o.map (Value.int .i64)).toArray 3 (0, 0)) ∧ loop ar (dotted wd) (wd.length + 2 - j) j o = levels ar wd
 c6 : W.heap[b6]? = some (.cells #[.slice (some ⟨go, 0, none⟩) (wd.length + 1) (wd.length + 1)] 22 (0, 0))
 dot : W.heap[gd]? = W5.heap[gd]?
 below : Below w.heap.size w W
 marks : Marks W Ds
 low : ∀ D ∈ Ds, w.heap.size ≤ D
structure Rv (w W5 : World) (go b6 b9 gd N : Nat) (ar : List Trie.PN) (f : Nat) (o : List Int) (Ds : List Nat) (pre : List Nat) (W : World) : Prop where
 out : W.heap[go]? = some (.cells ((adds ar f o pre).map (Value.int .i64)).toArray 3 (0, 0))
 c6 : W.heap[b6]? = some (.cells #[.slice (some ⟨go, 0, none⟩) N N] 22 (0, 0))
 c9 : W.heap[b9]? = some (.cells #[.int .i64 (f : Int)] 3 (0, 0))
 dot : W.heap[gd]? = W5.heap[gd]?
 below : Below w.heap.size w W
 marks : Marks W Ds
section
variable {w W5 W W1 : World} {go b6 b9 gd N f : Nat} {ar : List Trie.PN} {o : List Int} {Ds : List Nat} {pre : List Nat}
theorem Rv.own (w W5 : World) (go b6 b9 gd N : Nat) (ar : List Trie.PN) (f : Nat) (o : List Int) (Ds : List Nat) (B : Nat) (hB : w.heap.size ≤ B) (hD : ∀ D ∈ Ds, D < B) (hd : ∃ cells q, W5.heap[gd]? = some (.cells cells q (0, 0))) : OwnL B (Rv w W5 go b6 b9 gd N ar f o Ds) := by
 intro pre W W' row hs hg hr
 have hk := Cp.pl_row hg (fun r e => (hr r e).2)
 obtain ⟨cells, q, hd⟩ := hd
 refine ⟨hk _ _ hs.out trivial, hk _ _ hs.c6 trivial, hk _ _ hs.c9 trivial, (hk _ _ (hs.dot.trans hd) trivial).trans hd.symm, hs.below.grown hg hs.below.size (fun r e => Nat.le_trans hB (hr r e).1), hs.marks.1, fun D hD1 => ?_⟩
 have h1 := hs.marks.2 D hD1
 exact (hg.block D (blk_lt h1) (fun e => by have := (hr D e.symm).1; have := hD D hD1; omega)).trans h1
theorem Rv.next {q : Nat} (h : Rv w W5 go b6 b9 gd N ar f o Ds pre W) (hg : W.grownBy W1 (some go)) (hgo : w.heap.size ≤ go) (hd : gd ≠ go) (hdl : gd < W.heap.size) (h9 : b9 ≠ go) (ho : W1.heap[go]? = some (.cells ((Trie.lev (adds ar f o pre) f (lvs ar q)).map (Value.int .i64)).toArray 3 (0, 0))) : Rv w W5 go b6 b9 gd N ar f o Ds (pre ++ [q]) W1 := by
 have hm : ∀ (D : Nat), W.heap[D]? = some (.deferred (some [])) → W1.heap[D]? = some (.deferred (some [])) := fun D hD => blk_grown hD hg (fun e => by injection e with e; rw [e, h.out] at hD; cases hD)
 refine ⟨by rw [adds_snoc]; exact ho, blk_grown h.c6 hg (fun e => by injection e with e; exact blk_ne h.c6 h.out (by decide) e), blk_grown h.c9 hg (fun e => by injection e with e; exact h9 e), (hg.block gd hdl (fun e => by injection e with e; exact hd e)).trans h.dot, h.below.grown hg h.below.size (fun k e => by injection e with e; omega), h.marks.1, fun D hD => hm D (h.marks.2 D hD)⟩
theorem keepsL_cells {B : Nat} {cells : Array Value} {q : Nat} (hg : W.grownBy W1 (some go)) (ho : W.heap[go]? = some (.cells cells q (0, 0))) : KeepsL B W W1 :=
 ⟨hg.size, fun b ob _ hb hk => blk_grown hb hg (fun e => by
  injection e with e
  rw [e, ho] at hb
  injection hb with hb
  subst hb
  simp [book] at hk)⟩
end
theorem row {W : World} {base g : Nat} {xs : List Int} (h : W.heap[g]? = some (.cells (xs.map (Value.int .i64)).toArray 3 (0, 0))) (hb : base ≤ g) (hl : xs.length ≤ 9223372036854775807) : Kd.R (Kd.int .i64) 3 W base (fun _ => True) (.slice (some ⟨g, 0, none⟩) xs.length xs.length) xs := by
 refine Kd.R_of_own (enc := Value.int .i64) ⟨?_, .inr ⟨g, xs.length, _, rfl, hb, h, Nat.le_refl _, hl, ?_, ?_⟩⟩ (fun _ _ => trivial)
 ·simp [encs]
 ·simp
 ·rw [List.take_of_length_le (by simp)]
  simp [encs]
end Lv
set_option maxHeartbeats 8000000 in
set_option maxRecDepth 100000 in
theorem hyphen_Set_Levels.calls (k base : Nat) (v : Value) (s : Option Cp.HS) (A1 : Option Addr) (c1 : Nat) (l1 : List Int) (r : List Int) (w : World) (hS : Cp.SetV base w v s) (hr1 : Kd.C (Kd.int .i64) w A1 l1.length l1) (hc1 : l1.length ≤ c1) (h : hyphen_Set_Levels.f k s l1 = some r) (hOK : hyphen_Set_Levels.OK k s l1) :
  Calls Tryd.prog 17 #[v, .slice A1 l1.length c1] w fun e w' => ∃ v0_ : Value, e = .returned v0_ ∧ Kd.R (Kd.int .i64) 3 w' w.heap.size (fun _ => True) v0_ r ∧ Below w.heap.size w w' := by
 unfold hyphen_Set_Levels.f at h
 obtain ⟨wd, hsm, h⟩ := Option.bind_eq_some_iff.mp h
 have HSM := Aside0.mk hsm
 have HR1 := Aside0.mk hr1
 have HC1 := Aside0.mk hc1
 have HB := Aside0.mk (Below.refl w.heap.size w)
 refine (callsIn_wide (n := 3)).1 ?_
 refine callsIn_of_wp_marks Tryd.func17 rfl trivial ?_ rfl
 refine wpIn_wide.2 ?_
 simp only [Tryd.ntmps17, List.size_toArray, List.length_cons, List.length_nil, Nat.reduceAdd, Nat.reduceSub, Array.replicate_succ, Array.replicate_zero, List.push_toArray, List.append_toArray, List.nil_append, List.cons_append]
 cases s with
 | none =>
  obtain rfl : v = .pointer none := hS
  injection h with h
  subst h
  clear hsm hr1 hc1 hOK
  go_wp2_with (first | ((with_reducible refine gate_callee (f := 35) rfl ?_); refine goesL_ (some 14) rfl rfl Tryd.func35 (by kernel_rfl) rfl #[.slice A1 l1.length c1] rfl (by (try simp only [List.map_toArray, List.map_cons, List.map_nil]); first | done | rfl) ?_; (with_reducible refine (hyphen_small.calls k _ _ l1 wd _ HR1.out HC1.out HSM.out).mono ?_); rintro e w3 ⟨v3, rfl, ho0, hb⟩; refine ⟨_, rfl, ?_⟩; have HBn := Aside0.mk hb; clear hb ho0))
  exact ⟨_, results_tmp rfl _ _ _, _, rfl, Kd.R_nil _ _ _ _ _, HBn.out⟩
 | some t =>
  obtain ⟨Sb, K, nb, mb, qb, es, rfl, hAt⟩ := hS
  by_cases hw0 : wd.length = 0
  ·have h' : (if wd.length = 0 then some [] else some (Lv.levels t.1 wd)) = some r := h
   rw [if_pos hw0] at h'
   injection h' with h'
   subst h'
   have k1 : ((wd.length : Int) == 0) = true := beq_iff_eq.mpr (by omega)
   have k2 : (wd.length == 0) = true := beq_iff_eq.mpr hw0
   clear h hsm hr1 hc1 hOK hAt hw0
   go_wp2_with (first | ((with_reducible refine gate_callee (f := 35) rfl ?_); refine goesL_ (some 14) rfl rfl Tryd.func35 (by kernel_rfl) rfl #[.slice A1 l1.length c1] rfl (by (try simp only [List.map_toArray, List.map_cons, List.map_nil]); first | done | rfl) ?_; (with_reducible refine (hyphen_small.calls k _ _ l1 wd _ HR1.out HC1.out HSM.out).mono ?_); rintro e w3 ⟨v3, rfl, ho0, hb⟩; refine ⟨_, rfl, ?_⟩; have HBn := Aside0.mk hb; have HOn := Aside0.mk ho0; clear hb ho0; obtain ⟨Aw, cw, rfl⟩ := Kd.R_slice HOn.out))
   exact ⟨_, results_tmp rfl _ _ _, _, rfl, Kd.R_nil _ _ _ _ _, HBn.out⟩
  ·have h' : (if wd.length = 0 then some [] else some (Lv.levels t.1 wd)) = some r := h
   rw [if_neg hw0] at h'
   injection h' with h'
   subst h'
   have k1 : ((wd.length : Int) == 0) = false := beq_eq_false_iff_ne.mpr (by omega)
   have k2 : (wd.length == 0) = false := beq_eq_false_iff_ne.mpr hw0
   have HOK := Aside0.mk (hOK wd t hsm rfl hw0)
   have HW0 := Aside0.mk hw0
   have HAT := Aside0.mk hAt
   clear h hsm hr1 hc1 hOK hAt hw0
   go_upto_region 4 with (first | ((with_reducible refine gate_callee (f := 35) rfl ?_); refine goesL_ (some 14) rfl rfl Tryd.func35 (by kernel_rfl) rfl #[.slice A1 l1.length c1] rfl (by (try simp only [List.map_toArray, List.map_cons, List.map_nil]); first | done | rfl) ?_; (with_reducible refine (hyphen_small.calls k _ _ l1 wd _ HR1.out HC1.out HSM.out).mono ?_); rintro e w3 ⟨v3, rfl, ho0, hb⟩; refine ⟨_, rfl, ?_⟩; have HBn := Aside0.mk hb; have HOn := Aside0.mk ho0; clear hb ho0; obtain ⟨Aw, cw, rfl⟩ := Kd.R_slice HOn.out))
   have hl64 := HOK.out.1.1
   have hkw : IntKind.i64.wrap ((wd.length : Int) + 1) = (wd.length : Int) + 1 := by rw [IntKind.wrap_i64]; omega
   have hmk : ∀ w : World, (Instr.makeSlice 22 (.int .i64 ((wd.length : Int) + 1)) (.int .i64 ((wd.length : Int) + 1))).run Tryd.prog w = .ok (.slice (some ⟨w.heap.size, 0, none⟩) (wd.length + 1) (wd.length + 1)) (w.alloc (.cells ((List.replicate (wd.length + 1) (0 : Int)).map (Value.int .i64)).toArray 3)) := by
    intro w
    obtain ⟨i, hi, he⟩ := Option.map_eq_some_iff.1 info3
    simp only [Prod.mk.injEq] at he
    obtain ⟨e1, e2, e3⟩ := he
    have := run_make (P := Tryd.prog) w 22 3 i (.int .i64 0) Tryd.underlying22 hi e1 .i64 .i64 ((wd.length : Int) + 1) ((wd.length : Int) + 1) (by omega) (by omega) (by rw [e3]; omega) (by omega)
    rw [this, e2, show ((wd.length : Int) + 1).toNat = wd.length + 1 by omega, Trie.made_zeros]
   clear k1 k2
   go_upto_region 5 with (fail)
   have eZ : (List.map (Value.int .i64) (List.replicate (wd.length + 1) (0 : Int))).toArray = Array.replicate (wd.length + 1) (.int .i64 0) := by simp
   obtain ⟨W4, hW4⟩ : ∃ z, (w3.alloc (.cells (Array.replicate (wd.length + 1) (.int .i64 0)) 3)).alloc (.cells #[.slice (some ⟨w3.heap.size, 0, none⟩) (wd.length + 1) (wd.length + 1)] 22) = z := ⟨_, rfl⟩
   have hO4 : W4.heap[w3.heap.size]? = some (.cells ((List.replicate (wd.length + 1) (0 : Int)).map (Value.int .i64)).toArray 3 (0, 0)) := by
    rw [← hW4, eZ]
    exact blk_alloc (heap_alloc_new w3 _) _
   have h64 : W4.heap[w3.heap.size + 1]? = some (.cells #[.slice (some ⟨w3.heap.size, 0, none⟩) (wd.length + 1) (wd.length + 1)] 22 (0, 0)) := by
    have h1 := heap_alloc_new (w3.alloc (.cells (Array.replicate (wd.length + 1) (.int .i64 0)) 3)) (.cells #[.slice (some ⟨w3.heap.size, 0, none⟩) (wd.length + 1) (wd.length + 1)] 22)
    rw [show (w3.alloc (.cells (Array.replicate (wd.length + 1) (.int .i64 0)) 3)).heap.size = w3.heap.size + 1 by simp] at h1
    rw [← hW4]
    exact h1
   have hb4 : Below w3.heap.size w3 W4 := by rw [← hW4]; exact below_alloc (below_alloc (Below.refl _ _) _) _
   have hz4 : W4.heap.size = w3.heap.size + 2 := by rw [← hW4]; simp
   rw [hW4]
   have HO4 := Aside0.mk hO4
   have H64 := Aside0.mk h64
   have HB4 := Aside0.mk (below_step HBn.out hb4)
   have HZ4 := Aside0.mk hz4
   have HWC := Aside0.mk (Kd.C_below (Kd.R_reads' HOn.out).2.2 hb4)
   have H64l := Aside0.mk hl64
   have HZ3 := Aside0.mk (HBn.out.size)
   clear hO4 h64 hb4 hz4 hW4 eZ hmk hkw hl64
   go_upto_region 6 with (first
    |((with_reducible refine gate_dst (N := 26) rfl ?_); refine Kd.R_lit (Kd.int .i64) (w0 := W4) W4.heap.size 3 rfl (N := 26) rfl (xs := ([46] : List Int)) (inner := [.int .i64 46]) (ok := fun _ => True) (okp := fun _ => True) ?hr ?hp (fun _ hk => hk) trivial (Below.refl _ _) (Nat.le_refl _) (by simp) ?_; (case hr => first | (go_simp; done) | (go_simp; rfl)); (case hp => exact (Reps.one (show Kd.M (Kd.int .i64) _ _ _ 46 [.int .i64 46] from rfl) (Reps.none _ _))); intro v26 w6 ho hb hg_ hnew_; have HD1 := Aside0.mk ho; have HDB := Aside0.mk hb; clear ho hb hg_ hnew_)
    |((with_reducible refine gate_builtin (b := .append) (xs := #[.tmp 26, .tmp 27]) rfl ?_); at_builtin; refine Kd.R_append_rows (Kd.int .i64) (w0 := W4) W4.heap.size rfl (.tmp 26) (.tmp 27) 22 3 (.int .i64 0) 8 rfl Tryd.underlying22 info3 rfl (by decide) (by omega) v26 [46] wd _ _ _ (fun _ => True) (fun _ => False) rfl rfl ?aO ?aR (fun _ _ h => h) (fun _ h => h.elim) ?aF ?aB ?aS ?aL ?_; (case aR => exact Kd.C_below HWC.out HDB.out); (case aB => exact HDB.out); (case aF => exact (fun _ _ => trivial)); (case aO => exact HD1.out); (case aS => exact HDB.out.size); (case aL => have := H64l.out; simp; omega); intro v28 w7 ho hb hg hat; have HD2 := Aside0.mk ho; have HDC := Aside0.mk hb; clear ho hb hg hat HD1 HDB)
    |((with_reducible refine gate_builtin (b := .append) (xs := #[.tmp 28, .tmp 29]) rfl ?_); at_builtin; refine Kd.R_append (Kd.int .i64) (w0 := W4) W4.heap.size rfl (.tmp 28) (.tmp 29) 22 3 (.int .i64 0) 8 rfl Tryd.underlying22 info3 rfl (by decide) (by omega) v28 ([46] ++ wd) 46 [.int .i64 46] (fun _ => True) (fun _ => False) rfl rfl ?aP (fun _ hk => hk.elim) ?aF ?aO ?aB ?aS ?aL ?_; (case aP => exact rfl); (case aB => exact HDC.out); (case aF => exact (fun _ _ => trivial)); (case aO => exact HD2.out); (case aS => exact HDC.out.size); (case aL => have := H64l.out; simp; omega); intro v30 w8 ho hb hg hat; have HD3 := Aside0.mk (show Kd.R (Kd.int .i64) 3 w8 W4.heap.size (fun _ => True) v30 (Lv.dotted wd) from ho); have HDD := Aside0.mk hb; clear ho hb hg hat HD2 HDC; obtain ⟨Ad, cd, rfl⟩ := Kd.R_slice HD3.out))
   obtain ⟨gd, rfl, hgd, _, _⟩ := Wd.blk HD3.out (by show 0 < (Lv.dotted wd).length; simp [Lv.dotted])
   have HGD := Aside0.mk hgd
   clear hgd
   have HDL := Aside0.mk (show (Lv.dotted wd).length = wd.length + 2 by simp [Lv.dotted])
   go_wp2
   refine (wpIn_wide (n := 3)).1 ?_
   refine wpIn_loop (fun a' w' => ∃ (j : Nat) (Ds : List Nat) (u8 u9 u34 u35 u36 u37 u38 u39 u40 u41 u42 u43 u69 : Value), j ≤ wd.length + 2 ∧ Lv.Inv w w8 w3.heap.size (w3.heap.size + 1) gd t.1 wd j Ds w' ∧ a' = { tmps := List.toArray ((.pointer (some ⟨Sb, 0, none⟩) : Value) :: (.slice A1 l1.length c1 : Value) :: (undef : Value) :: (undef : Value) :: (.slice none 0 0 : Value) :: (.slice Aw wd.length cw : Value) :: (.pointer (some ⟨w3.heap.size + 1, 0, none⟩) : Value) :: (.slice (some ⟨gd, 0, none⟩) (Lv.dotted wd).length cd : Value) :: (u8 : Value) :: (u9 : Value) :: (undef : Value) :: (undef : Value) :: (undef : Value) :: (.slice A1 l1.length c1 : Value) :: (.slice Aw wd.length cw : Value) :: (.pointer (some ⟨Sb, 0, none⟩) : Value) :: (.bool false : Value) :: (.bool false : Value) :: (.slice Aw wd.length cw : Value) :: (.int .i64 (wd.length : Int) : Value) :: (.bool false : Value) :: (.bool false : Value) :: (.slice Aw wd.length cw : Value) :: (.int .i64 (wd.length : Int) : Value) :: (.int .i64 ((wd.length : Int) + 1) : Value) :: (.slice (some ⟨w3.heap.size, 0, none⟩) (wd.length + 1) (wd.length + 1) : Value) :: (v26 : Value) :: (.slice Aw wd.length cw : Value) :: (v28 : Value) :: (.slice (some ⟨w7.heap.size, 0, none⟩) 1 1 : Value) :: (.slice (some ⟨gd, 0, none⟩) (Lv.dotted wd).length cd : Value) :: (.slice (some ⟨gd, 0, none⟩) (Lv.dotted wd).length cd : Value) :: (.int .i64 ((Lv.dotted wd).length : Int) : Value) :: (.int .i64 (j : Int) : Value) :: (u34 : Value) :: (u35 : Value) :: (u36 : Value) :: (u37 : Value) :: (u38 : Value) :: (u39 : Value) :: (u40 : Value) :: (u41 : Value) :: (u42 : Value) :: (u43 : Value) :: (undef : Value) :: (undef : Value) :: (undef : Value) :: (undef : Value) :: (undef : Value) :: (undef : Value) :: (undef : Value) :: (undef : Value) :: (undef : Value) :: (undef : Value) :: (undef : Value) :: (undef : Value) :: (undef : Value) :: (undef : Value) :: (undef : Value) :: (undef : Value) :: (undef : Value) :: (undef : Value) :: (undef : Value) :: (undef : Value) :: (undef : Value) :: (undef : Value) :: (undef : Value) :: (undef : Value) :: (undef : Value) :: (u69 : Value) :: (undef : Value) :: []), defers := Ds.map Lv.mk }) (fun a' _ => wd.length + 2 - (intOf (a'.tmps.getD 33 undef)).toNat) ?start ?round
   case start =>
    have hz4 := HZ4.out
    refine ⟨0, [], _, _, _, _, _, _, _, _, _, _, _, _, _, Nat.zero_le _, ⟨⟨List.replicate (wd.length + 1) 0, by simp, (HDD.out.block _ (blk_lt HO4.out)).trans HO4.out, rfl⟩, (HDD.out.block _ (blk_lt H64.out)).trans H64.out, rfl, below_step HB4.out HDD.out, ⟨List.nodup_nil, fun _ h => absurd h (by simp)⟩, fun _ h => absurd h (by simp)⟩, rfl⟩
   case round =>
    rintro a' W ⟨j, Ds, u8, u9, u34, u35, u36, u37, u38, u39, u40, u41, u42, u43, u69, hj, hI, rfl⟩
    by_cases hlt : j < wd.length + 2
    ·have kc1 : ((j : Int) < ((Lv.dotted wd).length : Int)) = True := eq_true (by have := HDL.out; omega)
     have kc2 : (j < (Lv.dotted wd).length) = True := eq_true (by have := HDL.out; omega)
     have kc3 : ((0 : Int) ≤ (j : Int)) = True := eq_true (by omega)
     have kc6 : IntKind.i64.wrap ((j : Int) + 1) = (j : Int) + 1 := by rw [IntKind.wrap_i64]; have := HOK.out.1.1; omega
     have kc7 : IntKind.i64.wrap ((j : Int) - 1) = (j : Int) - 1 := by rw [IntKind.wrap_i64]; have := HOK.out.1.1; omega
     have kc8 : (if (j : Int) - 1 < 0 then (0 : Int) else (j : Int) - 1) = ((j - 1 : Nat) : Int) := by split <;> omega
     have hRd : Kd.R (Kd.int .i64) 3 W W4.heap.size (fun _ => True) (.slice (some ⟨gd, 0, none⟩) (Lv.dotted wd).length cd) (Lv.dotted wd) := Wd.blk_stands HD3.out rfl hI.dot
     have hsl := fun W => Lv.slice_from W gd (Lv.dotted wd).length cd j (by have := HDL.out; omega) (Kd.R_reads' hRd).2.1
     have HIW := Aside0.mk hI
     have HRD := Aside0.mk hRd
     clear hI hRd
     have hwy := hyphen_Set_way.calls Sb ((Lv.dotted wd).length - j) (cd - j) (some ⟨gd, j, none⟩) (W.alloc (.cells #[.int .i64 ((j - 1 : Nat) : Int)] 3))
     rw [show (W.alloc (.cells #[.int .i64 ((j - 1 : Nat) : Int)] 3)).heap.size = W.heap.size + 1 by simp] at hwy
     have HWY := Aside0.mk hwy
     clear hwy
     gi_wp2
     refine ⟨trivial, ?_⟩
     refine (callsIn_wide.2 HWY.out).mono ?_
     rintro e w9 ⟨rfl, rfl⟩
     gi_wp2
     obtain ⟨W7, hW7⟩ : ∃ z, ((W.alloc (.cells #[.int .i64 ((j - 1 : Nat) : Int)] 3)).alloc (.cells #[.pointer (some ⟨Sb, 0, none⟩)] 27)).alloc (.cells #[.slice (some ⟨gd, j, none⟩) ((Lv.dotted wd).length - j) (cd - j)] 22) = z := ⟨_, rfl⟩
     have hc9 : W7.heap[W.heap.size]? = some (.cells #[.int .i64 ((j - 1 : Nat) : Int)] 3 (0, 0)) := by rw [← hW7]; exact blk_alloc (blk_alloc (heap_alloc_new W _) _) _
     have hc1 : W7.heap[W.heap.size + 1]? = some (.cells #[.pointer (some ⟨Sb, 0, none⟩)] 27 (0, 0)) := by
      have h1 := heap_alloc_new (W.alloc (.cells #[.int .i64 ((j - 1 : Nat) : Int)] 3)) (.cells #[.pointer (some ⟨Sb, 0, none⟩)] 27)
      rw [show (W.alloc (.cells #[.int .i64 ((j - 1 : Nat) : Int)] 3)).heap.size = W.heap.size + 1 by simp] at h1
      rw [← hW7]
      exact blk_alloc h1 _
     have hc2 : W7.heap[W.heap.size + 2]? = some (.cells #[.slice (some ⟨gd, j, none⟩) ((Lv.dotted wd).length - j) (cd - j)] 22 (0, 0)) := by
      have h1 := heap_alloc_new ((W.alloc (.cells #[.int .i64 ((j - 1 : Nat) : Int)] 3)).alloc (.cells #[.pointer (some ⟨Sb, 0, none⟩)] 27)) (.cells #[.slice (some ⟨gd, j, none⟩) ((Lv.dotted wd).length - j) (cd - j)] 22)
      rw [show ((W.alloc (.cells #[.int .i64 ((j - 1 : Nat) : Int)] 3)).alloc (.cells #[.pointer (some ⟨Sb, 0, none⟩)] 27)).heap.size = W.heap.size + 2 by simp] at h1
      rw [← hW7]
      exact h1
     have hb7 : Below W.heap.size W W7 := by rw [← hW7]; exact below_alloc (below_alloc (below_alloc (Below.refl _ _) _) _) _
     have hz7 : W7.heap.size = W.heap.size + 3 := by rw [← hW7]; simp
     rw [hW7]
     obtain ⟨o, ho1, ho2, ho3⟩ := HIW.out.out
     have HB7 := Aside0.mk hb7
     have HB7w := Aside0.mk (below_step HIW.out.below hb7)
     have HA7 := Aside0.mk (HAT.out.below HB7w.out)
     have HZ7 := Aside0.mk hz7
     have HG7 := Aside0.mk ((hb7.block _ (blk_lt ho2)).trans ho2)
     have HOL := Aside0.mk ho1
     have HLO := Aside0.mk ho3
     have H97 := Aside0.mk hc9
     have H67 := Aside0.mk ((hb7.block _ (blk_lt HIW.out.c6)).trans HIW.out.c6)
     have hjd : (Lv.dotted wd).length - j = ((Lv.dotted wd).drop j).length := by rw [List.length_drop]
     have hR7 := Kd.R_below HRD.out hb7
     have hgdl : gd < W.heap.size := Kd.R_lt HRD.out gd (by simp [Value.ownBlock])
     have hin : Wd.In [gd] W7 ⟨0, some ⟨gd, j, none⟩, cd - j, (Lv.dotted wd).drop j⟩ := by
      have h9 := Wd.mkIn hR7 (by have := HDL.out; omega) (bs := [gd]) (by simp) 0 (a := (j : Int)) (b := ((Lv.dotted wd).length : Int)) (by omega) (by have := HDL.out; omega) (Int.le_refl _)
      rw [Int.toNat_natCast, Int.toNat_natCast, List.take_length] at h9
      exact h9
     have hwfd : ∀ c ∈ (Lv.dotted wd).drop j, (Lit.int .i64 c).wf = true := fun c hc => by
      have hc := List.mem_of_mem_drop hc
      rcases List.mem_cons.1 hc with rfl | hc
      ·decide
      ·rcases List.mem_append.1 hc with hc | hc
       ·exact HOK.out.1.2.1 c hc
       ·rw [List.mem_singleton.1 hc]
        decide
     have hseq := hyphen_Set_way.seq 2 base W7 Sb K t.1 nb mb qb es t.2 HA7.out HOK.out.2 ⟨0, some ⟨gd, j, none⟩, cd - j, (Lv.dotted wd).drop j⟩ [gd] hin hwfd (by show ((Lv.dotted wd).drop j).length ≤ 1000; rw [List.length_drop, HDL.out]; have := HOK.out.1.1; omega) (W.heap.size + 1) (W.heap.size + 2) hc1 (by rw [hc2, hjd])
     have HDOT := Aside0.mk ((hb7.block gd hgdl).trans HIW.out.dot)
     have HGL := Aside0.mk hgdl
     obtain ⟨cellsd, hcd⟩ := Kd.R_typed HD3.out gd (by simp [Value.ownBlock])
     have HCD := Aside0.mk hcd
     have HMK : Aside0 (Lv.Marks W7 Ds) := ⟨⟨HIW.out.marks.1, fun D hD => (hb7.block D (blk_lt (HIW.out.marks.2 D hD))).trans (HIW.out.marks.2 D hD)⟩⟩
     have hgo : w3.heap.size ≠ gd := by have := HGD.out; have := HZ4.out; omega
     have HGO := Aside0.mk hgo
     clear hW7 hc9 hc1 hc2 hb7 hz7 ho1 ho2 ho3 hR7 hgdl hin hwfd hjd hcd hgo hsl kc7 kc8 HWY
     refine range_ghost (α := Nat) (γ := Unit) rfl (by decide) (gf := 51) (lb := #[.pointer (some ⟨W.heap.size + 1, 0, none⟩), .pointer (some ⟨W.heap.size + 2, 0, none⟩)]) rfl trivial (enters_of Tryd.func51 (by kernel_rfl) rfl) hseq (fun c _ _ _ h q => h.trans q) (fun c W l L L' _ hl => Wy.Kp.book W l L L' hl) (Below.refl _ _) (fun _ => rfl)
      (fun _ => Lv.Rv w w8 w3.heap.size (w3.heap.size + 1) W.heap.size gd (wd.length + 1) t.1 (j - 1) o Ds) (fun _ _ _ _ => False) (fun _ => Lv.Rv.own w w8 _ _ _ gd _ t.1 _ o Ds _ HB7w.out.size (fun D hD => blk_lt (HMK.out.2 D hD)) ⟨_, _, HCD.out⟩) (fun _ _ _ _ _ _ h _ _ => h) ?start2
      (fun _ q a' _ => a' = { tmps := List.toArray ((.pointer (some ⟨Sb, 0, none⟩) : Value) :: (.slice A1 l1.length c1 : Value) :: (undef : Value) :: (undef : Value) :: (.slice none 0 0 : Value) :: (.slice Aw wd.length cw : Value) :: (.pointer (some ⟨w3.heap.size + 1, 0, none⟩) : Value) :: (.slice (some ⟨gd, 0, none⟩) (Lv.dotted wd).length cd : Value) :: (.int .i64 (j : Int) : Value) :: (.pointer (some ⟨W.heap.size, 0, none⟩) : Value) :: (.pointer (some ⟨nb q, 0, none⟩) : Value) :: (undef : Value) :: (undef : Value) :: (.slice A1 l1.length c1 : Value) :: (.slice Aw wd.length cw : Value) :: (.pointer (some ⟨Sb, 0, none⟩) : Value) :: (.bool false : Value) :: (.bool false : Value) :: (.slice Aw wd.length cw : Value) :: (.int .i64 (wd.length : Int) : Value) :: (.bool false : Value) :: (.bool false : Value) :: (.slice Aw wd.length cw : Value) :: (.int .i64 (wd.length : Int) : Value) :: (.int .i64 ((wd.length : Int) + 1) : Value) :: (.slice (some ⟨w3.heap.size, 0, none⟩) (wd.length + 1) (wd.length + 1) : Value) :: (v26 : Value) :: (.slice Aw wd.length cw : Value) :: (v28 : Value) :: (.slice (some ⟨w7.heap.size, 0, none⟩) 1 1 : Value) :: (.slice (some ⟨gd, 0, none⟩) (Lv.dotted wd).length cd : Value) :: (.slice (some ⟨gd, 0, none⟩) (Lv.dotted wd).length cd : Value) :: (.int .i64 ((Lv.dotted wd).length : Int) : Value) :: (.int .i64 (j : Int) : Value) :: (.bool true : Value) :: (.int .i64 (j : Int) : Value) :: (.int .i64 (j : Int) : Value) :: (.int .i64 ((j : Int) - 1) : Value) :: (.int .i64 ((j - 1 : Nat) : Int) : Value) :: (.pointer (some ⟨Sb, 0, none⟩) : Value) :: (.slice (some ⟨gd, 0, none⟩) (Lv.dotted wd).length cd : Value) :: (.int .i64 (j : Int) : Value) :: (.slice (some ⟨gd, j, none⟩) ((Lv.dotted wd).length - j) (cd - j) : Value) :: (.func (.func 51) #[] #[.pointer (some ⟨W.heap.size + 1, 0, none⟩), .pointer (some ⟨W.heap.size + 2, 0, none⟩)] : Value) :: (.pointer (some ⟨nb q, 0, none⟩) : Value) :: (undef : Value) :: (undef : Value) :: (undef : Value) :: (undef : Value) :: (undef : Value) :: (undef : Value) :: (undef : Value) :: (undef : Value) :: (undef : Value) :: (undef : Value) :: (undef : Value) :: (undef : Value) :: (undef : Value) :: (undef : Value) :: (undef : Value) :: (undef : Value) :: (undef : Value) :: (undef : Value) :: (undef : Value) :: (undef : Value) :: (undef : Value) :: (undef : Value) :: (undef : Value) :: (undef : Value) :: (u69 : Value) :: (undef : Value) :: []), defers := [] }) (fun _ _ _ _ _ _ _ h _ _ => h) ?assign2 ?body2 ?done2 (fun _ _ _ _ _ _ _ h _ => h.elim)
     case start2 =>
      rintro c B W' hB hb _
      exact ⟨(hb.block _ (blk_lt HG7.out)).trans HG7.out, (hb.block _ (blk_lt H67.out)).trans H67.out, (hb.block _ (blk_lt H97.out)).trans H97.out, (hb.block gd (by have := HGL.out; have := HZ7.out; omega)).trans HDOT.out, below_step HB7w.out hb, HMK.out.1, fun D hD => (hb.block D (blk_lt (HMK.out.2 D hD))).trans (HMK.out.2 D hD)⟩
     case assign2 =>
      rintro c lr pre q W2 K' hI hE hK
      unfold Wy.encs
      dsimp only
      gi_wp2
      exact hK _ _ (KeepsL.refl _ _) (fun _ _ _ ho _ => ho) hI rfl
     case body2 =>
      rintro c lr pre q a' W2 hlr hrec hI hE rfl hN
      have hqm : q ∈ Wy.path t.1 0 ((Lv.dotted wd).drop j) := List.mem_of_getElem? hE.1
      have hql := Lv.path_lt HAT.out _ _ q hqm
      obtain ⟨nd, hnd⟩ : ∃ nd, t.1[q]? = some nd := ⟨_, List.getElem?_eq_getElem hql⟩
      have hbd := HOK.out.1.2.2 j hlt q hqm
      have hAt2 := HAT.out.below hI.below
      have hN := hAt2.tr.node q nd hnd
      have hLv : Lv.lvs t.1 q = (nd.lv).getD [] := by unfold Lv.lvs; rw [Trie.getD_of hnd]
      obtain ⟨L, hL⟩ : ∃ L, Lv.lvs t.1 q = L := ⟨_, rfl⟩
      obtain ⟨va, hva, hvq⟩ : ∃ va, Trie.lv nd.lv (qb q) = .slice va L.length L.length ∧ (0 < L.length → va = some ⟨qb q, 0, none⟩ ∧ qb q < w.heap.size ∧ W2.heap[qb q]? = some (.cells (L.map (Value.int .i64)).toArray 3 (0, 0))) := by
       rw [hLv] at hL
       cases hnl : nd.lv with
       | none =>
        rw [hnl] at hL
        have hL : [] = L := hL
        subst hL
        exact ⟨none, rfl, fun h => absurd h (by simp)⟩
       | some L' =>
        rw [hnl] at hL
        have hL : L' = L := hL
        subst hL
        exact ⟨_, rfl, fun _ => ⟨rfl, blk_lt (HAT.out.tr.lev q nd _ hnd hnl).2, (hAt2.tr.lev q nd _ hnd hnl).2⟩⟩
      rw [hva] at hN
      have hq1 : W2.cell? ⟨nb q, 1, none⟩ = some (.slice va L.length L.length) := (blk_cell hN 1).trans rfl
      rw [hL] at hbd
      have HI2 := Aside0.mk hI
      have HLq := Aside0.mk hL
      have HVQ := Aside0.mk hvq
      have HEE := Aside0.mk hE
      have hl64 := HOK.out.1.1
      clear hI hqm hql hAt2 hN hLv hL hva hvq hnd hE
      have hgw : w.heap.size ≤ w3.heap.size := HZ3.out
      have HGW := Aside0.mk hgw
      have h9ne : W.heap.size ≠ w3.heap.size := by have := HIW.out.out; obtain ⟨o, _, h, _⟩ := this; have := blk_lt h; omega
      have H9NE := Aside0.mk h9ne
      have h6ne : w3.heap.size + 1 ≠ w3.heap.size := by omega
      have HO2 := Aside0.mk (show (Lv.adds t.1 (j - 1) o pre).length = wd.length + 1 by rw [Lv.adds_length]; exact HOL.out)
      clear hgw h9ne
      gi_wp2
      gi_loopw [50] (fun v50 wr => ∃ (k : Nat) (o1 : List Int), v50 = .int .i64 (k : Int) ∧ k ≤ L.length ∧ o1.length = wd.length + 1 ∧ Aside0 (wr.heap[w3.heap.size]? = some (.cells (o1.map (Value.int .i64)).toArray 3 (0, 0))) ∧ Aside0 (Trie.lev o1 (j - 1 + k) (L.drop k) = Trie.lev (Lv.adds t.1 (j - 1) o pre) (j - 1) L) ∧ Aside0 (W2.grownBy wr (some w3.heap.size)))
       (fun v50 _ => L.length - (intOf v50).toNat)
      case atStart => exact ⟨0, _, rfl, Nat.zero_le _, HO2.out, ⟨HI2.out.out⟩, ⟨rfl⟩, ⟨rfl, rfl, rfl, Nat.le_refl _, fun _ _ _ => rfl⟩⟩
      case round =>
       clear hq1
       obtain ⟨k, o1, rfl, hk, ho1, HOO, HLL, HGG⟩ := hrel
       by_cases hkl : k < L.length
       ·obtain ⟨rfl, hqw, hqc⟩ := HVQ.out (by omega)
        have kc1 : ((k : Int) < (L.length : Int)) = True := eq_true (by omega)
        have kc2 : (k < L.length) = True := eq_true hkl
        have kc3 : ((0 : Int) ≤ (k : Int)) = True := eq_true (by omega)
        have kc6 : IntKind.i64.wrap ((k : Int) + 1) = (k : Int) + 1 := by rw [IntKind.wrap_i64]; omega
        obtain ⟨m, hm⟩ : ∃ m : Nat, m = j - 1 + k := ⟨_, rfl⟩
        have kc7 : IntKind.i64.wrap (((j - 1 : Nat) : Int) + (k : Int)) = (m : Int) := by rw [IntKind.wrap_i64]; omega
        have kc8 : ((0 : Int) ≤ (m : Int)) = True := eq_true (by omega)
        have kc9 : ((m : Int) < (wd.length : Int) + 1) = True := eq_true (by omega)
        have kc10 : (m < wd.length + 1) = True := eq_true (by omega)
        have kc11 : ((m : Int) < ((wd.length + 1 : Nat) : Int)) = True := eq_true (by omega)
        have r1 : wr.cell? ⟨qb q, k, none⟩ = some (.int .i64 (rd L (k : Int))) := by
         have h1 : wr.heap[qb q]? = _ := blk_grown hqc HGG.out (fun e => by injection e with e; have := HGW.out; omega)
         rw [blk_cell h1 k]
         show (L.map (Value.int .i64)).toArray[k]? = some (.int .i64 (L.getD (k : Int).toNat 0))
         simp [List.getD_eq_getElem?_getD, hkl]
        have r2 : wr.cell? ⟨w3.heap.size + 1, 0, none⟩ = some (.slice (some ⟨w3.heap.size, 0, none⟩) (wd.length + 1) (wd.length + 1)) := (blk_cell (blk_grown HI2.out.c6 HGG.out (fun e => by injection e with e; omega)) 0).trans rfl
        have r3 : wr.cell? ⟨W.heap.size, 0, none⟩ = some (.int .i64 ((j - 1 : Nat) : Int)) := (blk_cell (blk_grown HI2.out.c9 HGG.out (fun e => by injection e with e; exact H9NE.out e)) 0).trans rfl
        have r4 : wr.cell? ⟨w3.heap.size, m, none⟩ = some (.int .i64 (rd o1 (m : Int))) := by
         rw [blk_cell HOO.out m]
         show (o1.map (Value.int .i64)).toArray[m]? = some (.int .i64 (o1.getD (m : Int).toNat 0))
         simp [List.getD_eq_getElem?_getD, show m < o1.length by omega]
        have r5 := blk_frozen HOO.out m
        have HM := Aside0.mk hm
        have HQC := Aside0.mk (And.intro hqw hqc)
        clear hm hqw hqc
        gi_wp2
        have HOd := Aside0.mk (show wr.drew.heap[w3.heap.size]? = _ from HOO.out)
        have HGd := Aside0.mk (show W2.grownBy wr.drew (some w3.heap.size) from ⟨HGG.out.os, HGG.out.tape, HGG.out.output, HGG.out.size, HGG.out.block⟩)
        refine Rnd.start_in (m := 14) (S := fun w' => w'.cell? ⟨w3.heap.size + 1, 0, none⟩ = some (.slice (some ⟨w3.heap.size, 0, none⟩) (wd.length + 1) (wd.length + 1)) ∧ w'.cell? ⟨W.heap.size, 0, none⟩ = some (.int .i64 ((j - 1 : Nat) : Int)) ∧ w'.cell? ⟨w3.heap.size, m, none⟩ = some (.int .i64 (rd o1 (m : Int)))) (ds := [13]) #[false, false, false, false, false, false, false, false, false, false, false, false, false, false] (by kernel_rfl) rfl rfl (by kernel_rfl) (fun ⟨_, _, h_⟩ => h_) ⟨r2, r3, r4⟩ (fun hHeld => ?_)
        generalize wr.drew = z1 at HOd HGd hHeld ⊢
        clear r1 r2 r3 r4 r5
        refine take_ (i := 0) (N := some 55) (v := ?_) (a' := ?_) #[true, false, false, false, false, false, false, false, false, false, false, false, false, false] rfl rfl (by kernel_rfl) (fun _ _ _ h => h) (Or.inl ⟨by rfl, ?_⟩) hHeld ?_ ?_
        rotate_left
        ·rintro w' ⟨s0, s1, s2⟩
         go_simp
         with_reducible rfl
        rotate_left
        ·simp only [Act.put, List.setIfInBounds_toArray, List.set_cons_zero, List.set_cons_succ, i64_w, i32_w]
         rfl
        refine take_ (i := 1) (N := some 56) (v := ?_) (a' := ?_) #[true, true, false, false, false, false, false, false, false, false, false, false, false, false] rfl rfl (by kernel_rfl) (fun _ _ _ h => h) (Or.inl ⟨by rfl, ?_⟩) hHeld ?_ ?_
        rotate_left
        ·rintro w' ⟨s0, s1, s2⟩
         go_simp
         with_reducible rfl
        rotate_left
        ·simp only [Act.put, List.setIfInBounds_toArray, List.set_cons_zero, List.set_cons_succ, i64_w, i32_w]
         rfl
        refine pure_ (i := 2) (N := some 57) (v := ?_) (a' := ?_) #[true, true, true, false, false, false, false, false, false, false, false, false, false, false] rfl rfl (by kernel_rfl) (fun _ _ _ h => h) (Or.inl ⟨by rfl, ?_⟩) ?_ ?_
        rotate_left
        ·intro w'
         go_simp
         with_reducible rfl
        rotate_left
        ·simp only [Act.put, List.setIfInBounds_toArray, List.set_cons_zero, List.set_cons_succ, i64_w, i32_w]
         rfl
        refine pure_ (i := 3) (N := some 58) (v := ?_) (a' := ?_) #[true, true, true, true, false, false, false, false, false, false, false, false, false, false] rfl rfl (by kernel_rfl) (fun _ _ _ h => h) (Or.inl ⟨by rfl, ?_⟩) ?_ ?_
        rotate_left
        ·intro w'
         go_simp
         with_reducible rfl
        rotate_left
        ·simp only [Act.put, List.setIfInBounds_toArray, List.set_cons_zero, List.set_cons_succ, i64_w, i32_w]
         rfl
        refine take_ (i := 4) (N := some 59) (v := ?_) (a' := ?_) #[true, true, true, true, true, false, false, false, false, false, false, false, false, false] rfl rfl (by kernel_rfl) (fun _ _ _ h => h) (Or.inl ⟨by rfl, ?_⟩) hHeld ?_ ?_
        rotate_left
        ·rintro w' ⟨s0, s1, s2⟩
         go_simp
         with_reducible rfl
        rotate_left
        ·simp only [Act.put, List.setIfInBounds_toArray, List.set_cons_zero, List.set_cons_succ, i64_w, i32_w]
         rfl
        refine take_ (i := 5) (N := some 60) (v := ?_) (a' := ?_) #[true, true, true, true, true, true, false, false, false, false, false, false, false, false] rfl rfl (by kernel_rfl) (fun _ _ _ h => h) (Or.inl ⟨by rfl, ?_⟩) hHeld ?_ ?_
        rotate_left
        ·rintro w' ⟨s0, s1, s2⟩
         go_simp
         with_reducible rfl
        rotate_left
        ·simp only [Act.put, List.setIfInBounds_toArray, List.set_cons_zero, List.set_cons_succ, i64_w, i32_w]
         rfl
        refine pure_ (i := 6) (N := some 61) (v := ?_) (a' := ?_) #[true, true, true, true, true, true, true, false, false, false, false, false, false, false] rfl rfl (by kernel_rfl) (fun _ _ _ h => h) (Or.inl ⟨by rfl, ?_⟩) ?_ ?_
        rotate_left
        ·intro w'
         go_simp
         with_reducible rfl
        rotate_left
        ·simp only [Act.put, List.setIfInBounds_toArray, List.set_cons_zero, List.set_cons_succ, i64_w, i32_w]
         rfl
        refine pure_ (i := 7) (N := some 62) (v := ?_) (a' := ?_) #[true, true, true, true, true, true, true, true, false, false, false, false, false, false] rfl rfl (by kernel_rfl) (fun _ _ _ h => h) (Or.inl ⟨by rfl, ?_⟩) ?_ ?_
        rotate_left
        ·intro w'
         go_simp
         with_reducible rfl
        rotate_left
        ·simp only [Act.put, List.setIfInBounds_toArray, List.set_cons_zero, List.set_cons_succ, i64_w, i32_w]
         rfl
        refine pure_ (i := 8) (N := some 63) (v := ?_) (a' := ?_) #[true, true, true, true, true, true, true, true, true, false, false, false, false, false] rfl rfl (by kernel_rfl) (fun _ _ _ h => h) (Or.inl ⟨by rfl, ?_⟩) ?_ ?_
        rotate_left
        ·intro w'
         go_simp
         with_reducible rfl
        rotate_left
        ·simp only [Act.put, List.setIfInBounds_toArray, List.set_cons_zero, List.set_cons_succ, i64_w, i32_w]
         rfl
        refine take_ (i := 9) (N := some 64) (v := ?_) (a' := ?_) #[true, true, true, true, true, true, true, true, true, true, false, false, false, false] rfl rfl (by kernel_rfl) (fun _ _ _ h => h) (Or.inl ⟨by rfl, ?_⟩) hHeld ?_ ?_
        rotate_left
        ·rintro w' ⟨s0, s1, s2⟩
         go_simp
         with_reducible rfl
        rotate_left
        ·simp only [Act.put, List.setIfInBounds_toArray, List.set_cons_zero, List.set_cons_succ, i64_w, i32_w]
         rfl
        refine pure_ (i := 10) (N := some 65) (v := ?_) (a' := ?_) #[true, true, true, true, true, true, true, true, true, true, true, false, false, false] rfl rfl (by kernel_rfl) (fun _ _ _ h => h) (Or.inl ⟨by rfl, ?_⟩) ?_ ?_
        rotate_left
        ·intro w'
         go_simp
         with_reducible rfl
        rotate_left
        ·simp only [Act.put, List.setIfInBounds_toArray, List.set_cons_zero, List.set_cons_succ, i64_w, i32_w]
         rfl
        refine pure_ (i := 11) (N := some 66) (v := ?_) (a' := ?_) #[true, true, true, true, true, true, true, true, true, true, true, true, false, false] rfl rfl (by kernel_rfl) (fun _ _ _ h => h) (Or.inl ⟨by rfl, ?_⟩) ?_ ?_
        rotate_left
        ·intro w'
         go_simp
         with_reducible rfl
        rotate_left
        ·simp only [Act.put, List.setIfInBounds_toArray, List.set_cons_zero, List.set_cons_succ, i64_w, i32_w]
         rfl
        refine pure_ (i := 12) (N := some 67) (v := ?_) (a' := ?_) #[true, true, true, true, true, true, true, true, true, true, true, true, true, false] rfl rfl (by kernel_rfl) (fun _ _ _ h => h) (Or.inl ⟨by rfl, ?_⟩) ?_ ?_
        rotate_left
        ·intro w'
         go_simp
         with_reducible rfl
        rotate_left
        ·simp only [Act.put, List.setIfInBounds_toArray, List.set_cons_zero, List.set_cons_succ, i64_w, i32_w]
         rfl
        refine last_ (i := 13) (N := none) #[true, true, true, true, true, true, true, true, true, true, true, true, true, true] rfl rfl (by kernel_rfl) (by decide) (fun K hK => ?_)
        obtain ⟨s0_, s1_, s2_⟩ := hHeld
        have hf_ := blk_frozen HOd.out m
        refine skip_ (w1 := ?_) (by rfl) rfl ?_ ?_
        rotate_left
        ·go_simp
         rfl
        refine hK.out _ _ ?_
        clear hK K
        refine done_ (by kernel_rfl) ?_
        gi_wp2
        go_roundw
        case rel =>
         have e9 : L[k] = rd L (k : Int) := by show _ = L.getD (k : Int).toNat 0; simp [List.getD_eq_getElem?_getD, hkl]
         refine ⟨k + 1, o1.set m (mx (rd o1 (m : Int)) (rd L (k : Int))), by simp, by omega, by rw [List.length_set]; exact ho1, ⟨blk_put HOd.out m _ (by rw [List.setIfInBounds_toArray, List.map_set]; rfl)⟩, ⟨?_⟩, ⟨HGd.out.trans ⟨rfl, rfl, rfl, by simp, fun b _ hb => Below.heap_setCell _ _ _ _ (fun e => hb (by rw [e]))⟩⟩⟩
         have h9 := HLL.out
         rw [List.drop_eq_getElem_cons hkl, Trie.lev, e9, ← HM.out] at h9
         rw [show j - 1 + (k + 1) = m + 1 by have := HM.out; omega]
         exact h9
        case measure => (try simp [intOf]); omega
       ·obtain rfl : k = L.length := by omega
        have kc1 : ((L.length : Int) < (L.length : Int)) = False := eq_false (by omega)
        have kc2 : (L.length < L.length) = False := eq_false (by omega)
        gi_wp2
        have hll := HLL.out
        rw [List.drop_length, Trie.lev] at hll
        have hgdm : gd ≠ w3.heap.size := fun e => HGO.out e.symm
        have hI3 : Lv.Rv w w8 w3.heap.size (w3.heap.size + 1) W.heap.size gd (wd.length + 1) t.1 (j - 1) o Ds (pre ++ [q]) wr := HI2.out.next HGG.out HGW.out hgdm (blk_lt (HI2.out.dot.trans HCD.out)) H9NE.out (by rw [HLq.out, ← hll]; exact HOO.out)
        exact ⟨Lv.keepsL_cells HGG.out HI2.out.out, fun b ob hb ho hp => blk_grown ho HGG.out (fun e => by
         injection e with e
         rcases hb with hb | hb
         ·have h1 := (Cp.own_pl HAT.out hb)
          obtain ⟨_, ob2, h2, _⟩ := h1
          have := blk_lt h2
          have := HGW.out
          omega
         ·rw [List.mem_singleton.1 hb] at e
          exact hgdm e), hI3⟩
     case done2 =>
      rintro c D xs W2 hD rfl hI hd
      have HI2 := Aside0.mk hI
      have HDD2 := Aside0.mk hd
      have HDB := Aside0.mk hD
      have kd6 : IntKind.i64.wrap ((j : Int) + 1) = ((j + 1 : Nat) : Int) := by rw [IntKind.wrap_i64]; have := HOK.out.1.1; omega
      clear hI hd hD kc6
      gi_wp2
      have hO := HI2.out.out
      have hlo := HLO.out
      obtain ⟨n, hn⟩ : ∃ n, wd.length + 2 - j = n + 1 := ⟨wd.length + 2 - j - 1, by omega⟩
      rw [hn, Lv.loop] at hlo
      refine ⟨⟨j + 1, by omega, D :: Ds, ⟨⟨_, by rw [Lv.adds_length]; exact HOL.out, hO, by rw [show wd.length + 2 - (j + 1) = n by omega]; exact hlo⟩, HI2.out.c6, HI2.out.dot, HI2.out.below, ⟨List.nodup_cons.2 ⟨fun h => ?_, HI2.out.marks.1⟩, fun E hE => ?_⟩, fun E hE => ?_⟩, by simp, rfl⟩, ?_⟩
      ·have := blk_lt (HMK.out.2 D h)
       have := HDB.out
       omega
      ·rcases List.mem_cons.1 hE with rfl | hE
       ·exact HDD2.out
       ·exact HI2.out.marks.2 E hE
      ·rcases List.mem_cons.1 hE with rfl | hE
       ·have := HDB.out
        have := HB7w.out.size
        omega
       ·exact HIW.out.low E hE
      ·simp [intOf]
       omega
    ·obtain rfl : j = wd.length + 2 := by omega
     have kc1 : (((wd.length + 2 : Nat) : Int) < ((Lv.dotted wd).length : Int)) = False := eq_false (by have := HDL.out; omega)
     have kc2 : (wd.length + 2 < (Lv.dotted wd).length) = False := eq_false (by have := HDL.out; omega)
     have kc3 : ((wd.length : Int) + 2 < ((Lv.dotted wd).length : Int)) = False := eq_false (by have := HDL.out; omega)
     have r1 : W.cell? ⟨w3.heap.size + 1, 0, none⟩ = some (.slice (some ⟨w3.heap.size, 0, none⟩) (wd.length + 1) (wd.length + 1)) := (blk_cell hI.c6 0).trans rfl
     have HIW := Aside0.mk hI
     clear hI
     gi_wp2
     go_wp2
     obtain ⟨o, ho1, ho2, ho3⟩ := HIW.out.out
     rw [Nat.sub_self, Lv.loop] at ho3
     subst ho3
     refine Lv.leave Ds W HIW.out.marks (fun W' h1 h2 => ⟨_, results_tmp rfl _ _ _, _, rfl, ?_, h2 _ _ HIW.out.below HIW.out.below.size HIW.out.low⟩)
     have h9 := Lv.row (h1 _ _ ho2 trivial) HZ3.out (by rw [ho1]; have := HOK.out.1.1; omega)
     rw [ho1] at h9
     exact h9
end Go.Proofs.YtenhfmlkdcfbbaaDoor.PHyphenPoints
