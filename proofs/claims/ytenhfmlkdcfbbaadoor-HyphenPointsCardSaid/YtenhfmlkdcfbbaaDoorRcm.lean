/- law21: how the reference makes its set (function 12), walked. -/
import Derived.Test.YtenhfmlkdcfbbaaDoorRefA
import Derived.Test.YtenhfmlkdcfbbaaDoorSeq
namespace Go.Proofs.YtenhfmlkdcfbbaaDoor.PHyphenPoints
open Go.RowKit Go.Proofs.YtenhfmlkdcfbbaaDoorW.PrintWords Go.Proofs.YtenhfmlkdcfbbaaDoorW.PrintLast Go.Proofs.YtenhfmlkdcfbbaaDoorW.PrintMore
attribute [local go_sem] max2_int min2_int max_two min_two max_three min_three max_four min_four
set_option linter.unusedVariables false
set_option linter.unusedSimpArgs false
namespace Rf
def pats (k : Nat) (a : List Int) : List S69 → List S66 → Option (Int ⊕ List S66)
 | [], ps => some (.inr ps)
 | y :: r, ps => (colophonref21_read.f k ((a.take y.f1.toNat).drop y.f0.toNat)).bind fun t =>
  if t.2.2.2.2 = true then pats k a r (ps ++ [⟨t.1, t.2.1, t.2.2.1, t.2.2.2.1⟩]) else (colophonref21_place.f k a y.f0).bind fun p => some (.inl p)
def excs (k : Nat) (a : List Int) : List S69 → List S72 → Option (Int ⊕ List S72)
 | [], ps => some (.inr ps)
 | y :: r, ps => (colophonref21_except.f k ((a.take y.f1.toNat).drop y.f0.toNat)).bind fun t =>
  if t.2.2 = true then excs k a r (ps ++ [⟨t.1, t.2.1⟩]) else (colophonref21_place.f k a y.f0).bind fun p => some (.inl p)
end Rf
theorem colophonref21_read.callsC (k : Nat) (A0 : Option Addr) (c0 : Nat) (l0 : List Int) (r1 : List Int) (r2 r3 : Bool) (r4 : List Int) (r5 : Bool) (w : World) (hr0 : Kd.C (Kd.int .i64) w A0 l0.length l0) (hc0 : l0.length ≤ c0) (h : colophonref21_read.f k l0 = some (r1, r2, r3, r4, r5)) :
  Calls Tryd.prog 30 #[.slice A0 l0.length c0] w fun e w' => ∃ v0_ v3_ : Value, e = .returned (.tuple #[.agg #[v0_, .bool r2, .bool r3, v3_], .bool r5]) ∧ Kd.R (Kd.int .i64) 3 w' w.heap.size (fun k_ => some k_ ≠ (v3_ : Value).ownBlock) v0_ r1 ∧ Kd.R (Kd.int .i64) 3 w' w.heap.size (fun k_ => some k_ ≠ (v0_ : Value).ownBlock) v3_ r4 ∧ Below w.heap.size w w' := by
 refine (colophonref21_read.calls k (fun k_ => k_ < w.heap.size) A0 c0 l0 r1 r2 r3 r4 r5 w (Kd.V_mk hc0 (Kd.C_F (Kd.heap_int _) hr0)) h).mono ?_
 rintro e w' ⟨v0, v3, h1, h2, h3, h4⟩
 exact ⟨v0, v3, h1, Kd.R_mono h2 (fun _ q => q.2), Kd.R_mono h3 (fun _ q => q.2), h4⟩
theorem colophonref21_read.callsD (k : Nat) (bs : List Nat) (g off c : Nat) (l0 : List Int) (r1 : List Int) (r2 r3 : Bool) (r4 : List Int) (r5 : Bool) (w0 w : World) (n c0 : Nat) (hin : Wd.In bs w0 ⟨0, some ⟨g, off, none⟩, c, l0⟩) (hc : c = c0) (hn : l0.length = n) (hg : ∀ cells : Array Value, w0.heap[g]? = some (.cells cells 3 (0, 0)) → w.heap[g]? = some (.cells cells 3 (0, 0))) (h : colophonref21_read.f k l0 = some (r1, r2, r3, r4, r5)) :
  Calls Tryd.prog 30 #[.slice (some ⟨g, off, none⟩) n c0] w fun e w' => ∃ v0_ v3_ : Value, e = .returned (.tuple #[.agg #[v0_, .bool r2, .bool r3, v3_], .bool r5]) ∧ Kd.R (Kd.int .i64) 3 w' w.heap.size (fun k_ => some k_ ≠ (v3_ : Value).ownBlock) v0_ r1 ∧ Kd.R (Kd.int .i64) 3 w' w.heap.size (fun k_ => some k_ ≠ (v0_ : Value).ownBlock) v3_ r4 ∧ Below w.heap.size w w' := by
 subst hn hc
 have h2 : Wd.In bs w ⟨0, some ⟨g, off, none⟩, c, l0⟩ := by
  obtain ⟨a1, a2, g', off', cells, a3, a4, a5, a6⟩ := hin
  injection a3 with a3
  injection a3 with a3 a3'
  subst a3 a3'
  exact ⟨a1, a2, _, _, cells, rfl, a4, hg _ a5, a6⟩
 exact colophonref21_read.callsC k _ _ l0 r1 r2 r3 r4 r5 w h2.C h2.1 h
theorem colophonref21_except.callsD (k : Nat) (bs : List Nat) (g off c : Nat) (l0 : List Int) (r1 : List Int) (r2 : List Int) (r3 : Bool) (w0 w : World) (n c0 : Nat) (hin : Wd.In bs w0 ⟨0, some ⟨g, off, none⟩, c, l0⟩) (hc : c = c0) (hn : l0.length = n) (hg : ∀ cells : Array Value, w0.heap[g]? = some (.cells cells 3 (0, 0)) → w.heap[g]? = some (.cells cells 3 (0, 0))) (h : colophonref21_except.f k l0 = some (r1, r2, r3)) :
  Calls Tryd.prog 32 #[.slice (some ⟨g, off, none⟩) n c0] w fun e w' => ∃ v0_ v1_ : Value, e = .returned (.tuple #[.agg #[v0_, v1_], .bool r3]) ∧ Kd.R (Kd.int .i64) 3 w' w.heap.size (fun k_ => some k_ ≠ (v1_ : Value).ownBlock) v0_ r1 ∧ Kd.R (Kd.int .i64) 3 w' w.heap.size (fun k_ => some k_ ≠ (v0_ : Value).ownBlock) v1_ r2 ∧ Below w.heap.size w w' := by
 subst hn hc
 have h2 : Wd.In bs w ⟨0, some ⟨g, off, none⟩, c, l0⟩ := by
  obtain ⟨a1, a2, g', off', cells, a3, a4, a5, a6⟩ := hin
  injection a3 with a3
  injection a3 with a3 a3'
  subst a3 a3'
  exact ⟨a1, a2, _, _, cells, rfl, a4, hg _ a5, a6⟩
 exact colophonref21_except.calls k _ _ l0 r1 r2 r3 w h2.C h2.1 h
namespace Rf
def KW (Rb : Nat) (w w' : World) : Prop := ∀ (b : Nat) (o : Obj), w.heap[b]? = some o → b ≠ Rb → w'.heap[b]? = some o
theorem KW.R {α : Type} {d : Kd α} {e base Rb : Nat} {w w' : World} {v : Value} {xs : List α} {ok : Nat → Prop} {cells : Array Value} (h : d.R e w base ok v xs) (hk : KW Rb w w') (hR : w.heap[Rb]? = some (.cells cells 62 (0, 0))) (hE : d.E = []) (he : e ≠ 62) : d.R e w' base (fun _ => True) v xs :=
 Kd.R_mono (Kd.R_move (Kd.R_bound h) (fun k hk2 => by
  obtain ⟨_, _, _, q, hq, cs, hc⟩ := hk2
  rw [hE] at hq
  obtain rfl := List.mem_singleton.1 hq
  exact (hk k _ hc (blk_ne hc hR he)).trans hc.symm)) (fun _ _ => trivial)
theorem KW.RT {α : Type} {d : Kd α} {e base Rb T : Nat} {w w' : World} {v : Value} {xs : List α} {ok : Nat → Prop} {cells : Array Value} (h : d.R e w base ok v xs) (hk : KW Rb w w') (hR : w.heap[Rb]? = some (.cells cells T (0, 0))) (hE : d.E = []) (he : e ≠ T) : d.R e w' base ok v xs :=
 Kd.R_mono (Kd.R_move (Kd.R_bound h) (fun k hk2 => by
  obtain ⟨_, _, _, q, hq, cs, hc⟩ := hk2
  rw [hE] at hq
  obtain rfl := List.mem_singleton.1 hq
  exact (hk k _ hc (blk_ne hc hR he)).trans hc.symm)) (fun _ q => q.1)
theorem KW.trans {Rb : Nat} {a b c : World} (h : KW Rb a b) (h' : KW Rb b c) : KW Rb a c := fun k o ho hne => h' k o (h k o ho hne) hne
theorem KW.put {Rb i : Nat} {a b : World} (h : KW Rb a b) (v : Value) : KW Rb a (b.setCell ⟨Rb, i, none⟩ v) := fun k o ho hne => (Below.heap_setCell b _ v k hne).trans (h k o ho hne)
theorem KW.refl {Rb : Nat} {a : World} : KW Rb a a := fun _ _ h _ => h
theorem KW.alloc {Rb : Nat} {a b : World} (h : KW Rb a b) (o : Obj) : KW Rb a (b.alloc o) := fun k x ho hne => blk_alloc (h k x ho hne) o
theorem KW.below {Rb : Nat} {a b c : World} (h : KW Rb a b) (hb : Below b.heap.size b c) : KW Rb a c := fun k x ho hne => (hb.block k (blk_lt (h k x ho hne))).trans (h k x ho hne)
theorem KW.RE {α : Type} {d : Kd α} {e base Rb T : Nat} {w w' : World} {v : Value} {xs : List α} {ok : Nat → Prop} {cells : Array Value} (h : d.R e w base ok v xs) (hk : KW Rb w w') (hR : w.heap[Rb]? = some (.cells cells T (0, 0))) (he : ∀ q, q ∈ e :: d.E → q ≠ T) : d.R e w' base ok v xs :=
 Kd.R_mono (Kd.R_move (Kd.R_bound h) (fun k hk2 => by
  obtain ⟨_, _, _, q, hq, cs, hc⟩ := hk2
  exact (hk k _ hc (blk_ne hc hR (he q hq))).trans hc.symm)) (fun _ q => q.1)
theorem fill4 {W w0 : World} {gb : Nat} {x y : Value} {p q : Bool} {l m : List Int} {oa ob : Nat → Prop} (az : W.heap[gb]? = some (.cells #[.slice none 0 0, .bool false, .bool false, .slice none 0 0] 66 (0, 0))) (hlo : w0.heap.size ≤ gb) (h0 : Kd.R (Kd.int .i64) 3 W w0.heap.size oa x l) (h3 : Kd.R (Kd.int .i64) 3 W w0.heap.size ob y m) (hb : Below w0.heap.size w0 W) :
  let W' := ((((W.setCell ⟨gb, 0, none⟩ x).setCell ⟨gb, 1, none⟩ (.bool p)).setCell ⟨gb, 2, none⟩ (.bool q)).setCell ⟨gb, 3, none⟩ y)
  W'.heap[gb]? = some (.cells #[x, .bool p, .bool q, y] 66 (0, 0)) ∧ Kd.R (Kd.int .i64) 3 W' w0.heap.size oa x l ∧ Kd.R (Kd.int .i64) 3 W' w0.heap.size ob y m ∧ Below w0.heap.size w0 W' := by
 intro W'
 have hk : KW gb W W' := (((KW.refl.put x).put (.bool p)).put (.bool q)).put y
 exact ⟨blk_put (blk_put (blk_put (blk_put az 0 x rfl) 1 (.bool p) rfl) 2 (.bool q) rfl) 3 y rfl, KW.RT h0 hk az rfl (by decide), KW.RT h3 hk az rfl (by decide), below_set (below_set (below_set (below_set hb hlo) hlo) hlo) hlo⟩
theorem fill2 {W w0 : World} {gb : Nat} {x y : Value} {l m : List Int} {oa ob : Nat → Prop} (az : W.heap[gb]? = some (.cells #[.slice none 0 0, .slice none 0 0] 72 (0, 0))) (hlo : w0.heap.size ≤ gb) (h0 : Kd.R (Kd.int .i64) 3 W w0.heap.size oa x l) (h3 : Kd.R (Kd.int .i64) 3 W w0.heap.size ob y m) (hb : Below w0.heap.size w0 W) :
  let W' := ((W.setCell ⟨gb, 0, none⟩ x).setCell ⟨gb, 1, none⟩ y)
  W'.heap[gb]? = some (.cells #[x, y] 72 (0, 0)) ∧ Kd.R (Kd.int .i64) 3 W' w0.heap.size oa x l ∧ Kd.R (Kd.int .i64) 3 W' w0.heap.size ob y m ∧ Below w0.heap.size w0 W' := by
 intro W'
 have hk : KW gb W W' := ((KW.refl.put x).put y)
 exact ⟨blk_put (blk_put az 0 x rfl) 1 y rfl, KW.RT h0 hk az rfl (by decide), KW.RT h3 hk az rfl (by decide), below_set (below_set hb hlo) hlo⟩
end Rf
def colophonref21_Compile.f (k : Nat) (p x : ByteArray) : Option (Option Rf.RS × Int × Int) :=
 if 1048576 < p.size ∨ 1048576 < x.size then some (none, 0, 2) else
 (colophonref04_Decode.f k p).bind fun d => if d.2.2 ≠ 0 then some (none, d.2.1, d.2.2) else
 (colophonref04_Decode.f k x).bind fun e => if e.2.2 ≠ 0 then some (none, e.2.1, e.2.2) else
 (colophonref04_Words.f k d.1).bind fun u => (Rf.pats k d.1 u []).bind fun q => match q with
 | .inl at_ => some (none, at_, 210)
 | .inr ps => (colophonref04_Words.f k e.1).bind fun v => (Rf.excs k e.1 v []).bind fun q => match q with
  | .inl at_ => some (none, at_, 210)
  | .inr es => some (some (ps, es), 0, 0)
def colophonref21_Compile.OK (k : Nat) (p x : ByteArray) : Prop :=
 (∀ l a u, colophonref04_Decode.f k p = some (l, a, 0) → colophonref04_Words.f k l = some u → l.length ≤ 1048576 ∧ u.length ≤ 1048576 ∧ ∀ y ∈ u, 0 ≤ y.f0 ∧ y.f0 < y.f1 ∧ y.f1 ≤ (l.length : Int)) ∧
 (∀ l a u, colophonref04_Decode.f k x = some (l, a, 0) → colophonref04_Words.f k l = some u → l.length ≤ 1048576 ∧ u.length ≤ 1048576 ∧ ∀ y ∈ u, 0 ≤ y.f0 ∧ y.f0 < y.f1 ∧ y.f1 ≤ (l.length : Int))
set_option maxHeartbeats 8000000 in
set_option maxRecDepth 100000 in
theorem colophonref21_Compile.calls (k : Nat) (p x : ByteArray) (r0 : Option Rf.RS) (r1 r2 : Int) (w : World) (h : colophonref21_Compile.f k p x = some (r0, r1, r2)) (hOK : colophonref21_Compile.OK k p x) :
  Calls Tryd.prog 12 #[.string p, .string x] w fun e w' => ∃ v, e = .returned (.tuple #[v, .int .i64 r1, .int .i64 r2]) ∧ Rf.SetV w' v r0 ∧ Below w.heap.size w w' := by
 unfold colophonref21_Compile.f at h
 have HOK := Aside0.mk hOK
 clear hOK
 by_cases hbig : 1048576 < p.size ∨ 1048576 < x.size
 ·rw [if_pos hbig] at h
  injection h with h
  injection h with h1 h
  injection h with h2 h3
  subst h1 h2 h3
  by_cases hp : 1048576 < p.size
  ·have k1 : decide ((1048576 : Int) < (p.size : Int)) = true := decide_eq_true (by omega)
   have k2 : decide (1048576 < p.size) = true := decide_eq_true hp
   have k3 : (1048576 < p.size) = True := eq_true hp
   clear hbig hp
   go_enter Tryd.func12, Tryd.ntmps12
   go_wp2
   refine bodyPost_ret (results_list (rs := [.tmp 4, .tmp 5, .tmp 6]) rfl (by simp) (.tmp (.tmp (.tmp .nil)))) rfl ?_
   exact ⟨_, rfl, rfl, Below.refl _ _⟩
  ·have hx : 1048576 < x.size := hbig.resolve_left hp
   have k1 : decide ((1048576 : Int) < (p.size : Int)) = false := decide_eq_false (by omega)
   have k2 : decide (1048576 < p.size) = false := decide_eq_false hp
   have k3 : (1048576 < p.size) = False := eq_false hp
   have k4 : decide ((1048576 : Int) < (x.size : Int)) = true := decide_eq_true (by omega)
   have k5 : decide (1048576 < x.size) = true := decide_eq_true hx
   have k6 : (1048576 < x.size) = True := eq_true hx
   clear hbig hp hx
   go_enter Tryd.func12, Tryd.ntmps12
   go_wp2
   refine bodyPost_ret (results_list (rs := [.tmp 4, .tmp 5, .tmp 6]) rfl (by simp) (.tmp (.tmp (.tmp .nil)))) rfl ?_
   exact ⟨_, rfl, rfl, Below.refl _ _⟩
 ·rw [if_neg hbig] at h
  have hp : ¬ 1048576 < p.size := fun q => hbig (.inl q)
  have hx : ¬ 1048576 < x.size := fun q => hbig (.inr q)
  have k1 : decide ((1048576 : Int) < (p.size : Int)) = false := decide_eq_false (by omega)
  have k2 : decide (1048576 < p.size) = false := decide_eq_false hp
  have k3 : (1048576 < p.size) = False := eq_false hp
  have k4 : decide ((1048576 : Int) < (x.size : Int)) = false := decide_eq_false (by omega)
  have k5 : decide (1048576 < x.size) = false := decide_eq_false hx
  have k6 : (1048576 < x.size) = False := eq_false hx
  obtain ⟨⟨l1, a1, e1⟩, hd1, h⟩ := Option.bind_eq_some_iff.mp h
  dsimp only at h
  have HD1 := Aside0.mk hd1
  have H := Aside0.mk h
  clear hbig hp hx h hd1
  go_enter Tryd.func12, Tryd.ntmps12
  go_upto_region 4 with (first | ((with_reducible refine gate_callee (f := 28) rfl ?_); refine goesL_ (some 29) rfl rfl Tryd.func28 (by kernel_rfl) rfl #[.string p] rfl (by (try simp only [List.map_toArray, List.map_cons, List.map_nil]); first | done | rfl) ?_; (with_reducible refine (colophonref04_Decode.calls k p l1 a1 e1 _ HD1.out).mono ?_); rintro e w3 ⟨v7, rfl, ho0, hb⟩; refine ⟨_, rfl, ?_⟩; have HA := Aside0.mk ho0; have HB := Aside0.mk hb; clear ho0 hb))
  clear k1 k2 k3 k4 k5 k6
  by_cases he : e1 = 0
  ·subst he
   have hh := H.out
   rw [if_neg (fun q => q rfl)] at hh
   obtain ⟨⟨l2, a2, e2⟩, hd2, hh⟩ := Option.bind_eq_some_iff.mp hh
   dsimp only at hh
   have HD2 := Aside0.mk hd2
   have H2 := Aside0.mk hh
   clear hd2 hh H
   go_upto_region 7 with (first | ((with_reducible refine gate_callee (f := 28) rfl ?_); refine goesL_ (some 39) rfl rfl Tryd.func28 (by kernel_rfl) rfl #[.string x] rfl (by (try simp only [List.map_toArray, List.map_cons, List.map_nil]); first | done | rfl) ?_; (with_reducible refine (colophonref04_Decode.calls k x l2 a2 e2 _ HD2.out).mono ?_); rintro e w4 ⟨v10, rfl, ho0, hb⟩; refine ⟨_, rfl, ?_⟩; have HA2 := Aside0.mk (Kd.R_below HA.out hb); have HB2 := Aside0.mk (Kd.R_lower ho0 HB.out.size); have HBB := Aside0.mk (below_step HB.out hb); clear ho0 hb HA HB))
   by_cases he : e2 = 0
   ·subst he
    have hh := H2.out
    rw [if_neg (fun q => q rfl)] at hh
    obtain ⟨u, hu, hh⟩ := Option.bind_eq_some_iff.mp hh
    have HU := Aside0.mk hu
    have H3 := Aside0.mk hh
    have HO1 := Aside0.mk (HOK.out.1 l1 a1 u HD1.out hu)
    clear hu hh H2
    obtain ⟨Aa, ca, rfl⟩ := Kd.R_slice HA2.out
    obtain ⟨Ab, cb, rfl⟩ := Kd.R_slice HB2.out
    go_upto_region 10 with (fail)
    obtain ⟨W5, hW5⟩ : ∃ z, w4.alloc (.cells #[.slice none 0 0, .slice none 0 0] 62) = z := ⟨_, rfl⟩
    have hRb : W5.heap[w4.heap.size]? = some (.cells #[.slice none 0 0, .slice none 0 0] 62 (0, 0)) := by rw [← hW5]; exact heap_alloc_new w4 _
    have hb5 : Below w4.heap.size w4 W5 := by rw [← hW5]; exact below_alloc (Below.refl _ _) _
    rw [hW5]
    have HRB := Aside0.mk hRb
    have HAa := Aside0.mk (Kd.R_bound (Kd.R_below HA2.out hb5))
    have HAb := Aside0.mk (Kd.R_bound (Kd.R_below HB2.out hb5))
    have HB5 := Aside0.mk (below_step HBB.out hb5)
    clear hW5 hRb hb5 HA2 HB2
    go_wp2_with (first | ((with_reducible refine gate_callee (f := 29) rfl ?_); refine goesL_ (some 50) rfl rfl Tryd.func29 (by kernel_rfl) rfl #[.slice Aa l1.length ca] rfl (by (try simp only [List.map_toArray, List.map_cons, List.map_nil]); first | done | rfl) ?_; (with_reducible refine (colophonref04_Words.calls k _ _ l1 u _ (Kd.R_reads' HAa.out).2.2 (Kd.R_reads' HAa.out).2.1 HU.out).mono ?_); rintro e w6 ⟨v12, rfl, ho0, hb⟩; refine ⟨_, rfl, ?_⟩; have HW := Aside0.mk (Kd.R_bound ho0); have HA6 := Aside0.mk (Kd.R_below HAa.out hb); have HB6 := Aside0.mk (Kd.R_below HAb.out hb); have HRB6 := Aside0.mk ((hb.block _ (blk_lt HRB.out)).trans HRB.out); have HBw := Aside0.mk (below_step HB5.out hb); clear ho0 hb HAa HAb HRB HB5; obtain ⟨Aw, cw, rfl⟩ := Kd.R_slice HW.out))
    obtain ⟨q1, hq1, hh⟩ := Option.bind_eq_some_iff.mp H3.out
    have HQ1 := Aside0.mk hq1
    have HHq := Aside0.mk hh
    have HRl := Aside0.mk (blk_lt HRB6.out)
    clear hq1 hh H3
    go_loopw [13] (fun v13 w' => ∃ (j : Nat) (ps : List S66) (vp : Value), v13 = .int .i64 (j : Int) ∧ j ≤ u.length ∧ ps.length ≤ j ∧ Aside0 (Rf.pats k l1 (u.drop j) ps = some q1) ∧ Aside0 (Kd.R k66 66 w' w6.heap.size (fun _ => True) vp ps) ∧ Aside0 (w'.heap[w4.heap.size]? = some (.cells #[vp, .slice none 0 0] 62 (0, 0))) ∧ Aside0 (Rf.KW w4.heap.size w6 w') ∧ Aside0 (Below w.heap.size w w') ∧ Aside0 (w6.heap.size ≤ w'.heap.size))
     (fun v13 _ => u.length - (intOf v13).toNat)
    case atStart => exact ⟨0, [], _, rfl, Nat.zero_le _, Nat.le_refl _, ⟨HQ1.out⟩, ⟨Kd.R_nil _ _ _ _ _⟩, HRB6, ⟨fun _ _ h _ => h⟩, HBw, ⟨Nat.le_refl _⟩⟩
    case round =>
     obtain ⟨j, ps, vp, rfl, hj, hps, HP, HPS, HRb, HK, HB, HSZ⟩ := hrel
     by_cases hlt : j < u.length
     ·have kc1 : decide ((j : Int) < (u.length : Int)) = true := decide_eq_true (by omega)
      have kc2 : decide (j < u.length) = true := decide_eq_true hlt
      have kc3 : ((0 : Int) ≤ (j : Int)) = True := eq_true (by omega)
      have kc4 : ((j : Int) < (u.length : Int)) = True := eq_true (by omega)
      have kc6 : IntKind.i64.wrap ((j : Int) + 1) = (j : Int) + 1 := by rw [IntKind.wrap_i64]; have := HO1.out.2.1; omega
      have hmem : rd_T69 u (j : Int) ∈ u := by
       show u.getD (j : Int).toNat z69 ∈ u
       rw [Int.toNat_natCast, List.getD_eq_getElem?_getD, List.getElem?_eq_getElem hlt]
       exact List.getElem_mem hlt
      obtain ⟨f00, f01, f1l⟩ := HO1.out.2.2 _ hmem
      have hWr := Rf.KW.R HW.out HK.out HRB6.out rfl (by decide)
      have hAr := Rf.KW.R HA6.out HK.out HRB6.out rfl (by decide)
      obtain ⟨gw, rfl, _, _, hgwl, _⟩ := Wd.blk hWr (by omega)
      obtain ⟨ga, rfl, _, _, _, _⟩ := Wd.blk hAr (by omega)
      obtain ⟨ad, e, y0, y1⟩ := at_T69 (Kd.R_reads' hWr).2.2 (j : Int) (by omega) (by omega)
      cases e
      have hdr : u.drop j = rd_T69 u (j : Int) :: u.drop (j + 1) := by
       rw [List.drop_eq_getElem_cons hlt]
       congr 1
       show u[j] = u.getD (j : Int).toNat z69
       rw [Int.toNat_natCast, List.getD_eq_getElem?_getD, List.getElem?_eq_getElem hlt]
       rfl
      have hp := HP.out
      rw [hdr, Rf.pats] at hp
      generalize hxe : rd_T69 u (j : Int) = xe at *
      obtain ⟨a0, a1⟩ := xe
      dsimp only at f00 f01 f1l y0 y1 hp
      rw [Wd.addz] at y0 y1
      simp only [Int.toNat_natCast] at y0 y1
      obtain ⟨⟨t1, t2, t3, t4, t5⟩, hrd, hp⟩ := Option.bind_eq_some_iff.mp hp
      dsimp only at hp
      have hsl := fun W => Wd.slice_run W ga l1.length ca a0 a1 f00 f01 (by have := (Kd.R_reads' hAr).2.1; omega)
      have hin := Wd.mkIn hAr (by omega) (bs := [ga]) (by simp) 0 f00 f01 f1l
      have hwl2 : ((l1.take a1.toNat).drop a0.toNat).length = a1.toNat - a0.toNat := by rw [List.length_drop, List.length_take]; omega
      have HRD := Aside0.mk hrd
      have HP2 := Aside0.mk hp
      have HIN := Aside0.mk hin
      have HWL := Aside0.mk hwl2
      have HY := Aside0.mk (And.intro y0 y1)
      have HAR := Aside0.mk hAr
      clear hrd hp hin hwl2 hWr hAr hdr hxe hmem HP
      go_upto_region 14 with (fail)
      go_cut [14, 15] (fun v14 v15 wc => ∃ (gb : Nat) (v0 v3 : Value), v14 = .pointer (some ⟨gb, 0, none⟩) ∧ v15 = .bool t5 ∧ Aside0 (wr.heap.size ≤ gb) ∧ Aside0 (wc.heap[gb]? = some (.cells #[v0, .bool t2, .bool t3, v3] 66 (0, 0))) ∧ Aside0 (Kd.R (Kd.int .i64) 3 wc wr.heap.size (fun k_ => some k_ ≠ (v3 : Value).ownBlock) v0 t1) ∧ Aside0 (Kd.R (Kd.int .i64) 3 wc wr.heap.size (fun k_ => some k_ ≠ (v0 : Value).ownBlock) v3 t4) ∧ Aside0 (Below wr.heap.size wr wc))
      case first =>
       have hS0 := HY.out.1
       have hS1 := HY.out.2
       go_region_held3 (fun w' => w'.cell? ⟨gw, j * 2, none⟩ = some (.int .i64 a0) ∧ w'.cell? ⟨gw, j * 2 + 1, none⟩ = some (.int .i64 a1)) (simp [*, World.cell?_alloc_some, World.cell?_setCell_far, World.cell?_setCell_other]) (first | ((with_reducible refine (colophonref21_read.callsD k _ ga _ _ _ t1 t2 t3 t4 t5 wr _ _ _ HIN.out rfl HWL.out ?_ HRD.out).mono ?_); (first | exact fun _ q => q | exact fun _ q => blk_alloc q _); rintro e w7 ⟨v0, v3, rfl, h0, h3, hb⟩; obtain ⟨A7, c7, rfl⟩ := Kd.R_slice h0; obtain ⟨B7, d7, rfl⟩ := Kd.R_slice h3; have c70 : w7.cell? ⟨gw, j * 2, none⟩ = some (.int .i64 a0) := (hb.cell (p := ⟨gw, j * 2, none⟩) (show gw < _ by first | exact hgwl | (simp; omega))).trans (by first | exact hS0 | (simp [World.cell?_alloc_some, hS0]; done)); have c71 : w7.cell? ⟨gw, j * 2 + 1, none⟩ = some (.int .i64 a1) := (hb.cell (p := ⟨gw, j * 2 + 1, none⟩) (show gw < _ by first | exact hgwl | (simp; omega))).trans (by first | exact hS1 | (simp [World.cell?_alloc_some, hS1]; done)); (first | (have az : w7.heap[wr.heap.size]? = some (.cells #[.slice none 0 0, .bool false, .bool false, .slice none 0 0] 66 (0, 0)) := (hb.block wr.heap.size (by simp)).trans (heap_alloc_new wr.drew _); have n1 : gw ≠ wr.heap.size := Nat.ne_of_lt hgwl; have n2 := n1.symm; have z0 := (blk_cell az 0).trans rfl; have z1 := (blk_cell az 1).trans rfl; have z2 := (blk_cell az 2).trans rfl; have z3 := (blk_cell az 3).trans rfl; have y0 := blk_frozen az 0; have y1 := blk_frozen az 1; have y2 := blk_frozen az 2; have y3 := blk_frozen az 3; have AZ := Aside0.mk az; clear az) | (have az : (w7.alloc (.cells #[.slice none 0 0, .bool false, .bool false, .slice none 0 0] 66)).heap[w7.heap.size]? = some (.cells #[.slice none 0 0, .bool false, .bool false, .slice none 0 0] 66 (0, 0)) := heap_alloc_new w7 _; have n1 : gw ≠ w7.heap.size := Nat.ne_of_lt (Nat.lt_of_lt_of_le hgwl hb.size); have n2 := n1.symm; have z0 := (blk_cell az 0).trans rfl; have z1 := (blk_cell az 1).trans rfl; have z2 := (blk_cell az 2).trans rfl; have z3 := (blk_cell az 3).trans rfl; have y0 := blk_frozen az 0; have y1 := blk_frozen az 1; have y2 := blk_frozen az 2; have y3 := blk_frozen az 3; have AZ := Aside0.mk az; clear az)); have HR0 := Aside0.mk h0; have HR3 := Aside0.mk h3; have HB7 := Aside0.mk hb; clear h0 h3 hb))
       all_goals (first
        |(have hbw : Below wr.heap.size wr w7 := below_step (below_alloc (below_drew1 (Below.refl _ _)) _) HB7.out
          have F := Rf.fill4 (w0 := wr) (p := t2) (q := t3) AZ.out (Nat.le_refl _) (Kd.R_lower HR0.out (by simp)) (Kd.R_lower HR3.out (by simp)) hbw
          have F0 := Aside0.mk F.1; have F1 := Aside0.mk F.2.1; have F2 := Aside0.mk F.2.2.1; have F3 := Aside0.mk F.2.2.2
          clear F hbw
          go_wp2; go_meet
          exact ⟨_, _, _, rfl, rfl, ⟨Nat.le_refl _⟩, F0, F1, F2, F3⟩)
        |(have hbw : Below wr.heap.size wr (w7.alloc (.cells #[.slice A7 t1.length c7, .bool t2, .bool t3, .slice B7 t4.length d7] 66)) := below_alloc (below_step (below_drew1 (Below.refl _ _)) HB7.out) _
          have F0 := Aside0.mk (heap_alloc_new w7 (.cells #[.slice A7 t1.length c7, .bool t2, .bool t3, .slice B7 t4.length d7] 66)); have F1 := Aside0.mk (Kd.R_alloc (Kd.R_lower (base' := wr.heap.size) HR0.out (by simp)) (.cells #[.slice A7 t1.length c7, .bool t2, .bool t3, .slice B7 t4.length d7] 66)); have F2 := Aside0.mk (Kd.R_alloc (Kd.R_lower (base' := wr.heap.size) HR3.out (by simp)) (.cells #[.slice A7 t1.length c7, .bool t2, .bool t3, .slice B7 t4.length d7] 66)); have F3 := Aside0.mk hbw
          clear hbw
          have HSZ7 := Aside0.mk (show wr.heap.size ≤ w7.heap.size from HB7.out.size)
          go_wp2; go_meet
          exact ⟨_, _, _, rfl, rfl, HSZ7, F0, F1, F2, F3⟩))
      case rest =>
       obtain ⟨gb, v0, v3, rfl, rfl, GE, BK, HT1, HT4, HBc⟩ := hcut
       have HARc := Aside0.mk (Kd.R_below HAR.out HBc.out)
       have HBB2 := Aside0.mk (below_step HB.out HBc.out)
       cases t5 with
       | false =>
        have hp2 := HP2.out
        rw [if_neg (by decide)] at hp2
        obtain ⟨pl, hpl, hp2⟩ := Option.bind_eq_some_iff.mp hp2
        injection hp2 with hp2
        subst hp2
        have HPL := Aside0.mk hpl
        have hret := HHq.out
        injection hret with hret
        injection hret with h1 hret
        injection hret with h2 h3
        subst h1 h2 h3
        have hc0 : wc.cell? ⟨gw, j * 2, none⟩ = some (.int .i64 a0) := (HBc.out.cell (p := ⟨gw, j * 2, none⟩) hgwl).trans HY.out.1
        clear hpl HP2 HQ1
        go_wp2_with (first | ((with_reducible refine gate_callee (f := 31) rfl ?_); refine goesL_ (some 81) rfl rfl Tryd.func31 (by kernel_rfl) rfl #[.slice (some ⟨ga, 0, none⟩) l1.length ca, .int .i64 a0] rfl (by (try simp only [List.map_toArray, List.map_cons, List.map_nil]); first | done | rfl) ?_; (with_reducible refine (colophonref21_place.calls k _ _ l1 a0 pl _ (Kd.R_reads' HARc.out).2.2 (Kd.R_reads' HARc.out).2.1 HPL.out).mono ?_); rintro e w8 ⟨rfl, hb⟩; refine ⟨_, rfl, ?_⟩; have HB8 := Aside0.mk (below_step HBB2.out hb); clear hb))
        refine bodyPost_ret (results_list (rs := [.tmp 4, .tmp 5, .tmp 6]) rfl (by simp) (.tmp (.tmp (.tmp .nil)))) rfl ?_
        exact ⟨_, rfl, rfl, HB8.out⟩
       | true =>
        have hp2 := HP2.out
        rw [if_pos rfl] at hp2
        have HP3 := Aside0.mk hp2
        clear hp2 HP2
        obtain ⟨A7, c7, rfl⟩ := Kd.R_slice HT1.out
        obtain ⟨B7, d7, rfl⟩ := Kd.R_slice HT4.out
        have HPlt := Aside0.mk (Kd.R_lt HPS.out)
        have HWS := Aside0.mk (show w.heap.size ≤ w6.heap.size from HBw.out.size)
        have CRd := Aside0.mk (show wc.drew.heap[w4.heap.size]? = some (.cells #[vp, .slice none 0 0] 62 (0, 0)) from (HBc.out.block _ (blk_lt HRb.out)).trans HRb.out)
        have BKd := Aside0.mk (blk_drew BK.out)
        have HPd := Aside0.mk (Kd.R_drew (Kd.R_below HPS.out HBc.out))
        have HKd := Aside0.mk (show Rf.KW w4.heap.size w6 wc.drew from fun k_ o ho hne => (HBc.out.block k_ (blk_lt (HK.out k_ o ho hne))).trans (HK.out k_ o ho hne))
        have HBd := Aside0.mk (below_drew1 HBB2.out)
        have HRd1 := Aside0.mk (Kd.R_drew HT1.out)
        have HRd2 := Aside0.mk (Kd.R_drew HT4.out)
        have HSd := Aside0.mk (show w6.heap.size ≤ wc.drew.heap.size from Nat.le_trans HSZ.out HBc.out.size)
        go_upto_region 17 with (fail)
        refine start_ (n := 11) (S := fun w' => w'.cell? ⟨w4.heap.size, 0, none⟩ = some (vp) ∧ w'.cell? ⟨gb, 0, none⟩ = some (.slice A7 t1.length c7) ∧ w'.cell? ⟨gb, 1, none⟩ = some (.bool t2) ∧ w'.cell? ⟨gb, 2, none⟩ = some (.bool t3) ∧ w'.cell? ⟨gb, 3, none⟩ = some (.slice B7 t4.length d7)) (ds := [10]) #[false, false, false, false, false, false, false, false, false, false, false] (by kernel_rfl) rfl rfl ⟨(blk_cell CRd.out 0).trans rfl, (blk_cell BKd.out 0).trans rfl, (blk_cell BKd.out 1).trans rfl, (blk_cell BKd.out 2).trans rfl, (blk_cell BKd.out 3).trans rfl⟩ (fun hHeld => ?_)
        generalize wc.drew = z1 at CRd BKd HPd HKd HBd HRd1 HRd2 HSd hHeld ⊢
        refine pure_ (i := 0) (N := some 82) (v := ?_) (a' := ?_) #[true, false, false, false, false, false, false, false, false, false, false] rfl rfl (by kernel_rfl) (fun _ _ _ h => h) (Or.inl ⟨by rfl, ?_⟩) ?_ ?_
        rotate_left
        ·intro w'
         go_simp
         with_reducible rfl
        rotate_left
        ·simp only [Act.put, List.setIfInBounds_toArray, List.set_cons_zero, List.set_cons_succ, i64_w, i32_w]
         rfl
        refine pure_ (i := 1) (N := some 83) (v := ?_) (a' := ?_) #[true, true, false, false, false, false, false, false, false, false, false] rfl rfl (by kernel_rfl) (fun _ _ _ h => h) (Or.inl ⟨by rfl, ?_⟩) ?_ ?_
        rotate_left
        ·intro w'
         go_simp
         with_reducible rfl
        rotate_left
        ·simp only [Act.put, List.setIfInBounds_toArray, List.set_cons_zero, List.set_cons_succ, i64_w, i32_w]
         rfl
        refine pure_ (i := 2) (N := some 84) (v := ?_) (a' := ?_) #[true, true, true, false, false, false, false, false, false, false, false] rfl rfl (by kernel_rfl) (fun _ _ _ h => h) (Or.inl ⟨by rfl, ?_⟩) ?_ ?_
        rotate_left
        ·intro w'
         go_simp
         with_reducible rfl
        rotate_left
        ·simp only [Act.put, List.setIfInBounds_toArray, List.set_cons_zero, List.set_cons_succ, i64_w, i32_w]
         rfl
        refine pure_ (i := 3) (N := some 85) (v := ?_) (a' := ?_) #[true, true, true, true, false, false, false, false, false, false, false] rfl rfl (by kernel_rfl) (fun _ _ _ h => h) (Or.inl ⟨by rfl, ?_⟩) ?_ ?_
        rotate_left
        ·intro w'
         go_simp
         with_reducible rfl
        rotate_left
        ·simp only [Act.put, List.setIfInBounds_toArray, List.set_cons_zero, List.set_cons_succ, i64_w, i32_w]
         rfl
        refine take_ (i := 4) (N := some 86) (v := ?_) (a' := ?_) #[true, true, true, true, true, false, false, false, false, false, false] rfl rfl (by kernel_rfl) (fun _ _ _ h => h) (Or.inl ⟨by rfl, ?_⟩) hHeld ?_ ?_
        rotate_left
        ·rintro w' ⟨s0, s1, s2, s3, s4⟩
         go_simp
         with_reducible rfl
        rotate_left
        ·simp only [Act.put, List.setIfInBounds_toArray, List.set_cons_zero, List.set_cons_succ, i64_w, i32_w]
         rfl
        refine take_ (i := 5) (N := some 87) (v := ?_) (a' := ?_) #[true, true, true, true, true, true, false, false, false, false, false] rfl rfl (by kernel_rfl) (fun _ _ _ h => h) (Or.inl ⟨by rfl, ?_⟩) hHeld ?_ ?_
        rotate_left
        ·rintro w' ⟨s0, s1, s2, s3, s4⟩
         go_simp
         with_reducible rfl
        rotate_left
        ·simp only [Act.put, List.setIfInBounds_toArray, List.set_cons_zero, List.set_cons_succ, i64_w, i32_w]
         rfl
        refine one_ (i := 6) (N := some 88) #[true, true, true, true, true, true, true, false, false, false, false] rfl rfl (by kernel_rfl) (by decide) (fun K hK => ?_)
        refine value_ (w1 := ?_) (v := ?_) (by rfl) rfl ?_ ?_
        rotate_left 2
        ·go_simp
         constructor
         ·rfl
         ·rfl
        refine hK.out _ _ ⟨(blk_cell (blk_alloc CRd.out _) 0).trans rfl, (blk_cell (blk_alloc BKd.out _) 0).trans rfl, (blk_cell (blk_alloc BKd.out _) 1).trans rfl, (blk_cell (blk_alloc BKd.out _) 2).trans rfl, (blk_cell (blk_alloc BKd.out _) 3).trans rfl⟩ (fun hHeld => ?_)
        clear hK K
        refine norm_ (a' := ?_) ?_ ?_
        rotate_left
        ·show Act.put _ (some 88) _ = _
         simp only [Act.put, List.setIfInBounds_toArray, List.set_cons_zero, List.set_cons_succ, i64_w, i32_w]
         rfl
        refine one_ (i := 7) (N := some 89) #[true, true, true, true, true, true, true, true, false, false, false] rfl rfl (by kernel_rfl) (by decide) (fun K hK => ?_)
        refine Kd.R_append_step k66 (w0 := z1) w6.heap.size (by rfl) (.tmp 86) (.tmp 88) 59 66 (.agg #[(.slice none 0 0), (.bool false), (.bool false), (.slice none 0 0)]) 56 rfl Tryd.underlying59 info66 rfl (by decide) (by omega) vp ps (⟨t1, t2, t3, t4⟩ : S66) [.slice A7 t1.length c7, .bool t2, .bool t3, .slice B7 t4.length d7] (fun _ => True) (fun k_ => wr.heap.size ≤ k_) rfl rfl ?aP (fun k_ hk => ⟨trivial, fun e => absurd (HPlt.out k_ e.symm) (by omega)⟩) (fun _ _ => trivial) ?aO ?aB ?aS ?aL ?_
        case aP => exact k66_mkM _ _ _ (⟨t1, t2, t3, t4⟩ : S66) (Kd.R_lower (Kd.R_mono (Kd.R_bound HRd1.out) (fun _ q => q.2.1)) HSZ.out) (Kd.R_lower (Kd.R_mono (Kd.R_bound HRd2.out) (fun _ q => q.2.1)) HSZ.out)
        case aO => exact HPd.out
        case aB => exact Below.refl _ _
        case aS => exact HSd.out
        case aL => have := HO1.out.2.1; omega
        intro v1 z4 ho hb hg hat
        obtain ⟨np, hnp⟩ : ∃ z, ps ++ [(⟨t1, t2, t3, t4⟩ : S66)] = z := ⟨_, rfl⟩
        rw [hnp] at ho
        have HNP := Aside0.mk hnp
        obtain ⟨Av, cv, rfl⟩ := Kd.R_slice ho
        clear hnp
        have PO := Aside0.mk (blk_grown CRd.out hg (Kd.R_ne HPd.out CRd.out (by decide)))
        have PG := Aside0.mk (blk_grown BKd.out hg (fun e => absurd (HPlt.out gb e.symm) (by have := GE.out; omega)))
        have HP4 := Aside0.mk ho
        have HK4 := Aside0.mk (show Rf.KW w4.heap.size w6 z4 from fun k_ o ho hne => (hb.block k_ (blk_lt ho)).trans (HKd.out k_ o ho hne))
        have HB4 := Aside0.mk (HBd.out.trans (hb.mono HWS.out))
        have HS4 := Aside0.mk (Nat.le_trans HSd.out hb.size)
        clear ho hb hg hat CRd BKd HPd HKd HBd HRd1 HRd2 HSd
        refine hK.out _ _ ⟨(blk_cell PO.out 0).trans rfl, (blk_cell PG.out 0).trans rfl, (blk_cell PG.out 1).trans rfl, (blk_cell PG.out 2).trans rfl, (blk_cell PG.out 3).trans rfl⟩ (fun hHeld => ?_)
        clear hK K
        refine norm_ (a' := ?_) ?_ ?_
        rotate_left
        ·show Act.put _ (some 89) _ = _
         simp only [Act.put, List.setIfInBounds_toArray, List.set_cons_zero, List.set_cons_succ, i64_w, i32_w]
         rfl
        refine pure_ (i := 8) (N := some 90) (v := ?_) (a' := ?_) #[true, true, true, true, true, true, true, true, true, false, false] rfl rfl (by kernel_rfl) (fun _ _ _ h => h) (Or.inl ⟨by rfl, ?_⟩) ?_ ?_
        rotate_left
        ·intro w'
         go_simp
         with_reducible rfl
        rotate_left
        ·simp only [Act.put, List.setIfInBounds_toArray, List.set_cons_zero, List.set_cons_succ, i64_w, i32_w]
         rfl
        refine pure_ (i := 9) (N := some 91) (v := ?_) (a' := ?_) #[true, true, true, true, true, true, true, true, true, true, false] rfl rfl (by kernel_rfl) (fun _ _ _ h => h) (Or.inl ⟨by rfl, ?_⟩) ?_ ?_
        rotate_left
        ·intro w'
         go_simp
         with_reducible rfl
        rotate_left
        ·simp only [Act.put, List.setIfInBounds_toArray, List.set_cons_zero, List.set_cons_succ, i64_w, i32_w]
         rfl
        refine last_ (i := 10) (N := none) #[true, true, true, true, true, true, true, true, true, true, true] rfl rfl (by kernel_rfl) (by decide) (fun K hK => ?_)
        have hs_ : z4.cell? ⟨w4.heap.size, 0, none⟩ = some (vp) := (blk_cell PO.out 0).trans rfl
        have hf_ := blk_frozen PO.out 0
        refine skip_ (w1 := ?_) (by rfl) rfl ?_ ?_
        rotate_left
        ·go_simp
         rfl
        refine hK.out _ _ ?_
        clear hK K
        refine done_ (by kernel_rfl) ?_
        obtain ⟨zw, hzw⟩ : ∃ z, z4.setCell ⟨w4.heap.size, 0, none⟩ (.slice Av np.length cv) = z := ⟨_, rfl⟩
        have F1 := Aside0.mk (show zw.heap[w4.heap.size]? = some (.cells #[.slice Av np.length cv, .slice none 0 0] 62 (0, 0)) by rw [← hzw]; exact blk_put PO.out 0 _ rfl)
        have F2 := Aside0.mk (show Kd.R k66 66 zw w6.heap.size (fun _ => True) (.slice Av np.length cv) np by rw [← hzw]; exact Kd.R_set HP4.out PO.out (by decide) _ _)
        have F3 := Aside0.mk (show Rf.KW w4.heap.size w6 zw by rw [← hzw]; exact HK4.out.put _)
        have F4 := Aside0.mk (show Below w.heap.size w zw by rw [← hzw]; exact below_set HB4.out HBB.out.size)
        have F5 := Aside0.mk (show w6.heap.size ≤ zw.heap.size by rw [← hzw]; simpa using HS4.out)
        have F6 := Aside0.mk (show Rf.pats k l1 (u.drop (j + 1)) np = some q1 by rw [← HNP.out]; exact HP3.out)
        have F7 := Aside0.mk (show np.length ≤ j + 1 by rw [← HNP.out, List.length_append, List.length_singleton]; omega)
        rw [hzw]
        clear hzw PO PG HP4 HK4 HB4 HS4 HP3 HNP hs_ hf_
        go_wp2
        go_roundw
        case rel => exact ⟨j + 1, np, _, rfl, by omega, F7.out, F6, F2, F1, F3, F4, F5⟩
        case measure => (try simp [intOf]); omega
     ·have hju : j = u.length := by omega
      have hp := HP.out
      rw [hju, List.drop_length, Rf.pats] at hp
      injection hp with hp
      subst hp
      have hh := HHq.out
      dsimp only at hh
      obtain ⟨v, hv, hh⟩ := Option.bind_eq_some_iff.mp hh
      obtain ⟨q2, hq2, hh⟩ := Option.bind_eq_some_iff.mp hh
      have HV := Aside0.mk hv
      have HQ2 := Aside0.mk hq2
      have HHr := Aside0.mk hh
      have HO2 := Aside0.mk (HOK.out.2 l2 a2 v HD2.out hv)
      have kc1 : decide ((j : Int) < (u.length : Int)) = false := decide_eq_false (by omega)
      have kc2 : decide (j < u.length) = false := decide_eq_false hlt
      have HBr := Aside0.mk (Rf.KW.R HB6.out HK.out HRB6.out rfl (by decide))
      clear hv hq2 hh HHq HP HQ1
      go_upto_region 18 with (fail)
      go_wp2_with (first | ((with_reducible refine gate_callee (f := 29) rfl ?_); refine goesL_ (some 93) rfl rfl Tryd.func29 (by kernel_rfl) rfl #[.slice Ab l2.length cb] rfl (by (try simp only [List.map_toArray, List.map_cons, List.map_nil]); first | done | rfl) ?_; (with_reducible refine (colophonref04_Words.calls k _ _ l2 v _ (Kd.R_reads' HBr.out).2.2 (Kd.R_reads' HBr.out).2.1 HV.out).mono ?_); rintro e w16 ⟨v12, rfl, ho0, hb⟩; refine ⟨_, rfl, ?_⟩; have HX := Aside0.mk (Kd.R_bound ho0); have HB16 := Aside0.mk (Kd.R_below HBr.out hb); have HRB16 := Aside0.mk ((hb.block _ (blk_lt HRb.out)).trans HRb.out); have HVa := Aside0.mk (Kd.R_below HPS.out hb); have HBx := Aside0.mk (below_step HB.out hb); have HSZ16 := Aside0.mk (Nat.le_trans HSZ.out hb.size); clear ho0 hb HBr HRb HPS HB HK; obtain ⟨Ax, cx, rfl⟩ := Kd.R_slice HX.out))
      have HHx := HHr
      clear HHr HRl
      have HHr := HHx
      clear HHx
      go_loopw [16] (fun v16 w' => ∃ (j : Nat) (es : List S72) (vq : Value), v16 = .int .i64 (j : Int) ∧ j ≤ v.length ∧ es.length ≤ j ∧ Aside0 (Rf.excs k l2 (v.drop j) es = some q2) ∧ Aside0 (Kd.R k72 72 w' w16.heap.size (fun _ => True) vq es) ∧ Aside0 (w'.heap[w4.heap.size]? = some (.cells #[vp, vq] 62 (0, 0))) ∧ Aside0 (Rf.KW w4.heap.size w16 w') ∧ Aside0 (Below w.heap.size w w') ∧ Aside0 (w16.heap.size ≤ w'.heap.size))
       (fun v16 _ => v.length - (intOf v16).toNat)
      case atStart => exact ⟨0, [], _, rfl, Nat.zero_le _, Nat.le_refl _, ⟨HQ2.out⟩, ⟨Kd.R_nil _ _ _ _ _⟩, HRB16, ⟨fun _ _ h _ => h⟩, HBx, ⟨Nat.le_refl _⟩⟩
      case round =>
       obtain ⟨j, es, vq, rfl, hj, hes, HP, HPS, HRb, HK, HB, HSZ⟩ := hrel
       by_cases hlt : j < v.length
       ·have kc1 : decide ((j : Int) < (v.length : Int)) = true := decide_eq_true (by omega)
        have kc2 : decide (j < v.length) = true := decide_eq_true hlt
        have kc3 : ((0 : Int) ≤ (j : Int)) = True := eq_true (by omega)
        have kc4 : ((j : Int) < (v.length : Int)) = True := eq_true (by omega)
        have kc6 : IntKind.i64.wrap ((j : Int) + 1) = (j : Int) + 1 := by rw [IntKind.wrap_i64]; have := HO2.out.2.1; omega
        have hmem : rd_T69 v (j : Int) ∈ v := by
         show v.getD (j : Int).toNat z69 ∈ v
         rw [Int.toNat_natCast, List.getD_eq_getElem?_getD, List.getElem?_eq_getElem hlt]
         exact List.getElem_mem hlt
        obtain ⟨f00, f01, f1l⟩ := HO2.out.2.2 _ hmem
        have hWr := Rf.KW.R HX.out HK.out HRB16.out rfl (by decide)
        have hAr := Rf.KW.R HB16.out HK.out HRB16.out rfl (by decide)
        obtain ⟨gw, rfl, _, _, hgwl, _⟩ := Wd.blk hWr (by omega)
        obtain ⟨ga, rfl, _, _, _, _⟩ := Wd.blk hAr (by omega)
        obtain ⟨ad, e, y0, y1⟩ := at_T69 (Kd.R_reads' hWr).2.2 (j : Int) (by omega) (by omega)
        cases e
        have hdr : v.drop j = rd_T69 v (j : Int) :: v.drop (j + 1) := by
         rw [List.drop_eq_getElem_cons hlt]
         congr 1
         show v[j] = v.getD (j : Int).toNat z69
         rw [Int.toNat_natCast, List.getD_eq_getElem?_getD, List.getElem?_eq_getElem hlt]
         rfl
        have hp := HP.out
        rw [hdr, Rf.excs] at hp
        generalize hxe : rd_T69 v (j : Int) = xe at *
        obtain ⟨a0, a1⟩ := xe
        dsimp only at f00 f01 f1l y0 y1 hp
        rw [Wd.addz] at y0 y1
        simp only [Int.toNat_natCast] at y0 y1
        obtain ⟨⟨t1, t2, t3⟩, hrd, hp⟩ := Option.bind_eq_some_iff.mp hp
        dsimp only at hp
        have hsl := fun W => Wd.slice_run W ga l2.length cb a0 a1 f00 f01 (by have := (Kd.R_reads' hAr).2.1; omega)
        have hin := Wd.mkIn hAr (by omega) (bs := [ga]) (by simp) 0 f00 f01 f1l
        have hwl2 : ((l2.take a1.toNat).drop a0.toNat).length = a1.toNat - a0.toNat := by rw [List.length_drop, List.length_take]; omega
        have HRD := Aside0.mk hrd
        have HP2 := Aside0.mk hp
        have HIN := Aside0.mk hin
        have HWL := Aside0.mk hwl2
        have HY := Aside0.mk (And.intro y0 y1)
        have HAR := Aside0.mk hAr
        clear hrd hp hin hwl2 hWr hAr hdr hxe hmem HP
        go_upto_region 22 with (fail)
        go_cut [17, 18] (fun v17 v18 wc => ∃ (gb : Nat) (v0 v3 : Value), v17 = .pointer (some ⟨gb, 0, none⟩) ∧ v18 = .bool t3 ∧ Aside0 (wr.heap.size ≤ gb) ∧ Aside0 (wc.heap[gb]? = some (.cells #[v0, v3] 72 (0, 0))) ∧ Aside0 (Kd.R (Kd.int .i64) 3 wc wr.heap.size (fun k_ => some k_ ≠ (v3 : Value).ownBlock) v0 t1) ∧ Aside0 (Kd.R (Kd.int .i64) 3 wc wr.heap.size (fun k_ => some k_ ≠ (v0 : Value).ownBlock) v3 t2) ∧ Aside0 (Below wr.heap.size wr wc))
        case first =>
         have hS0 := HY.out.1
         have hS1 := HY.out.2
         go_region_held3 (fun w' => w'.cell? ⟨gw, j * 2, none⟩ = some (.int .i64 a0) ∧ w'.cell? ⟨gw, j * 2 + 1, none⟩ = some (.int .i64 a1)) (simp [*, World.cell?_alloc_some, World.cell?_setCell_far, World.cell?_setCell_other]) (first | ((with_reducible refine (colophonref21_except.callsD k _ ga _ _ _ t1 t2 t3 wr _ _ _ HIN.out rfl HWL.out ?_ HRD.out).mono ?_); (first | exact fun _ q => q | exact fun _ q => blk_alloc q _); rintro e w7 ⟨v0, v3, rfl, h0, h3, hb⟩; obtain ⟨A7, c7, rfl⟩ := Kd.R_slice h0; obtain ⟨B7, d7, rfl⟩ := Kd.R_slice h3; have c70 : w7.cell? ⟨gw, j * 2, none⟩ = some (.int .i64 a0) := (hb.cell (p := ⟨gw, j * 2, none⟩) (show gw < _ by first | exact hgwl | (simp; omega))).trans (by first | exact hS0 | (simp [World.cell?_alloc_some, hS0]; done)); have c71 : w7.cell? ⟨gw, j * 2 + 1, none⟩ = some (.int .i64 a1) := (hb.cell (p := ⟨gw, j * 2 + 1, none⟩) (show gw < _ by first | exact hgwl | (simp; omega))).trans (by first | exact hS1 | (simp [World.cell?_alloc_some, hS1]; done)); (first | (have az : w7.heap[wr.heap.size]? = some (.cells #[.slice none 0 0, .slice none 0 0] 72 (0, 0)) := (hb.block wr.heap.size (by simp)).trans (heap_alloc_new wr.drew _); have n1 : gw ≠ wr.heap.size := Nat.ne_of_lt hgwl; have n2 := n1.symm; have z0 := (blk_cell az 0).trans rfl; have z1 := (blk_cell az 1).trans rfl; have y0 := blk_frozen az 0; have y1 := blk_frozen az 1; have AZ := Aside0.mk az; clear az) | (have az : (w7.alloc (.cells #[.slice none 0 0, .slice none 0 0] 72)).heap[w7.heap.size]? = some (.cells #[.slice none 0 0, .slice none 0 0] 72 (0, 0)) := heap_alloc_new w7 _; have n1 : gw ≠ w7.heap.size := Nat.ne_of_lt (Nat.lt_of_lt_of_le hgwl hb.size); have n2 := n1.symm; have z0 := (blk_cell az 0).trans rfl; have z1 := (blk_cell az 1).trans rfl; have y0 := blk_frozen az 0; have y1 := blk_frozen az 1; have AZ := Aside0.mk az; clear az)); have HR0 := Aside0.mk h0; have HR3 := Aside0.mk h3; have HB7 := Aside0.mk hb; clear h0 h3 hb))
         all_goals (first
          |(have hbw : Below wr.heap.size wr w7 := below_step (below_alloc (below_drew1 (Below.refl _ _)) _) HB7.out
            have F := Rf.fill2 (w0 := wr) AZ.out (Nat.le_refl _) (Kd.R_lower HR0.out (by simp)) (Kd.R_lower HR3.out (by simp)) hbw
            have F0 := Aside0.mk F.1; have F1 := Aside0.mk F.2.1; have F2 := Aside0.mk F.2.2.1; have F3 := Aside0.mk F.2.2.2
            clear F hbw
            go_wp2; go_meet
            exact ⟨_, _, _, rfl, rfl, ⟨Nat.le_refl _⟩, F0, F1, F2, F3⟩)
          |(have hbw : Below wr.heap.size wr (w7.alloc (.cells #[.slice A7 t1.length c7, .slice B7 t2.length d7] 72)) := below_alloc (below_step (below_drew1 (Below.refl _ _)) HB7.out) _
            have F0 := Aside0.mk (heap_alloc_new w7 (.cells #[.slice A7 t1.length c7, .slice B7 t2.length d7] 72)); have F1 := Aside0.mk (Kd.R_alloc (Kd.R_lower (base' := wr.heap.size) HR0.out (by simp)) (.cells #[.slice A7 t1.length c7, .slice B7 t2.length d7] 72)); have F2 := Aside0.mk (Kd.R_alloc (Kd.R_lower (base' := wr.heap.size) HR3.out (by simp)) (.cells #[.slice A7 t1.length c7, .slice B7 t2.length d7] 72)); have F3 := Aside0.mk hbw
            clear hbw
            have HSZ7 := Aside0.mk (show wr.heap.size ≤ w7.heap.size from HB7.out.size)
            go_wp2; go_meet
            exact ⟨_, _, _, rfl, rfl, HSZ7, F0, F1, F2, F3⟩))
        case rest =>
         obtain ⟨gb, v0, v3, rfl, rfl, GE, BK, HT1, HT4, HBc⟩ := hcut
         have HARc := Aside0.mk (Kd.R_below HAR.out HBc.out)
         have HBB2 := Aside0.mk (below_step HB.out HBc.out)
         cases t3 with
         | false =>
          have hp2 := HP2.out
          rw [if_neg (by decide)] at hp2
          obtain ⟨pl, hpl, hp2⟩ := Option.bind_eq_some_iff.mp hp2
          injection hp2 with hp2
          subst hp2
          have HPL := Aside0.mk hpl
          have hret := HHr.out
          injection hret with hret
          injection hret with h1 hret
          injection hret with h2 h3
          subst h1 h2 h3
          have hc0 : wc.cell? ⟨gw, j * 2, none⟩ = some (.int .i64 a0) := (HBc.out.cell (p := ⟨gw, j * 2, none⟩) hgwl).trans HY.out.1
          clear hpl HP2 HQ2
          go_wp2_with (first | ((with_reducible refine gate_callee (f := 31) rfl ?_); refine goesL_ (some 124) rfl rfl Tryd.func31 (by kernel_rfl) rfl #[.slice (some ⟨ga, 0, none⟩) l2.length cb, .int .i64 a0] rfl (by (try simp only [List.map_toArray, List.map_cons, List.map_nil]); first | done | rfl) ?_; (with_reducible refine (colophonref21_place.calls k _ _ l2 a0 pl _ (Kd.R_reads' HARc.out).2.2 (Kd.R_reads' HARc.out).2.1 HPL.out).mono ?_); rintro e w18 ⟨rfl, hb⟩; refine ⟨_, rfl, ?_⟩; have HB8 := Aside0.mk (below_step HBB2.out hb); clear hb))
          refine bodyPost_ret (results_list (rs := [.tmp 4, .tmp 5, .tmp 6]) rfl (by simp) (.tmp (.tmp (.tmp .nil)))) rfl ?_
          exact ⟨_, rfl, rfl, HB8.out⟩
         | true =>
          have hp2 := HP2.out
          rw [if_pos rfl] at hp2
          have HP3 := Aside0.mk hp2
          clear hp2 HP2
          obtain ⟨A7, c7, rfl⟩ := Kd.R_slice HT1.out
          obtain ⟨B7, d7, rfl⟩ := Kd.R_slice HT4.out
          have HPlt := Aside0.mk (Kd.R_lt HPS.out)
          have HWS := Aside0.mk (show w.heap.size ≤ w16.heap.size from HBx.out.size)
          have CRd := Aside0.mk (show wc.drew.heap[w4.heap.size]? = some (.cells #[vp, vq] 62 (0, 0)) from (HBc.out.block _ (blk_lt HRb.out)).trans HRb.out)
          have BKd := Aside0.mk (blk_drew BK.out)
          have HPd := Aside0.mk (Kd.R_drew (Kd.R_below HPS.out HBc.out))
          have HKd := Aside0.mk (show Rf.KW w4.heap.size w16 wc.drew from fun k_ o ho hne => (HBc.out.block k_ (blk_lt (HK.out k_ o ho hne))).trans (HK.out k_ o ho hne))
          have HBd := Aside0.mk (below_drew1 HBB2.out)
          have HRd1 := Aside0.mk (Kd.R_drew HT1.out)
          have HRd2 := Aside0.mk (Kd.R_drew HT4.out)
          have HSd := Aside0.mk (show w16.heap.size ≤ wc.drew.heap.size from Nat.le_trans HSZ.out HBc.out.size)
          go_upto_region 25 with (fail)
          refine start_ (n := 11) (S := fun w' => w'.cell? ⟨w4.heap.size, 1, none⟩ = some (vq) ∧ w'.cell? ⟨gb, 0, none⟩ = some (.slice A7 t1.length c7) ∧ w'.cell? ⟨gb, 1, none⟩ = some (.slice B7 t2.length d7)) (ds := [10]) #[false, false, false, false, false, false, false, false, false, false, false] (by kernel_rfl) rfl rfl ⟨(blk_cell CRd.out 1).trans rfl, (blk_cell BKd.out 0).trans rfl, (blk_cell BKd.out 1).trans rfl⟩ (fun hHeld => ?_)
          generalize wc.drew = z1 at CRd BKd HPd HKd HBd HRd1 HRd2 HSd hHeld ⊢
          refine pure_ (i := 0) (N := some 125) (v := ?_) (a' := ?_) #[true, false, false, false, false, false, false, false, false, false, false] rfl rfl (by kernel_rfl) (fun _ _ _ h => h) (Or.inl ⟨by rfl, ?_⟩) ?_ ?_
          rotate_left
          ·intro w'
           go_simp
           with_reducible rfl
          rotate_left
          ·simp only [Act.put, List.setIfInBounds_toArray, List.set_cons_zero, List.set_cons_succ, i64_w, i32_w]
           rfl
          refine pure_ (i := 1) (N := some 126) (v := ?_) (a' := ?_) #[true, true, false, false, false, false, false, false, false, false, false] rfl rfl (by kernel_rfl) (fun _ _ _ h => h) (Or.inl ⟨by rfl, ?_⟩) ?_ ?_
          rotate_left
          ·intro w'
           go_simp
           with_reducible rfl
          rotate_left
          ·simp only [Act.put, List.setIfInBounds_toArray, List.set_cons_zero, List.set_cons_succ, i64_w, i32_w]
           rfl
          refine pure_ (i := 2) (N := some 127) (v := ?_) (a' := ?_) #[true, true, true, false, false, false, false, false, false, false, false] rfl rfl (by kernel_rfl) (fun _ _ _ h => h) (Or.inl ⟨by rfl, ?_⟩) ?_ ?_
          rotate_left
          ·intro w'
           go_simp
           with_reducible rfl
          rotate_left
          ·simp only [Act.put, List.setIfInBounds_toArray, List.set_cons_zero, List.set_cons_succ, i64_w, i32_w]
           rfl
          refine pure_ (i := 3) (N := some 128) (v := ?_) (a' := ?_) #[true, true, true, true, false, false, false, false, false, false, false] rfl rfl (by kernel_rfl) (fun _ _ _ h => h) (Or.inl ⟨by rfl, ?_⟩) ?_ ?_
          rotate_left
          ·intro w'
           go_simp
           with_reducible rfl
          rotate_left
          ·simp only [Act.put, List.setIfInBounds_toArray, List.set_cons_zero, List.set_cons_succ, i64_w, i32_w]
           rfl
          refine take_ (i := 4) (N := some 129) (v := ?_) (a' := ?_) #[true, true, true, true, true, false, false, false, false, false, false] rfl rfl (by kernel_rfl) (fun _ _ _ h => h) (Or.inl ⟨by rfl, ?_⟩) hHeld ?_ ?_
          rotate_left
          ·rintro w' ⟨s0, s1, s2⟩
           go_simp
           with_reducible rfl
          rotate_left
          ·simp only [Act.put, List.setIfInBounds_toArray, List.set_cons_zero, List.set_cons_succ, i64_w, i32_w]
           rfl
          refine take_ (i := 5) (N := some 130) (v := ?_) (a' := ?_) #[true, true, true, true, true, true, false, false, false, false, false] rfl rfl (by kernel_rfl) (fun _ _ _ h => h) (Or.inl ⟨by rfl, ?_⟩) hHeld ?_ ?_
          rotate_left
          ·rintro w' ⟨s0, s1, s2⟩
           go_simp
           with_reducible rfl
          rotate_left
          ·simp only [Act.put, List.setIfInBounds_toArray, List.set_cons_zero, List.set_cons_succ, i64_w, i32_w]
           rfl
          refine one_ (i := 6) (N := some 131) #[true, true, true, true, true, true, true, false, false, false, false] rfl rfl (by kernel_rfl) (by decide) (fun K hK => ?_)
          refine value_ (w1 := ?_) (v := ?_) (by rfl) rfl ?_ ?_
          rotate_left 2
          ·go_simp
           constructor
           ·rfl
           ·rfl
          refine hK.out _ _ ⟨(blk_cell (blk_alloc CRd.out _) 1).trans rfl, (blk_cell (blk_alloc BKd.out _) 0).trans rfl, (blk_cell (blk_alloc BKd.out _) 1).trans rfl⟩ (fun hHeld => ?_)
          clear hK K
          refine norm_ (a' := ?_) ?_ ?_
          rotate_left
          ·show Act.put _ (some 131) _ = _
           simp only [Act.put, List.setIfInBounds_toArray, List.set_cons_zero, List.set_cons_succ, i64_w, i32_w]
           rfl
          refine one_ (i := 7) (N := some 132) #[true, true, true, true, true, true, true, true, false, false, false] rfl rfl (by kernel_rfl) (by decide) (fun K hK => ?_)
          refine Kd.R_append_step k72 (w0 := z1) w16.heap.size (by rfl) (.tmp 129) (.tmp 131) 60 72 (.agg #[(.slice none 0 0), (.slice none 0 0)]) 48 rfl Tryd.underlying60 info72 rfl (by decide) (by omega) vq es (⟨t1, t2⟩ : S72) [.slice A7 t1.length c7, .slice B7 t2.length d7] (fun _ => True) (fun k_ => wr.heap.size ≤ k_) rfl rfl ?aP (fun k_ hk => ⟨trivial, fun e => absurd (HPlt.out k_ e.symm) (by omega)⟩) (fun _ _ => trivial) ?aO ?aB ?aS ?aL ?_
          case aP => exact k72_mkM _ _ _ (⟨t1, t2⟩ : S72) (Kd.R_lower (Kd.R_mono (Kd.R_bound HRd1.out) (fun _ q => q.2.1)) HSZ.out) (Kd.R_lower (Kd.R_mono (Kd.R_bound HRd2.out) (fun _ q => q.2.1)) HSZ.out)
          case aO => exact HPd.out
          case aB => exact Below.refl _ _
          case aS => exact HSd.out
          case aL => have := HO2.out.2.1; omega
          intro v1 z4 ho hb hg hat
          obtain ⟨np, hnp⟩ : ∃ z, es ++ [(⟨t1, t2⟩ : S72)] = z := ⟨_, rfl⟩
          rw [hnp] at ho
          have HNP := Aside0.mk hnp
          obtain ⟨Av, cv, rfl⟩ := Kd.R_slice ho
          clear hnp
          have PO := Aside0.mk (blk_grown CRd.out hg (Kd.R_ne HPd.out CRd.out (by decide)))
          have PG := Aside0.mk (blk_grown BKd.out hg (fun e => absurd (HPlt.out gb e.symm) (by have := GE.out; omega)))
          have HP4 := Aside0.mk ho
          have HK4 := Aside0.mk (show Rf.KW w4.heap.size w16 z4 from fun k_ o ho hne => (hb.block k_ (blk_lt ho)).trans (HKd.out k_ o ho hne))
          have HB4 := Aside0.mk (HBd.out.trans (hb.mono HWS.out))
          have HS4 := Aside0.mk (Nat.le_trans HSd.out hb.size)
          clear ho hb hg hat CRd BKd HPd HKd HBd HRd1 HRd2 HSd
          refine hK.out _ _ ⟨(blk_cell PO.out 1).trans rfl, (blk_cell PG.out 0).trans rfl, (blk_cell PG.out 1).trans rfl⟩ (fun hHeld => ?_)
          clear hK K
          refine norm_ (a' := ?_) ?_ ?_
          rotate_left
          ·show Act.put _ (some 132) _ = _
           simp only [Act.put, List.setIfInBounds_toArray, List.set_cons_zero, List.set_cons_succ, i64_w, i32_w]
           rfl
          refine pure_ (i := 8) (N := some 133) (v := ?_) (a' := ?_) #[true, true, true, true, true, true, true, true, true, false, false] rfl rfl (by kernel_rfl) (fun _ _ _ h => h) (Or.inl ⟨by rfl, ?_⟩) ?_ ?_
          rotate_left
          ·intro w'
           go_simp
           with_reducible rfl
          rotate_left
          ·simp only [Act.put, List.setIfInBounds_toArray, List.set_cons_zero, List.set_cons_succ, i64_w, i32_w]
           rfl
          refine pure_ (i := 9) (N := some 134) (v := ?_) (a' := ?_) #[true, true, true, true, true, true, true, true, true, true, false] rfl rfl (by kernel_rfl) (fun _ _ _ h => h) (Or.inl ⟨by rfl, ?_⟩) ?_ ?_
          rotate_left
          ·intro w'
           go_simp
           with_reducible rfl
          rotate_left
          ·simp only [Act.put, List.setIfInBounds_toArray, List.set_cons_zero, List.set_cons_succ, i64_w, i32_w]
           rfl
          refine last_ (i := 10) (N := none) #[true, true, true, true, true, true, true, true, true, true, true] rfl rfl (by kernel_rfl) (by decide) (fun K hK => ?_)
          have hs_ : z4.cell? ⟨w4.heap.size, 1, none⟩ = some (vq) := (blk_cell PO.out 1).trans rfl
          have hf_ := blk_frozen PO.out 1
          refine skip_ (w1 := ?_) (by rfl) rfl ?_ ?_
          rotate_left
          ·go_simp
           rfl
          refine hK.out _ _ ?_
          clear hK K
          refine done_ (by kernel_rfl) ?_
          obtain ⟨zw, hzw⟩ : ∃ z, z4.setCell ⟨w4.heap.size, 1, none⟩ (.slice Av np.length cv) = z := ⟨_, rfl⟩
          have F1 := Aside0.mk (show zw.heap[w4.heap.size]? = some (.cells #[vp, .slice Av np.length cv] 62 (0, 0)) by rw [← hzw]; exact blk_put PO.out 1 _ rfl)
          have F2 := Aside0.mk (show Kd.R k72 72 zw w16.heap.size (fun _ => True) (.slice Av np.length cv) np by rw [← hzw]; exact Kd.R_set HP4.out PO.out (by decide) _ _)
          have F3 := Aside0.mk (show Rf.KW w4.heap.size w16 zw by rw [← hzw]; exact HK4.out.put _)
          have F4 := Aside0.mk (show Below w.heap.size w zw by rw [← hzw]; exact below_set HB4.out HBB.out.size)
          have F5 := Aside0.mk (show w16.heap.size ≤ zw.heap.size by rw [← hzw]; simpa using HS4.out)
          have F6 := Aside0.mk (show Rf.excs k l2 (v.drop (j + 1)) np = some q2 by rw [← HNP.out]; exact HP3.out)
          have F7 := Aside0.mk (show np.length ≤ j + 1 by rw [← HNP.out, List.length_append, List.length_singleton]; omega)
          rw [hzw]
          clear hzw PO PG HP4 HK4 HB4 HS4 HP3 HNP hs_ hf_
          go_wp2
          go_roundw
          case rel => exact ⟨j + 1, np, _, rfl, by omega, F7.out, F6, F2, F1, F3, F4, F5⟩
          case measure => (try simp [intOf]); omega
       ·have hju : j = v.length := by omega
        have hp := HP.out
        rw [hju, List.drop_length, Rf.excs] at hp
        injection hp with hp
        subst hp
        have hret := HHr.out
        injection hret with hret
        injection hret with h1 hret
        injection hret with h2 h3
        subst h1 h2 h3
        have kc1 : decide ((j : Int) < (v.length : Int)) = false := decide_eq_false (by omega)
        have kc2 : decide (j < v.length) = false := decide_eq_false hlt
        have HVf := Aside0.mk (Rf.KW.RE HVa.out HK.out HRB16.out (by decide))
        obtain ⟨Ap, cp, rfl⟩ := Kd.R_slice HVf.out
        obtain ⟨Aq, cq, rfl⟩ := Kd.R_slice HPS.out
        go_wp2
        refine bodyPost_ret (results_list (rs := [.tmp 4, .tmp 5, .tmp 6]) rfl (by simp) (.tmp (.tmp (.tmp .nil)))) rfl ?_
        exact ⟨_, rfl, ⟨_, _, _, _, _, rfl, HRb.out, (Kd.R_reads' HVf.out).2.2, (Kd.R_reads' HVf.out).2.1, (Kd.R_reads' HPS.out).2.2, (Kd.R_reads' HPS.out).2.1⟩, HB.out⟩
   ·have hh := H2.out
    rw [if_pos he] at hh
    injection hh with hh
    injection hh with h1 hh
    injection hh with h2 h3
    subst h1 h2 h3
    have he1 : (e2 != 0) = true := bne_iff_ne.mpr he
    clear he
    go_wp2
    refine bodyPost_ret (results_list (rs := [.tmp 4, .tmp 5, .tmp 6]) rfl (by simp) (.tmp (.tmp (.tmp .nil)))) rfl ?_
    exact ⟨_, rfl, rfl, HBB.out⟩
  ·have hh := H.out
   rw [if_pos he] at hh
   injection hh with hh
   injection hh with h1 hh
   injection hh with h2 h3
   subst h1 h2 h3
   have he1 : (e1 != 0) = true := bne_iff_ne.mpr he
   clear he
   go_wp2
   refine bodyPost_ret (results_list (rs := [.tmp 4, .tmp 5, .tmp 6]) rfl (by simp) (.tmp (.tmp (.tmp .nil)))) rfl ?_
   exact ⟨_, rfl, rfl, HB.out⟩
end Go.Proofs.YtenhfmlkdcfbbaaDoor.PHyphenPoints
