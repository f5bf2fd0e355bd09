/- law21: the words of a text, one after the other (functions 25 and 42), walked. -/
import Derived.Test.YtenhfmlkdcfbbaaDoorPat
import Derived.Test.YtenhfmlkdcfbbaaDoorGh
import Derived.WalkSpells
import Derived.Lib.OthersKept
import Derived.LoopIn
import Derived.TacticsIn
import Derived.OwnWalkIn
import Derived.TacticsInMore
import Derived.LoopNIn
import Derived.Stop.RegionWithIn
namespace Go.Proofs.YtenhfmlkdcfbbaaDoor.PHyphenPoints
open Go.RowKit Go.Proofs.YtenhfmlkdcfbbaaDoorW.PrintWords Go.Proofs.YtenhfmlkdcfbbaaDoorW.PrintLast Go.Proofs.YtenhfmlkdcfbbaaDoorW.PrintMore Go.Proofs.YtenhfmlkdcfbbaaDoorG
attribute [local go_sem] max2_int min2_int max_two min_two max_three min_three max_four min_four
set_option linter.unusedVariables false
set_option linter.unusedSimpArgs false
namespace Wd
def placesFrom (s : ByteArray) : Nat → Nat → List Int
 | 0, _ => []
 | fuel + 1, pos => if pos < s.size then (pos : Int) :: placesFrom s fuel (pos + (Utf8.decode s pos).2) else []
def places (s : ByteArray) : List Int := placesFrom s s.size 0
theorem width_pos (s : ByteArray) (pos : Nat) (h : pos < s.size) : 1 ≤ (Utf8.decode s pos).2 := by
 by_cases ha : (s[pos]'h).toNat < 128
 ·rw [decode_ascii s pos h ha]
  exact Nat.le_refl _
 ·exact (decode_high s pos h (by omega)).2
theorem placesFrom_end (s : ByteArray) (fuel pos : Nat) (h : ¬ pos < s.size) : placesFrom s fuel pos = [] := by
 cases fuel with
 | zero => rfl
 | succ f => simp [placesFrom, h]
structure El where
 p : Int
 A : Option Addr
 c : Nat
 xs : List Int
def El.encs (x : El) : Array Value := #[.int .i64 x.p, .slice x.A x.xs.length x.c]
def In (bs : List Nat) (W : World) (x : El) : Prop :=
 x.xs.length ≤ x.c ∧ x.xs.length ≤ 9223372036854775807 ∧ ∃ g off cells, x.A = some ⟨g, off, none⟩ ∧ g ∈ bs ∧ W.heap[g]? = some (.cells cells 3 (0, 0)) ∧ ∀ j : Nat, j < x.xs.length → cells[off + j]? = some (.int .i64 (rd x.xs (j : Int)))
theorem In.C {bs : List Nat} {W : World} {x : El} (h : In bs W x) : Kd.C (Kd.int .i64) W x.A x.xs.length x.xs := by
 obtain ⟨h1, h1', g, off, cells, h2, h3, h4, h5⟩ := h
 refine ⟨rfl, h1', fun hn => ⟨⟨g, off, none⟩, h2, fun j q hj => ⟨[.int .i64 q], rfl, rfl, fun i u hu => ?_⟩⟩⟩
 cases i with
 | zero =>
  injection hu with hu
  subst hu
  have hlt := (List.getElem?_eq_some_iff.1 hj).1
  have e : (⟨g, off, none⟩ : Addr).add (j * (Kd.int .i64).sz + 0) = ⟨g, off + j, none⟩ := by
   rw [show j * (Kd.int .i64).sz + 0 = j by show j * 1 + 0 = j; omega]
   simp [Addr.add]
   try omega
  rw [e, blk_cell h4 (off + j), h5 j hlt]
  congr 2
  show x.xs.getD (j : Int).toNat 0 = q
  rw [Int.toNat_natCast, List.getD_eq_getElem?_getD, hj]
  rfl
 | succ i => simp at hu
structure Gh where
 bs : List Nat
 xs : List El
def Kp (c : Gh) (W W' : World) : Prop := ∀ b ∈ c.bs, ∀ cells q, W.heap[b]? = some (.cells cells q (0, 0)) → W'.heap[b]? = some (.cells cells q (0, 0))
theorem Kp.trans {c : Gh} {X Y Z : World} (h : Kp c X Y) (k : Kp c Y Z) : Kp c X Z := fun b hb cells q ho => k b hb cells q (h b hb cells q ho)
theorem Kp.book {c : Gh} (W : World) (l : Nat) (L L' : Loop) (hl : W.heap[l]? = some (.loop L)) : Kp c W (W.putObj l (.loop L')) := fun b _ cells q ho => by
 have hne : b ≠ l := fun e => by rw [e, hl] at ho; cases ho
 exact (World.putObj_heap_other hne).trans ho
theorem In.kept {c : Gh} {W W' : World} {x : El} (h : In c.bs W x) (hk : Kp c W W') : In c.bs W' x := by
 obtain ⟨h1, h1', g, off, cells, h2, h3, h4, h5⟩ := h
 exact ⟨h1, h1', g, off, cells, h2, h3, hk g h3 cells 3 h4, h5⟩
def words (l : List Int) (ps : List Int) (ws : List S90) : List (Int × List Int) := ws.map fun x => (rd ps x.f0, (l.take x.f1.toNat).drop x.f0.toNat)
def G (wl : List (Int × List Int)) (B : Nat) (c : Gh) (W : World) : Prop :=
 (∀ b ∈ c.bs, B ≤ b ∧ ∃ cells q, W.heap[b]? = some (.cells cells q (0, 0))) ∧ (∀ x ∈ c.xs, In c.bs W x) ∧ c.xs.map (fun x => (x.p, x.xs)) = wl
def E (c : Gh) (pre : List El) (x : El) : Prop := c.xs[pre.length]? = some x ∧ pre = c.xs.take pre.length
theorem E.next {c : Gh} {pre : List El} {x : El} (h : E c pre x) : pre ++ [x] = c.xs.take (pre.length + 1) := by
 rw [List.take_add_one, ← h.2, h.1]
 rfl
def S (c : Gh) (xs : List El) : Prop := xs = c.xs
theorem addz (g k : Nat) : (⟨g, 0, none⟩ : Addr).add k = ⟨g, k, none⟩ := by
 simp [Addr.add]
 exact fun h => h.symm
theorem slice_run (W : World) (g n c : Nat) (a b : Int) (h0 : 0 ≤ a) (h1 : a < b) (h2 : b ≤ (c : Int)) :
  (Instr.slice 22 (.slice (some ⟨g, 0, none⟩) n c) (some (.int .i64 a)) (some (.int .i64 b)) none).run Tryd.prog W = .ok (.slice (some ⟨g, a.toNat, none⟩) (b.toNat - a.toNat) (c - a.toNat)) W := by
 have hu := Tryd.underlying22
 have k1 : (0 ≤ a) = True := eq_true h0
 have k2 : (a ≤ b) = True := eq_true (by omega)
 have k3 : (b ≤ (c : Int)) = True := eq_true h2
 have k4 : (0 ≤ b) = True := eq_true (by omega)
 go_simp
 intro e
 omega
theorem blk {α : Type} {d : Kd α} {e : Nat} {w : World} {base n c : Nat} {ok : Nat → Prop} {A : Option Addr} {xs : List α} (h : d.R e w base ok (.slice A n c) xs) (hn : 0 < n) :
  ∃ g, A = some ⟨g, 0, none⟩ ∧ base ≤ g ∧ ok g ∧ g < w.heap.size ∧ ∃ cells, w.heap[g]? = some (.cells cells e (0, 0)) := by
 obtain ⟨g, rfl⟩ : ∃ g, A = some ⟨g, 0, none⟩ := by
  obtain ⟨_, inner, ho, _⟩ := h
  rcases ho.2 with ⟨hv, _⟩ | ⟨g, cap', cur, hv, _⟩
  ·injection hv with h1 h2 h3
   omega
  ·injection hv with h1 h2 h3
   exact ⟨g, h1⟩
 exact ⟨g, rfl, Kd.R_base h g (by simp [Value.ownBlock]), h.1 g (by simp [Value.ownBlock]), Kd.R_lt h g (by simp [Value.ownBlock]), Kd.R_typed h g (by simp [Value.ownBlock])⟩
theorem blk_stands {α : Type} {d : Kd α} {e : Nat} {w w1 : World} {base n c g : Nat} {ok : Nat → Prop} {xs : List α} (h : d.R e w base ok (.slice (some ⟨g, 0, none⟩) n c) xs) (hE : d.E = []) (hg : w1.heap[g]? = w.heap[g]?) : d.R e w1 base (fun _ => True) (.slice (some ⟨g, 0, none⟩) n c) xs :=
 Kd.R_mono (Kd.R_move (Kd.R_tight hE h) (fun k hk => by
  have : k = g := by
   have h9 : some k = some g := hk
   injection h9
  rw [this]
  exact hg)) (fun _ _ => trivial)
theorem mkIn {W : World} {base g c : Nat} {ok : Nat → Prop} {l : List Int} (h : Kd.R (Kd.int .i64) 3 W base ok (.slice (some ⟨g, 0, none⟩) l.length c) l) (hl : 0 < l.length) {bs : List Nat} (hb : g ∈ bs) (p : Int) {a b : Int} (h0 : 0 ≤ a) (h1 : a < b) (h2 : b ≤ (l.length : Int)) :
  In bs W ⟨p, some ⟨g, a.toNat, none⟩, c - a.toNat, (l.take b.toNat).drop a.toNat⟩ := by
 obtain ⟨g', cells, e, _, _, hc, hr⟩ := Trie.row h hl
 injection e with e
 injection e with e
 subst e
 have hn := (Kd.R_reads' h).2.1
 have hlen : ((l.take b.toNat).drop a.toNat).length = b.toNat - a.toNat := by rw [List.length_drop, List.length_take]; omega
 refine ⟨?_, by have h9 : l.length ≤ 9223372036854775807 := (Kd.R_reads' h).2.2.2.1; show ((l.take b.toNat).drop a.toNat).length ≤ _; omega, g, a.toNat, cells, rfl, hb, hc, fun j hj => ?_⟩
 ·show ((l.take b.toNat).drop a.toNat).length ≤ c - a.toNat
  rw [hlen]
  omega
 ·have hj' : j < b.toNat - a.toNat := by rw [← hlen]; exact hj
  rw [hr (a.toNat + j) (by omega)]
  congr 2
  show l.getD ((a.toNat + j : Nat) : Int).toNat 0 = ((l.take b.toNat).drop a.toNat).getD (j : Int).toNat 0
  rw [Int.toNat_natCast, Int.toNat_natCast, List.getD_eq_getElem?_getD, List.getD_eq_getElem?_getD, List.getElem?_drop, List.getElem?_take_of_lt (by omega)]
theorem two {e : Ending} {X Y : Prop} (h : (e = .returned (.bool true) ∧ X) ∨ (e = .returned (.bool false) ∧ Y)) : ∃ b : Bool, e = .returned (.bool b) ∧ Aside0 (if b = true then X else Y) := by
 rcases h with ⟨h1, h2⟩ | ⟨h1, h2⟩
 ·exact ⟨true, h1, ⟨by rw [if_pos rfl]; exact h2⟩⟩
 ·exact ⟨false, h1, ⟨by rw [if_neg (by decide)]; exact h2⟩⟩
end Wd
theorem hyphen_words.calls (s : ByteArray) (w : World) : Calls Tryd.prog 25 #[.string s] w fun e w' => e = .returned (.func (.func 42) #[] #[.pointer (some ⟨w.heap.size, 0, none⟩)]) ∧ w' = w.alloc (.cells #[.string s] 9) := by
 have hmf : ∀ (fn : Fn) (first cap : Array Value) (w : World), (Instr.makeFunc fn first cap).run Tryd.prog w = .ok (.func fn first cap) w := fun _ _ _ _ => rfl
 go_enter Tryd.func25, Tryd.ntmps25
 go_wp2
 go_ret
 exact ⟨rfl, rfl⟩
set_option maxHeartbeats 8000000 in
set_option maxRecDepth 100000 in
theorem hyphen_words.seq (k n : Nat) (s : ByteArray) (l : List Int) (at_ er : Int) (ws : List S90) (w0 : World) (hD : utf_Decode.f k s = some (l, at_, er)) (hW : utf_Words.f k l = some ws) (hsz : s.size ≤ 1048576) (hwl : ws.length ≤ 1048576) (hll : l.length ≤ 1048576)
  (hws : ∀ x ∈ ws, 0 ≤ x.f0 ∧ x.f0 < x.f1 ∧ x.f1 ≤ (l.length : Int) ∧ x.f0 < ((Wd.places s).length : Int)) (hLW : Lw w0) (Bs : Nat) (hs : w0.heap[Bs]? = some (.cells #[.string s] 9 (0, 0))) :
  SeqG Fence.wide n Tryd.prog 42 #[.pointer (some ⟨Bs, 0, none⟩)] Wd.El.encs Wd.Kp (Wd.G (Wd.words l (Wd.places s) ws)) Wd.E Wd.S (fun _ _ => True) ws.length w0 := by
 intro lr J Jx W hW0 hJ hJx hY h0
 refine callsIn_wide.2 ?_
 have HD := Aside0.mk hD
 have HW := Aside0.mk hW
 have HWS := Aside0.mk hws
 have HLW := Aside0.mk (hLW.below hW0)
 have HSs := Aside0.mk ((hW0.block _ (blk_lt hs)).trans hs)
 have HJ := Aside0.mk hJ
 have HWL := Aside0.mk hwl
 have HY := Aside0.mk hY
 have HH0 := Aside0.mk h0
 have h1 : W.cell? ⟨Bs, 0, none⟩ = some (.string s) := (blk_cell HSs.out 0).trans rfl
 have hBs := Aside0.mk (blk_lt HSs.out)
 clear hD hW hws hLW hs hJ hJx hY h0 hW0 hwl
 have HB := Aside0.mk (Below.refl W.heap.size W)
 simp only [List.append_toArray, List.cons_append, List.nil_append]
 go_enter Tryd.func42, Tryd.ntmps42
 go_upto_region 1 with (first | ((with_reducible refine gate_callee (f := 24) rfl ?_); refine goesL_ (some 12) rfl rfl Tryd.func24 (by kernel_rfl) rfl #[.string s] rfl (by (try simp only [List.map_toArray, List.map_cons, List.map_nil]); first | done | rfl) ?_; (with_reducible refine (utf_Decode.calls k s l at_ er _ HLW.out HD.out).mono ?_); rintro e w3 ⟨vl, rfl, ho0, hb⟩; refine ⟨_, rfl, ?_⟩; have HL := Aside0.mk ho0; have n1_ := Aside0.mk (below_step HB.out hb); clear HB; have HB := n1_; clear n1_ hb ho0))
 obtain ⟨Al, cl, rfl⟩ := Kd.R_slice HL.out
 have hkw : IntKind.i64.wrap ((l.length : Int) + 1) = (l.length : Int) + 1 := by rw [IntKind.wrap_i64]; omega
 obtain ⟨i3, hi3, he3⟩ := Option.map_eq_some_iff.1 info3
 simp only [Prod.mk.injEq] at he3
 obtain ⟨e1, e2, e3⟩ := he3
 obtain ⟨w4, hmk, hown, hgw⟩ := run_make_own (P := Tryd.prog) (w := w3) W.heap.size 22 3 i3 (.int .i64 0) 1 Tryd.underlying22 hi3 e1 e2 .i64 .i64 (l.length + 1) (by rw [e3]; omega) (by simp [maxLen]; omega) (Nat.le_trans (Nat.le_refl _) HB.out.size)
 have hmk' : (Instr.makeSlice 22 (.int .i64 0) (.int .i64 ((l.length : Int) + 1))).run Tryd.prog w3 = .ok (.slice (some ⟨w3.heap.size, 0, none⟩) 0 (l.length + 1)) w4 := hmk
 have HP := Aside0.mk (show Kd.R (Kd.int .i64) 3 w4 W.heap.size (fun _ => True) (.slice (some ⟨w3.heap.size, 0, none⟩) 0 (l.length + 1)) [] from ⟨fun _ _ => trivial, [], hown, Reps.none _ _⟩)
 have HL4 := Aside0.mk (Kd.R_grown (Kd.R_bound HL.out) hgw (fun _ _ e => by cases e))
 have HB4 := Aside0.mk (show Below W.heap.size W w4 from below_step HB.out ⟨hgw.os, hgw.tape, hgw.output, hgw.size, fun k hk => hgw.block k hk (by simp)⟩)
 have h14 : w4.cell? ⟨Bs, 0, none⟩ = some (.string s) := (blk_cell ((HB4.out.block _ hBs.out).trans HSs.out) 0).trans rfl
 have HS4 := Aside0.mk (show W.heap.size ≤ w4.heap.size from HB4.out.size)
 clear hmk hown hgw hi3 e1 e2 e3 i3 HL HB h1
 go_wp2
 go_loopw [6] (fun v6 wr => ∃ (pos fuel : Nat) (ys : List Int), Aside0 (Kd.R (Kd.int .i64) 3 wr W.heap.size (fun _ => True) v6 ys) ∧ Aside0 (Kd.R (Kd.int .i64) 3 wr W.heap.size (fun k => some k ≠ (v6 : Value).ownBlock) (.slice Al l.length cl) l) ∧ Aside0 (wr.heap[w4.heap.size]? = some (.stringIter s pos)) ∧ Aside0 (Below W.heap.size W wr) ∧ Aside0 (ys ++ Wd.placesFrom s fuel pos = Wd.places s) ∧ Aside0 (s.size ≤ pos + fuel) ∧ Aside0 (ys.length ≤ pos))
  (fun _ wr => s.size - wr.iterPos w4.heap.size)
 case atStart =>
  refine ⟨0, s.size, [], ⟨Kd.R_alloc HP.out _⟩, ⟨Kd.R_alloc (Kd.R_mono HL4.out (fun k hk => ?_)) _⟩, ⟨World.iter_heap w4 s 0⟩, ⟨below_step HB4.out (below_alloc (Below.refl _ _) _)⟩, ⟨rfl⟩, ⟨by omega⟩, ⟨Nat.le_refl _⟩⟩
  intro e
  have e2 : k = w3.heap.size := by simpa [Value.ownBlock] using e
  have := hk.2.2.1
  omega
 case round =>
  clear HP HL4 HB4 h14
  obtain ⟨pos, fuel, ys, HP, HL, HI, HB, HA, HF, HN⟩ := hrel
  by_cases hp : pos < s.size
  ·have hnx : ∀ ty, (Instr.next (.pointer (some ⟨w4.heap.size, 0, none⟩)) true ty).run Tryd.prog wr = _ := fun ty => Lib.run_next_any_at wr w4.heap.size s pos ty HI.out hp
   have Hwd := Aside0.mk (Wd.width_pos s pos hp)
   have Hd1 := Aside0.mk (decode_le s pos)
   have HI2 := Aside0.mk (Lib.iterAt_heap wr w4.heap.size s pos (pos + (Utf8.decode s pos).2) HI.out)
   have hnc : ∀ (k : Nat) (cells : Array Value) (q : Nat), wr.heap[k]? = some (.cells cells q (0, 0)) → k ≠ w4.heap.size := fun k cells q hc e => by rw [e, HI.out] at hc; cases hc
   have HP2 : Aside0 (Kd.R (Kd.int .i64) 3 (wr.iterAt w4.heap.size s (pos + (Utf8.decode s pos).2)) W.heap.size (fun _ => True) u6 ys) := ⟨Kd.R_mono (Kd.R_move (Kd.R_bound HP.out) (fun k hk => by
    obtain ⟨_, _, _, q, _, cells, hc⟩ := hk
    exact Lib.iterAt_other wr _ k s _ (hnc k cells q hc))) (fun _ _ => trivial)⟩
   have HL2 : Aside0 (Kd.R (Kd.int .i64) 3 (wr.iterAt w4.heap.size s (pos + (Utf8.decode s pos).2)) W.heap.size (fun k => some k ≠ (u6 : Value).ownBlock) (.slice Al l.length cl) l) := ⟨Kd.R_mono (Kd.R_move (Kd.R_bound HL.out) (fun k hk => by
    obtain ⟨_, _, _, q, _, cells, hc⟩ := hk
    exact Lib.iterAt_other wr _ k s _ (hnc k cells q hc))) (fun _ hk => hk.1)⟩
   have HB2 : Aside0 (Below W.heap.size W (wr.iterAt w4.heap.size s (pos + (Utf8.decode s pos).2))) := ⟨Lib.below_iterAt HB.out (k := w4.heap.size) HS4.out s _⟩
   obtain ⟨f, rfl⟩ : ∃ f, fuel = f + 1 := ⟨fuel - 1, by have := HF.out; omega⟩
   have HA2 : Aside0 ((ys ++ [(pos : Int)]) ++ Wd.placesFrom s f (pos + (Utf8.decode s pos).2) = Wd.places s) := ⟨by
    have h9 := HA.out
    rw [Wd.placesFrom, if_pos hp] at h9
    rw [List.append_assoc]
    exact h9⟩
   have HPp := Aside0.mk hp
   clear HP HL HB HA hp hnc
   generalize hW2 : wr.iterAt w4.heap.size s (pos + (Utf8.decode s pos).2) = W2 at *
   generalize Utf8.decode s pos = d at *
   go_wp2_with (first | ((with_reducible refine gate_builtin (b := .append) (xs := #[.tmp 25, .tmp 27]) rfl ?_); at_builtin; refine Kd.R_append (Kd.int .i64) (w0 := W) W.heap.size rfl (.tmp 25) (.tmp 27) 22 3 (.int .i64 0) 8 rfl Tryd.underlying22 info3 rfl (by decide) (by omega) u6 ys (pos : Int) [.int .i64 (pos : Int)] (fun _ => True) (fun _ => False) rfl rfl ?aP (fun _ hk => hk.elim) ?aF ?aO ?aB ?aS ?aL ?_; (case aP => exact rfl); (case aB => exact HB2.out); (case aF => exact (fun _ _ => trivial)); (case aO => exact HP2.out); (case aS => exact HB2.out.size); (case aL => have := HN.out; have := HPp.out; omega); intro v1 w1 ho hb1 hg hat; have HPo := Aside0.mk ho; have HBo := Aside0.mk hb1; have HGo := Aside0.mk hg; have HTo := Aside0.mk hat; clear ho hb1 hg hat))
   go_roundw
   case rel =>
    have HI3 : w1.heap[w4.heap.size]? = some (.stringIter s (pos + d.2)) := by
     refine (HGo.out.block _ (blk_lt HI2.out) (fun e1 => ?_)).trans HI2.out
     obtain ⟨cells, hc⟩ := Kd.R_typed HP2.out _ e1.symm
     rw [HI2.out] at hc
     cases hc
    refine ⟨pos + d.2, f, ys ++ [(pos : Int)], HPo, ⟨?_⟩, ⟨HI3⟩, HBo, HA2, ⟨by have := HF.out; have := Hwd.out; omega⟩, ⟨by have := HN.out; have := Hwd.out; simp; omega⟩⟩
    ·refine Kd.R_mono (Kd.R_grown (Kd.R_bound HL2.out) HGo.out (fun k hk => hk.1)) (fun k hk => ?_)
     rcases HTo.out with e | ⟨b, e, hb⟩
     ·rw [e]
      exact hk.1
     ·rw [e]
      intro e2
      injection e2 with e2
      have := hk.2.2.1
      omega
   case measure =>
    have HI3 : w1.heap[w4.heap.size]? = some (.stringIter s (pos + d.2)) := by
     refine (HGo.out.block _ (blk_lt HI2.out) (fun e1 => ?_)).trans HI2.out
     obtain ⟨cells, hc⟩ := Kd.R_typed HP2.out _ e1.symm
     rw [HI2.out] at hc
     cases hc
    have := HPp.out
    have := Hwd.out
    simp only [World.iterPos, HI.out, HI3]
    omega
  ·have hnx : ∀ ty, (Instr.next (.pointer (some ⟨w4.heap.size, 0, none⟩)) true ty).run Tryd.prog wr = _ := fun ty => Lib.run_next_end_at wr w4.heap.size s pos ty HI.out hp
   have hA := HA.out
   rw [Wd.placesFrom_end s fuel pos hp, List.append_nil] at hA
   subst hA
   have HBZ := Aside0.mk HB.out.size
   go_wp2_with (first | ((with_reducible refine gate_callee (f := 43) rfl ?_); refine goesL_ (some 30) rfl rfl Tryd.func43 (by kernel_rfl) rfl #[.slice Al l.length cl] rfl (by (try simp only [List.map_toArray, List.map_cons, List.map_nil]); first | done | rfl) ?_; (with_reducible refine (utf_Words.calls k _ _ l ws _ (Kd.R_reads' HL.out).2.2 (Kd.R_reads' HL.out).2.1 HW.out).mono ?_); rintro e w5 ⟨vs, rfl, ho0, hb⟩; refine ⟨_, rfl, ?_⟩; have HS := Aside0.mk ho0; have HP2 := Aside0.mk (Kd.R_below HP.out hb); have HL2 := Aside0.mk (Kd.R_below HL.out hb); have HB2 := Aside0.mk (below_step HB.out hb); clear HP HL HB hb ho0; obtain ⟨As, cs, rfl⟩ := Kd.R_slice HS.out))
   clear HI HA HF HN hp hnx HSs HLW HD HW HS4 hBs hmk' hkw
   refine (wpIn_wide (n := n)).1 ?_
   by_cases hne : ws.length = 0
   ·have hws0 := List.length_eq_zero_iff.1 hne
    have h9 := HH0.out ⟨[], []⟩ _ HB2.out ⟨fun b hb => absurd hb (by simp), fun x hx => absurd hx (by simp), by rw [hws0]; rfl⟩
    have HJ0 := Aside0.mk h9
    have kc1 : ((ws.length : Int) ≤ 0) = True := eq_true (by omega)
    clear h9
    gi_loopw [32] (fun i wr => i = .int .i64 0 ∧ Aside0 (J ⟨[], []⟩ [] wr)) (fun _ _ => 0)
    case atStart => exact ⟨rfl, HJ0⟩
    case round =>
     obtain ⟨rfl, HJ1⟩ := hrel
     have kc2 : ((0 : Int) < (ws.length : Int)) = False := eq_false (by omega)
     have kc3 : (0 < ws.length) = False := eq_false (by omega)
     gi_wp2
     go_end0
     exact ⟨⟨_, rfl⟩, ⟨[], []⟩, .inl ⟨[], rfl, HJ1.out⟩⟩
   ·have hne2 : 0 < ws.length := by omega
    have hx0 := HWS.out (ws[0]) (List.getElem_mem hne2)
    obtain ⟨gl, rfl, hgl1, _, hgl2, cellsl, hgl3⟩ := Wd.blk HL2.out (by omega)
    obtain ⟨Ap, cp, rfl⟩ := Kd.R_slice HP2.out
    obtain ⟨gp, rfl, hgp1, _, hgp2, cellsp, hgp3⟩ := Wd.blk HP2.out (by omega)
    obtain ⟨gs, rfl, hgs1, _, hgs2, cellss, hgs3⟩ := Wd.blk HS.out hne2
    obtain ⟨cG, hcG⟩ : ∃ cG : Wd.Gh, cG = ⟨[gl, gp, gs], ws.map (fun x => ⟨rd (Wd.places s) x.f0, some ⟨gl, x.f0.toNat, none⟩, cl - x.f0.toNat, (l.take x.f1.toNat).drop x.f0.toNat⟩)⟩ := ⟨_, rfl⟩
    have hll0 : 0 < l.length := by omega
    have HCL := Aside0.mk (Kd.R_reads' HL2.out).2.1
    have hGG : Wd.G (Wd.words l (Wd.places s) ws) W.heap.size cG w5 := by
     subst hcG
     refine ⟨fun b hb => ?_, fun x hx => ?_, ?_⟩
     ·rcases List.mem_cons.1 hb with rfl | hb
      ·exact ⟨hgl1, _, _, hgl3⟩
      ·rcases List.mem_cons.1 hb with rfl | hb
       ·exact ⟨hgp1, _, _, hgp3⟩
       ·obtain rfl := List.mem_singleton.1 hb
        exact ⟨by have := HBZ.out; omega, _, _, hgs3⟩
     ·obtain ⟨y, hy, rfl⟩ := List.mem_map.1 hx
      obtain ⟨q0, q1, q2, q3⟩ := HWS.out y hy
      exact Wd.mkIn HL2.out hll0 (by simp) _ q0 q1 q2
     ·unfold Wd.words
      rw [List.map_map]
      rfl
    have HJ0 := Aside0.mk (HH0.out cG _ HB2.out hGG)
    have HcG := Aside0.mk hcG
    have hcl : cG.xs.length = ws.length := by rw [hcG]; simp
    have HC3 := Aside0.mk (And.intro hgl3 (And.intro hgp3 hgs3))
    have HBS := Aside0.mk (show gl ∈ cG.bs ∧ gp ∈ cG.bs ∧ gs ∈ cG.bs by rw [hcG]; simp)
    clear hcG hGG hgl1 hgl2 hgl3 hgp1 hgp2 hgp3 hgs1 hgs2 hgs3 hx0
    gi_loopw [32] (fun i wr => ∃ j : Nat, j ≤ ws.length ∧ i = .int .i64 (j : Int) ∧ Aside0 (J cG (cG.xs.take j) wr) ∧ Aside0 (wr.heap[gl]? = w5.heap[gl]?) ∧ Aside0 (wr.heap[gp]? = w5.heap[gp]?) ∧ Aside0 (wr.heap[gs]? = w5.heap[gs]?)) (fun i _ => ws.length - (intOf i).toNat)
    case atStart => exact ⟨0, Nat.zero_le _, rfl, HJ0, ⟨rfl⟩, ⟨rfl⟩, ⟨rfl⟩⟩
    case round =>
     obtain ⟨j, hj, rfl, HJJ, HKl, HKp, HKs⟩ := hrel
     by_cases hlt : j < ws.length
     ·have kc1 : ((j : Int) < (ws.length : Int)) = True := eq_true (by omega)
      have kc2 : (j < ws.length) = True := eq_true hlt
      have kc3 : ((0 : Int) ≤ (j : Int)) = True := eq_true (by omega)
      have kc6 : IntKind.i64.wrap ((j : Int) + 1) = (j : Int) + 1 := by rw [IntKind.wrap_i64]; have := HWL.out; omega
      have hmem : rd_T90 ws (j : Int) ∈ ws := by
       show ws.getD (j : Int).toNat z90 ∈ ws
       rw [Int.toNat_natCast, List.getD_eq_getElem?_getD, List.getElem?_eq_getElem hlt]
       exact List.getElem_mem hlt
      obtain ⟨f00, f01, f1l, f0p⟩ := HWS.out _ hmem
      obtain ⟨ad, e, y0, y1⟩ := at_T90 (Kd.R_reads' (Wd.blk_stands HS.out rfl HKs.out)).2.2 (j : Int) (by omega) (by omega)
      cases e
      obtain ⟨ad2, e2, y2⟩ := Kd.at_int (Kd.R_reads' (Wd.blk_stands HP2.out rfl HKp.out)).2.2 (rd_T90 ws (j : Int)).f0 f00 f0p
      cases e2
      generalize hxe : rd_T90 ws (j : Int) = xe at *
      obtain ⟨a0, a1⟩ := xe
      dsimp only at f00 f01 f1l f0p y0 y1 y2
      rw [Wd.addz] at y0 y1 y2
      simp only [Int.toNat_natCast] at y0 y1
      (try rw [Nat.mul_one] at y2)
      have hsl := fun W => Wd.slice_run W gl l.length cl a0 a1 f00 f01 (by have := HCL.out; omega)
      have y2a : ∀ o, (wr.alloc o).cell? ⟨gp, a0.toNat, none⟩ = some (.int .i64 (rd (Wd.places s) a0)) := fun o => ((below_alloc (Below.refl wr.heap.size wr) o).cell (World.block_lt_of_cell? wr _ y2)).trans y2
      have y2b : ∀ o, (wr.alloc o).drew.cell? ⟨gp, a0.toNat, none⟩ = some (.int .i64 (rd (Wd.places s) a0)) := y2a
      have hxj : cG.xs[j]? = some ⟨rd (Wd.places s) a0, some ⟨gl, a0.toNat, none⟩, cl - a0.toNat, (l.take a1.toNat).drop a0.toNat⟩ := by
       rw [HcG.out]
       show (ws.map _)[j]? = _
       rw [List.getElem?_map, List.getElem?_eq_getElem hlt]
       have hxe2 : ws[j] = ⟨a0, a1⟩ := by rw [← hxe]; show _ = ws.getD (j : Int).toNat z90; rw [Int.toNat_natCast, List.getD_eq_getElem?_getD, List.getElem?_eq_getElem hlt]; rfl
       rw [hxe2]
       rfl
      obtain ⟨W1, hW1⟩ : ∃ W1 : World, W1 = (wr.alloc (.cells #[.int .i64 a0, .int .i64 a1] 90)).drew := ⟨_, rfl⟩
      have hJ1 : J cG (cG.xs.take j) W1 := by
       rw [hW1]
       exact HJ.out cG _ _ _ HJJ.out ⟨rfl, rfl, rfl, (World.grownBy_alloc wr _ none).size, (World.grownBy_alloc wr _ none).block⟩
      have hpl : (cG.xs.take j).length = j := by rw [List.length_take]; omega
      have hEE : Wd.E cG (cG.xs.take j) ⟨rd (Wd.places s) a0, some ⟨gl, a0.toNat, none⟩, cl - a0.toNat, (l.take a1.toNat).drop a0.toNat⟩ := ⟨by rw [hpl]; exact hxj, by rw [hpl]⟩
      have hnext := hEE.next
      obtain ⟨fn, tmps, assign, body, hy, hR⟩ := HY.out cG _ _ W1 hJ1 hEE (by rw [hpl]; exact hlt)
      have hwl2 : ((l.take a1.toNat).drop a0.toNat).length = a1.toNat - a0.toNat := by rw [List.length_drop, List.length_take]; omega
      have he : Wd.El.encs ⟨rd (Wd.places s) a0, some ⟨gl, a0.toNat, none⟩, cl - a0.toNat, (l.take a1.toNat).drop a0.toNat⟩ = #[.int .i64 (rd (Wd.places s) a0), .slice (some ⟨gl, a0.toNat, none⟩) (a1.toNat - a0.toNat) (cl - a0.toNat)] := by
       unfold Wd.El.encs
       dsimp only
       rw [hwl2]
      rw [he] at hy
      rw [hpl] at hnext
      rw [hnext] at hR
      rw [hW1] at hy hR
      have HR_ := Aside0.mk hR
      have HK := Aside0.mk hW1
      clear hJ1 hEE hnext hxj hpl he hwl2 hR hW1 hxe
      have hfin : Aside0 (∀ W3, Wd.Kp cG (wr.alloc (.cells #[.int .i64 a0, .int .i64 a1] 90)).drew W3 → W3.heap[gl]? = w5.heap[gl]? ∧ W3.heap[gp]? = w5.heap[gp]? ∧ W3.heap[gs]? = w5.heap[gs]?) := ⟨fun W3 hk => by
       obtain ⟨c3l, c3p, c3s⟩ := HC3.out
       obtain ⟨b3l, b3p, b3s⟩ := HBS.out
       have ha : ∀ (g : Nat) (o : Obj), wr.heap[g]? = some o → (wr.alloc (.cells #[.int .i64 a0, .int .i64 a1] 90)).drew.heap[g]? = some o := fun g o ho => (Below.heap_alloc wr _ g (blk_lt ho)).trans ho
       exact ⟨(hk _ b3l _ _ (ha _ _ (HKl.out.trans c3l))).trans c3l.symm, (hk _ b3p _ _ (ha _ _ (HKp.out.trans c3p))).trans c3p.symm, (hk _ b3s _ _ (ha _ _ (HKs.out.trans c3s))).trans c3s.symm⟩⟩
      gi_wp2
      gi_region_with (refine ⟨fun hd => by simp [Fence.wide] at hd, ?_⟩; refine HR_.out.mono ?_; rintro e W3 hpost; obtain ⟨bb, rfl, hpp⟩ := Wd.two hpost; clear hpost)
      all_goals
       cases bb with
       | true =>
        obtain ⟨h8, h9⟩ := (show _ ∧ _ from (if_pos rfl) ▸ hpp.out)
        have HX := Aside0.mk h8
        have HX2 := Aside0.mk (hfin.out _ h9)
        clear h8 h9
        gi_wp2
        go_roundw
        case rel => exact ⟨j + 1, by omega, by simp, HX, ⟨HX2.out.1⟩, ⟨HX2.out.2.1⟩, ⟨HX2.out.2.2⟩⟩
        case measure => (try simp [intOf]); omega
       | false =>
        gi_wp2
        refine bodyPost_ret (results_none rfl _ _ _) rfl ?_
        exact ⟨⟨_, rfl⟩, cG, .inr ⟨_, trivial, by have h9 := hpp.out; rw [if_neg (show ¬ (false = true) by decide)] at h9; exact h9⟩⟩
     ·obtain rfl : j = ws.length := by omega
      have kc1 : ((ws.length : Int) < (ws.length : Int)) = False := eq_false (by omega)
      have kc2 : (ws.length < ws.length) = False := eq_false (by omega)
      gi_wp2
      go_end0
      exact ⟨⟨_, rfl⟩, cG, .inl ⟨_, by unfold Wd.S; rw [← hcl, List.take_length], HJJ.out⟩⟩
end Go.Proofs.YtenhfmlkdcfbbaaDoor.PHyphenPoints
