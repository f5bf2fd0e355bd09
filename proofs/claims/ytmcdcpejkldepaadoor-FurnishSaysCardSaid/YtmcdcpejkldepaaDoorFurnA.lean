/- furnish.Expand's first function literal: 'add': the characters of a string are put behind the row in the captured variable. -/
import Derived.Test.YtmcdcpejkldepaaDoorProg
import Derived.Below
import Derived.Deep.Draws
import Derived.Deep.AppendLies
import Derived.Maps.AppendAt
import Derived.OwnWalk
import Derived.Laws.BytesArg
import Derived.Laws.MakeOwn
import Derived.Laws.OwnMore
import Derived.Deep.OwnRows
import Derived.Tactics
import Derived.WalkKit
import Derived.KernelRfl
import Derived.RowKit3
import Derived.Laws.Rows
import Derived.Lib.OthersKept
import Derived.Test.YtmcdcpejkldepaaDoorWWords
import Derived.Test.YtmcdcpejkldepaaDoorWMore
import Derived.Test.YtmcdcpejkldepaaDoorWLast
namespace Go.Proofs.YtmcdcpejkldepaaDoor.Furn
open Go.RowKit Go.Proofs.YtmcdcpejkldepaaDoorW.PrintWords Go.Proofs.YtmcdcpejkldepaaDoorW.PrintLast Go.Proofs.YtmcdcpejkldepaaDoorW.PrintMore
set_option linter.unusedVariables false
set_option linter.unusedSimpArgs false
theorem info3 : (Tryd.prog.info? 3).map (fun i => (i.zero, i.size, i.bytes)) = some (some (.int .i64 0), 1, 8) := by kernel_rfl
/-- The characters from place pos on, by at most so many. -/
def runesFrom (s : ByteArray) : Nat → Nat → List Int
  | 0, _ => []
  | fuel + 1, pos => if pos < s.size then ((Utf8.decode s pos).1 : Int) :: runesFrom s fuel (pos + (Utf8.decode s pos).2) else []
def runes (s : ByteArray) : List Int := runesFrom s s.size 0
theorem width_pos (s : ByteArray) (pos : Nat) (h : pos < s.size) : 1 ≤ (Utf8.decode s pos).2 := by
  by_cases ha : (s[pos]'h).toNat < 128
  · rw [decode_ascii s pos h ha]
    exact Nat.le_refl _
  · exact (decode_high s pos h (by omega)).2
theorem runesFrom_end (s : ByteArray) (fuel pos : Nat) (h : ¬ pos < s.size) : runesFrom s fuel pos = [] := by
  cases fuel with
  | zero => rfl
  | succ f => simp [runesFrom, h]
/-- The captured variable in block b holds a row of the call's own. -/
def Out (b : Nat) (xs : List Int) (w : World) : Prop := ∃ v, w.heap[b]? = some (.cells #[v] 22 (0, 0)) ∧ Kd.R (Kd.int .i64) 3 w b (fun k => k ≠ b) v xs
theorem Out.lt {b : Nat} {xs : List Int} {w : World} (h : Out b xs w) : b < w.heap.size := by
  obtain ⟨v, h1, _⟩ := h
  exact (Array.getElem?_eq_some_iff.1 h1).1
theorem Out.below {b : Nat} {xs : List Int} {w w' : World} (h : Out b xs w) (hb : Below w.heap.size w w') : Out b xs w' := by
  have hlt := h.lt
  obtain ⟨v, h1, h2⟩ := h
  exact ⟨v, (hb.block b hlt).trans h1, Kd.R_below h2 hb⟩
theorem Out.iterAt {b : Nat} {xs : List Int} {w : World} (h : Out b xs w) {k : Nat} {s : ByteArray} {pos : Nat} (hk : w.heap[k]? = some (.stringIter s pos)) (pos' : Nat) : Out b xs (w.iterAt k s pos') := by
  obtain ⟨v, h1, h2⟩ := h
  have hkb : b ≠ k := by
    intro e1
    rw [e1, hk] at h1
    cases h1
  refine ⟨v, (Lib.iterAt_other w k b s pos' hkb).trans h1, ?_⟩
  refine Kd.R_mono (Kd.R_move (Kd.R_bound h2) (fun j hj => Lib.iterAt_other w k j s pos' ?_)) (fun _ hk => hk.1)
  obtain ⟨_, _, _, q, _, cells, hc⟩ := hj
  intro e1
  rw [e1, hk] at hc
  cases hc
theorem R_shape {W : World} {B : Nat} {ok : Nat → Prop} {v : Value} {xs : List Int} (h : Kd.R (Kd.int .i64) 3 W B ok v xs) : ∃ A n c, v = .slice A n c := by
  rcases (Kd.own_of_R h).2 with ⟨rfl, h0⟩ | ⟨g, cap, cur, rfl, _⟩
  · exact ⟨none, 0, 0, rfl⟩
  · exact ⟨_, _, _, rfl⟩
set_option maxHeartbeats 4000000 in
set_option maxRecDepth 100000 in
theorem add_calls (b : Nat) (s : ByteArray) (xs : List Int) (w : World) (h : Out b xs w) (hlen : xs.length + s.size < 17592186044416) :
    Calls Tryd.prog 24 #[.string s, .pointer (some ⟨b, 0, none⟩)] w fun e w' => e = .returned (.tuple #[]) ∧ Out b (xs ++ runes s) w' ∧ Below b w w' ∧ Lib.OthersKept 3 (some b) w w' := by
  have hb := Aside0.mk h.lt
  have hO0 := Aside0.mk h
  have hlen0 := Aside0.mk hlen
  clear hlen h
  go_enter Tryd.func24, Tryd.ntmps24
  go_wp2
  go_loopw [] (fun wr => ∃ (pos fuel : Nat) (ys : List Int), Out b ys wr ∧ wr.heap[w.heap.size]? = some (.stringIter s pos) ∧ Below b w wr ∧ Lib.OthersKept 3 (some b) w wr ∧ ys ++ runesFrom s fuel pos = xs ++ runes s ∧ s.size ≤ pos + fuel ∧ ys.length ≤ xs.length + pos) (fun wr => s.size - wr.iterPos w.heap.size)
  case atStart =>
    have hb' := hb.out
    exact ⟨0, s.size, xs, hO0.out.below (below_alloc (Below.refl _ _) _), World.iter_heap w s 0, (Below.refl _ w).alloc (by omega) _, (Lib.OthersKept.refl _ _ _).alloc _, rfl, by omega, by omega⟩
  case round =>
    obtain ⟨pos, fuel, ys, hO, hit, hbw, hoth, hacc, hfu, hal⟩ := hrel
    by_cases hp : pos < s.size
    · have hnx : ∀ ty, (Instr.next (.pointer (some ⟨w.heap.size, 0, none⟩)) true ty).run Tryd.prog wr = _ := fun ty => Lib.run_next_any_at wr w.heap.size s pos ty hit hp
      have hwd := width_pos s pos hp
      have hd1 := decode_le s pos
      have hO2 := hO.iterAt hit (pos + (Utf8.decode s pos).2)
      have hit2 := Lib.iterAt_heap wr w.heap.size s pos (pos + (Utf8.decode s pos).2) hit
      have hbw2 := Lib.below_iterAt hbw (k := w.heap.size) (Nat.le_of_lt hb.out) s (pos + (Utf8.decode s pos).2)
      have hoth2 : Lib.OthersKept 3 (some b) w (wr.iterAt w.heap.size s (pos + (Utf8.decode s pos).2)) := fun k o hk hkb ho => by
        rw [Lib.iterAt_other _ _ _ _ _ (by have := (Array.getElem?_eq_some_iff.1 hk).1; omega)]
        exact hoth k o hk hkb ho
      obtain ⟨f, rfl⟩ : ∃ f, fuel = f + 1 := ⟨fuel - 1, by omega⟩
      have hrn : runesFrom s (f + 1) pos = ((Utf8.decode s pos).1 : Int) :: runesFrom s f (pos + (Utf8.decode s pos).2) := by rw [runesFrom, if_pos hp]
      rw [hrn] at hacc
      have hsz2 : (wr.iterAt w.heap.size s (pos + (Utf8.decode s pos).2)).heap.size = wr.heap.size := Lib.iterAt_size ..
      have hwsz : w.heap.size < wr.heap.size := (Array.getElem?_eq_some_iff.1 hit).1
      rw [← hsz2] at hwsz
      clear hsz2
      obtain ⟨v, hv, hR⟩ := hO2
      have cW := cell_of_one hv
      have fW := free_of_one hv
      have hltb : b < (wr.iterAt w.heap.size s (pos + (Utf8.decode s pos).2)).heap.size := Nat.lt_trans hb.out hwsz
      have hne : some b ≠ v.ownBlock := fun e1 => hR.1 b e1.symm rfl
      have hrw : wrap64 ((Utf8.decode s pos).1 : Int) = ((Utf8.decode s pos).1 : Int) := by unfold wrap64; omega
      generalize wr.iterAt w.heap.size s (pos + (Utf8.decode s pos).2) = W2 at *
      generalize Utf8.decode s pos = d at *
      have Hacc := Aside0.mk hacc
      have Hhoth2 := Aside0.mk hoth2
      have Hhit2 := Aside0.mk hit2
      have Hbw2 := Aside0.mk hbw2
      have HR := Aside0.mk hR
      have Hv := Aside0.mk hv
      have HLT := Aside0.mk hltb
      have HNE := Aside0.mk hne
      have Hwsz := Aside0.mk hwsz
      have Hl : Aside0 ((ys.length + 1) * 8 ≤ 140737488355328) := ⟨by have := hlen0.out; omega⟩
      have Hfu := Aside0.mk hfu
      have Hal := Aside0.mk hal
      have Hp := Aside0.mk hp
      have Hwd := Aside0.mk hwd
      have HO' := Aside0.mk hO
      have Hit := Aside0.mk hit
      have Hbw := Aside0.mk hbw
      have Hoth := Aside0.mk hoth
      clear hrn hacc hoth2 hit2 hbw2 hR hv hltb hne hwsz hfu hal hp hwd hO hit hbw hoth
      go_wp2_with ((with_reducible refine gate_builtin (b := .append) (xs := #[.tmp 10, .tmp 13]) rfl ?_); at_builtin; refine Kd.R_append (Kd.int .i64) (w0 := w) b rfl (.tmp 10) (.tmp 13) 22 3 (.int .i64 0) 8 rfl Tryd.underlying22 info3 rfl (by decide) (by omega) v ys (d.1 : Int) [.int .i64 (d.1 : Int)] (fun k => k ≠ b) (fun _ => False) rfl rfl ?aP (fun _ hk => hk.elim) ?aF ?aO ?aB ?aS ?aL ?_; (case aP => exact rfl); (case aB => exact Hbw2.out); (case aF => exact (fun k hk => Nat.ne_of_gt (Nat.lt_of_lt_of_le HLT.out hk))); (case aO => exact HR.out); (case aS => exact Nat.le_of_lt HLT.out); (case aL => exact Hl.out); intro v1 w1 ho hb1 hg hat; obtain ⟨A1, n1, c1, rfl⟩ := R_shape ho; have hv1 := Aside0.mk ((hg.block b HLT.out HNE.out).trans Hv.out); have cW1 := cell_of_one hv1.out; have fW1 := free_of_one hv1.out; have Hho := Aside0.mk ho; have Hhg := Aside0.mk hg; have Hhb1 := Aside0.mk hb1; clear ho hg hb1 hat)
      go_roundw
      case rel =>
        obtain ⟨ho⟩ := Hho
        obtain ⟨hg⟩ := Hhg
        obtain ⟨hb1⟩ := Hhb1
        obtain ⟨hv1⟩ := hv1
        obtain ⟨hoth2⟩ := Hhoth2
        obtain ⟨hit2⟩ := Hhit2
        obtain ⟨hR⟩ := HR
        obtain ⟨hwsz⟩ := Hwsz
        obtain ⟨hb⟩ := hb
        obtain ⟨hacc⟩ := Hacc
        have hoth3 : Lib.OthersKept 3 (some b) w w1 := fun k o hk hkb ho => by
          have hk2 := hoth2 k o hk hkb ho
          refine (hg.block k (Array.getElem?_eq_some_iff.1 hk2).1 (fun e1 => ?_)).trans hk2
          obtain ⟨cells, hc⟩ := own_typed (Kd.own_of_R hR) k e1.symm
          rw [hc] at hk2
          exact ho _ _ (Option.some.inj hk2).symm
        have hit3 : w1.heap[w.heap.size]? = some (.stringIter s (pos + d.2)) := by
          refine (hg.block _ hwsz (fun e1 => ?_)).trans hit2
          obtain ⟨cells, hc⟩ := own_typed (Kd.own_of_R hR) _ e1.symm
          rw [hc] at hit2
          cases hit2
        refine ⟨pos + d.2, f, ys ++ [(d.1 : Int)], ⟨_, one_setCell hv1, Kd.R_far ho (fun k hk => hk) _⟩, ?_, hb1.setCell (Nat.le_refl _) _, hoth3.setCell _ rfl _, ?_, ?_, ?_⟩
        · exact (Below.heap_setCell _ _ _ _ (by show w.heap.size ≠ b; omega)).trans hit3
        · rw [List.append_assoc]
          exact hacc
        · have := Hfu.out
          have := Hwd.out
          omega
        · have := Hal.out
          have := Hwd.out
          rw [List.length_append, List.length_singleton]
          omega
      case measure =>
        obtain ⟨hg⟩ := Hhg
        obtain ⟨hit2⟩ := Hhit2
        obtain ⟨hR⟩ := HR
        obtain ⟨hwsz⟩ := Hwsz
        obtain ⟨hb⟩ := hb
        have hit := Hit.out
        have := Hp.out
        have := Hwd.out
        have hit3 : w1.heap[w.heap.size]? = some (.stringIter s (pos + d.2)) := by
          refine (hg.block _ hwsz (fun e1 => ?_)).trans hit2
          obtain ⟨cells, hc⟩ := own_typed (Kd.own_of_R hR) _ e1.symm
          rw [hc] at hit2
          cases hit2
        have hit4 : (w1.setCell ⟨b, 0, none⟩ (.slice A1 n1 c1)).heap[w.heap.size]? = some (.stringIter s (pos + d.2)) := (Below.heap_setCell _ _ _ _ (by show w.heap.size ≠ b; omega)).trans hit3
        simp only [World.iterPos, hit, hit4]
        omega
    · have hnx : ∀ ty, (Instr.next (.pointer (some ⟨w.heap.size, 0, none⟩)) true ty).run Tryd.prog wr = _ := fun ty => Lib.run_next_end_at wr w.heap.size s pos ty hit hp
      go_wp2
      go_end0
      rw [runesFrom_end s fuel pos hp, List.append_nil] at hacc
      subst hacc
      exact ⟨rfl, hO, hbw, hoth⟩
end Go.Proofs.YtmcdcpejkldepaaDoor.Furn
