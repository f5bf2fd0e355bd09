/- furnish.Expand's second function literal: what a piece of a template says is put behind the row in the captured variable. -/
import Derived.Test.YtmcdcpejkldepaaDoorFurnA
import Derived.Test.YtmcdcpejkldepaaDoorItoa
import Derived.Lib.ItoaLen
import Derived.Deep.RegionWith
namespace Go.Proofs.YtmcdcpejkldepaaDoor.Furn
open Go.RowKit Go.Proofs.YtmcdcpejkldepaaDoorW.PrintWords Go.Proofs.YtmcdcpejkldepaaDoorW.PrintLast Go.Proofs.YtmcdcpejkldepaaDoorW.PrintMore
set_option linter.unusedVariables false
set_option linter.unusedSimpArgs false
/-- What the function literals of Expand have captured: w0 is the world ahead of 'var out'. -/
structure Env (w0 : World) (b ba bp bq bt : Nat) (page pages : Int) (A : Option Addr) (c : Nat) (title : List Int) (w : World) : Prop where
  low : w0.heap.size ≤ b
  below : Below b w0 w
  add : w.heap[ba]? = some (.cells #[.func (.func 24) #[] #[.pointer (some ⟨b, 0, none⟩)]] 51 (0, 0))
  pageB : w0.heap[bp]? = some (.cells #[.int .i64 page] 3 (0, 0))
  pagesB : w0.heap[bq]? = some (.cells #[.int .i64 pages] 3 (0, 0))
  titleB : w0.heap[bt]? = some (.cells #[.slice A title.length c] 22 (0, 0))
  row : Kd.C (Kd.int .i64) w0 A title.length title
  tabs : Itoa.Tabs w0
theorem kept_of_below {e : TypeId} {b : Option Nat} {w w' : World} (hb : Below w.heap.size w w') : Lib.OthersKept e b w w' := fun k o hk _ _ => (hb.block k (Array.getElem?_eq_some_iff.1 hk).1).trans hk
theorem below_lower {B C : Nat} {w w' : World} (h : C ≤ B) (hb : Below B w w') : Below C w w' := ⟨hb.os, hb.tape, hb.output, hb.size, fun k hk => hb.block k (Nat.lt_of_lt_of_le hk h)⟩
section
variable {w0 : World} {b ba bp bq bt : Nat} {page pages : Int} {A : Option Addr} {c : Nat} {title : List Int} {w : World}
theorem Env.old (h : Env w0 b ba bp bq bt page pages A c title w) {k : Nat} {o : Obj} (hk : w0.heap[k]? = some o) : w.heap[k]? = some o :=
  (h.below.block k (Nat.lt_of_lt_of_le (Array.getElem?_eq_some_iff.1 hk).1 h.low)).trans hk
theorem Env.rowNow (h : Env w0 b ba bp bq bt page pages A c title w) : Kd.C (Kd.int .i64) w A title.length title := Kd.C_below h.row (below_lower h.low h.below)
theorem Env.step (h : Env w0 b ba bp bq bt page pages A c title w) {w' : World} (hne : ba ≠ b) (hb : Below b w w') (ho : Lib.OthersKept 3 (some b) w w') : Env w0 b ba bp bq bt page pages A c title w' :=
  ⟨h.low, h.below.trans hb, ho ba _ h.add (fun e1 => hne (Option.some.inj e1)) (fun cs fz e1 => by cases e1), h.pageB, h.pagesB, h.titleB, h.row, h.tabs⟩
theorem Env.tabsNow (h : Env w0 b ba bp bq bt page pages A c title w) : Itoa.Tabs w := Itoa.Tabs.below h.tabs (below_lower h.low h.below)
end
/-- What a piece says. -/
def said (page pages : Int) (title : List Int) (p : ByteArray) : List Int :=
  if p.toList = [123, 123] then [123]
  else if p.toList = [123, 112, 97, 103, 101, 125] then runes ⟨(Lib.itoa page).toArray⟩
  else if p.toList = [123, 112, 97, 103, 101, 115, 125] then runes ⟨(Lib.itoa pages).toArray⟩
  else if p.toList = [123, 116, 105, 116, 108, 101, 125] then title
  else runes p
section
variable {w0 : World} {b ba bp bq bt : Nat} {page pages : Int} {A : Option Addr} {c : Nat} {title : List Int} {w : World}
set_option maxHeartbeats 4000000 in
set_option maxRecDepth 100000 in
theorem piece_calls (E : Env w0 b ba bp bq bt page pages A c title w) (xs : List Int) (hO : Out b xs w) (p : ByteArray) (hne : ba ≠ b)
    (hpg : -9223372036854775808 ≤ page ∧ page ≤ 9223372036854775807) (hps : -9223372036854775808 ≤ pages ∧ pages ≤ 9223372036854775807)
    (hlen : xs.length + title.length + p.size + 30 < 17592186044416) :
    Calls Tryd.prog 25 #[.string p, .pointer (some ⟨ba, 0, none⟩), .pointer (some ⟨bp, 0, none⟩), .pointer (some ⟨bq, 0, none⟩), .pointer (some ⟨b, 0, none⟩), .pointer (some ⟨bt, 0, none⟩)] w fun e w' =>
      e = .returned (.tuple #[]) ∧ Out b (xs ++ said page pages title p) w' ∧ Below b w w' ∧ Lib.OthersKept 3 (some b) w w' := by
  have cA := cell_of_one E.add
  have cP := cell_of_one (E.old E.pageB)
  have cQ := cell_of_one (E.old E.pagesB)
  have cT := cell_of_one (E.old E.titleB)
  have HE := Aside0.mk E
  have HO := Aside0.mk hO
  have HL := Aside0.mk hlen
  have HP := Aside0.mk hpg
  have HQ := Aside0.mk hps
  have HN := Aside0.mk hne
  clear E hO hlen hpg hps hne
  by_cases h1 : p.toList = [123, 123]
  · have hs : Aside0 (said page pages title p = runes ⟨#[123]⟩) := ⟨by unfold said; rw [if_pos h1]; decide +kernel⟩
    have h1b : (p.toList == [123, 123]) = true := by rw [h1]; rfl
    go_enter Tryd.func25, Tryd.ntmps25
    go_wp2_with (go_at_call 24; refine (add_calls b ⟨#[123]⟩ xs _ HO.out ?_).mono ?_; (have := HL.out; show xs.length + 1 < _; omega); rintro e w1 ⟨rfl, hO1, hb1, ho1⟩; have HO1 := Aside0.mk hO1; have HB1 := Aside0.mk hb1; have HH1 := Aside0.mk ho1; clear hO1 hb1 ho1)
    go_end0
    rw [hs.out]
    exact ⟨rfl, HO1.out, HB1.out, HH1.out⟩
  · have h1b : (p.toList == [123, 123]) = false := beq_eq_false_iff_ne.mpr h1
    by_cases h2 : p.toList = [123, 112, 97, 103, 101, 125]
    · have hs : Aside0 (said page pages title p = runes ⟨(Lib.itoa page).toArray⟩) := ⟨by unfold said; rw [if_neg h1, if_pos h2]⟩
      have h2b : (p.toList == [123, 112, 97, 103, 101, 125]) = true := by rw [h2]; rfl
      have hl : Aside0 (xs.length + (⟨(Lib.itoa page).toArray⟩ : ByteArray).size < 17592186044416) := ⟨by
        have h3 := Lib.itoa_length_le page HP.out.1 HP.out.2
        have h4 := HL.out
        show xs.length + (Lib.itoa page).length < _
        omega⟩
      go_enter Tryd.func25, Tryd.ntmps25
      go_wp2
      go_region_with (first | (go_at_call 26; refine (Itoa.calls page HP.out _ ?_).mono ?_; exact HE.out.tabsNow; rintro e w1 ⟨rfl, hb1⟩; have cA1 := (hb1.cell (World.block_lt_of_cell? w _ cA)).trans cA; have HB1 : Aside0 (Below w.heap.size w w1) := ⟨Below.trans (below_drew (Below.refl w.heap.size w)) hb1⟩; clear hb1) | (go_at_call 24; (refine (add_calls b ⟨(Lib.itoa page).toArray⟩ xs _ ?_ ?_).mono ?_; exact HO.out.below HB1.out; exact hl.out; rintro e w2 ⟨rfl, hO1, hb2, ho2⟩; have HO2 := Aside0.mk hO1; have HB2 := Aside0.mk hb2; have HH2 := Aside0.mk ho2; clear hO1 hb2 ho2)))
      all_goals go_wp2
      all_goals go_end0
      all_goals rw [hs.out]
      all_goals exact ⟨rfl, HO2.out, Below.trans (below_lower (Nat.le_of_lt HO.out.lt) HB1.out) HB2.out, Lib.OthersKept.trans (kept_of_below HB1.out) HH2.out⟩
    · have h2b : (p.toList == [123, 112, 97, 103, 101, 125]) = false := beq_eq_false_iff_ne.mpr h2
      by_cases h3 : p.toList = [123, 112, 97, 103, 101, 115, 125]
      · have hs : Aside0 (said page pages title p = runes ⟨(Lib.itoa pages).toArray⟩) := ⟨by unfold said; rw [if_neg h1, if_neg h2, if_pos h3]⟩
        have h3b : (p.toList == [123, 112, 97, 103, 101, 115, 125]) = true := by rw [h3]; rfl
        have hl : Aside0 (xs.length + (⟨(Lib.itoa pages).toArray⟩ : ByteArray).size < 17592186044416) := ⟨by
          have h3 := Lib.itoa_length_le pages HQ.out.1 HQ.out.2
          have h4 := HL.out
          show xs.length + (Lib.itoa pages).length < _
          omega⟩
        go_enter Tryd.func25, Tryd.ntmps25
        go_wp2
        go_region_with (first | (go_at_call 26; refine (Itoa.calls pages HQ.out _ ?_).mono ?_; exact HE.out.tabsNow; rintro e w1 ⟨rfl, hb1⟩; have cA1 := (hb1.cell (World.block_lt_of_cell? w _ cA)).trans cA; have HB1 : Aside0 (Below w.heap.size w w1) := ⟨Below.trans (below_drew (Below.refl w.heap.size w)) hb1⟩; clear hb1) | (go_at_call 24; (refine (add_calls b ⟨(Lib.itoa pages).toArray⟩ xs _ ?_ ?_).mono ?_; exact HO.out.below HB1.out; exact hl.out; rintro e w2 ⟨rfl, hO1, hb2, ho2⟩; have HO2 := Aside0.mk hO1; have HB2 := Aside0.mk hb2; have HH2 := Aside0.mk ho2; clear hO1 hb2 ho2)))
        all_goals go_wp2
        all_goals go_end0
        all_goals rw [hs.out]
        all_goals exact ⟨rfl, HO2.out, Below.trans (below_lower (Nat.le_of_lt HO.out.lt) HB1.out) HB2.out, Lib.OthersKept.trans (kept_of_below HB1.out) HH2.out⟩
      · have h3b : (p.toList == [123, 112, 97, 103, 101, 115, 125]) = false := beq_eq_false_iff_ne.mpr h3
        by_cases h4 : p.toList = [123, 116, 105, 116, 108, 101, 125]
        · have hs : Aside0 (said page pages title p = title) := ⟨by unfold said; rw [if_neg h1, if_neg h2, if_neg h3, if_pos h4]⟩
          have h4b : (p.toList == [123, 116, 105, 116, 108, 101, 125]) = true := by rw [h4]; rfl
          have hl : Aside0 ((xs.length + title.length) * 8 ≤ 140737488355328) := ⟨by have := HL.out; omega⟩
          have HLT := Aside0.mk HO.out.lt
          obtain ⟨v, hv, hR⟩ := HO.out
          have cW := cell_of_one hv
          have fW := free_of_one hv
          have Hv := Aside0.mk hv
          have HR := Aside0.mk hR
          have HNE : Aside0 (some b ≠ v.ownBlock) := ⟨fun e1 => hR.1 b e1.symm rfl⟩
          have HRow := Aside0.mk HE.out.rowNow
          clear hv hR
          go_enter Tryd.func25, Tryd.ntmps25
          go_wp2_with ((with_reducible refine gate_builtin (b := .append) (xs := #[.tmp 29, .tmp 30]) rfl ?_); at_builtin; refine Kd.R_append_rows (Kd.int .i64) (w0 := w) b rfl (.tmp 29) (.tmp 30) 22 3 (.int .i64 0) 8 rfl Tryd.underlying22 info3 rfl (by decide) (by omega) v xs title _ _ _ (fun k => k ≠ b) (fun _ => False) rfl rfl ?aO ?aR (fun _ _ h => h) (fun _ h => h.elim) ?aF ?aB ?aS ?aL ?_; (case aR => exact HRow.out); (case aB => exact Below.refl _ _); (case aF => exact (fun k hk => Nat.ne_of_gt (Nat.lt_of_lt_of_le HLT.out hk))); (case aO => exact HR.out); (case aS => exact Nat.le_of_lt HLT.out); (case aL => exact hl.out); intro v1 w1 ho hb1 hg hat; obtain ⟨A1, n1, c1, rfl⟩ := R_shape ho; have hv1 := Aside0.mk ((hg.block b HLT.out HNE.out).trans Hv.out); have cW1 := cell_of_one hv1.out; have fW1 := free_of_one hv1.out; have Hho := Aside0.mk ho; have Hhg := Aside0.mk hg; have Hhb1 := Aside0.mk hb1; clear ho hg hb1 hat)
          go_end0
          have hoth : Lib.OthersKept 3 (some b) w w1 := fun k o hk hkb ho => by
            refine (Hhg.out.block k (Array.getElem?_eq_some_iff.1 hk).1 (fun e1 => ?_)).trans hk
            obtain ⟨cells, hc⟩ := own_typed (Kd.own_of_R HR.out) k e1.symm
            rw [hc] at hk
            exact ho _ _ (Option.some.inj hk).symm
          rw [hs.out]
          exact ⟨rfl, ⟨_, one_setCell hv1.out, Kd.R_far Hho.out (fun k hk => hk) _⟩, Hhb1.out.setCell (Nat.le_refl _) _, hoth.setCell _ rfl _⟩
        · have hs : Aside0 (said page pages title p = runes p) := ⟨by unfold said; rw [if_neg h1, if_neg h2, if_neg h3, if_neg h4]⟩
          have h4b : (p.toList == [123, 116, 105, 116, 108, 101, 125]) = false := beq_eq_false_iff_ne.mpr h4
          go_enter Tryd.func25, Tryd.ntmps25
          go_wp2_with (go_at_call 24; refine (add_calls b p xs _ HO.out ?_).mono ?_; (have := HL.out; omega); rintro e w1 ⟨rfl, hO1, hb1, ho1⟩; have HO1 := Aside0.mk hO1; have HB1 := Aside0.mk hb1; have HH1 := Aside0.mk ho1; clear hO1 hb1 ho1)
          go_end0
          rw [hs.out]
          exact ⟨rfl, HO1.out, HB1.out, HH1.out⟩
end
end Go.Proofs.YtmcdcpejkldepaaDoor.Furn
