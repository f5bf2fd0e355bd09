/- law21: the places where a word may be parted (function 19), walked. -/
import Derived.Test.YtenhfmlkdcfbbaaDoorLev
namespace Go.Proofs.YtenhfmlkdcfbbaaDoor.PHyphenPoints
open Go.RowKit Go.Proofs.YtenhfmlkdcfbbaaDoorW.PrintWords Go.Proofs.YtenhfmlkdcfbbaaDoorW.PrintLast Go.Proofs.YtenhfmlkdcfbbaaDoorW.PrintMore
attribute [local go_sem] max2_int min2_int max_two min_two max_three min_three max_four min_four
set_option linter.unusedVariables false
set_option linter.unusedSimpArgs false
def hyphen_Set_Points.l0 : Nat → List Int → List Int → List Int → Int → Option (List Int)
 | 0, _, _, _, _ => none
 | k + 1, w, out, lv, x => if x ≤ (w.length : Int) - 3 then (if 0 ≤ x ∧ x < (lv.length : Int) ∧ out.length < 17592186044416 then (if Int.tmod (rd lv x) 2 = 1 then hyphen_Set_Points.l0 k w (out ++ [x]) lv (x + 1) else hyphen_Set_Points.l0 k w out lv (x + 1)) else none) else some out
def hyphen_Set_Points.f (k : Nat) (s : Option Cp.HS) (l : List Int) : Option (List Int) :=
 (hyphen_small.f k l).bind fun w => match s with
 | none => some []
 | some t => if w.length = 0 then some [] else (utf_Encode.f k w).bind fun e => match Trie.kfind t.2 e.1 with
  | some p => some p
  | none => if w.length < 5 then some [] else (hyphen_Set_Levels.f k (some t) l).bind fun lv => hyphen_Set_Points.l0 k w [] lv 2
def hyphen_Set_Points.OK (k : Nat) (s : Option Cp.HS) (l : List Int) : Prop :=
 hyphen_Set_Levels.OK k s l ∧ ∀ w t key e, hyphen_small.f k l = some w → s = some t → utf_Encode.f k w = some (key, e) → w.length ≤ 64 ∧ key.size ≤ 9223372036854775807 ∧ ∀ p, Trie.kfind t.2 key = some p → p.length < 17592186044416
set_option maxHeartbeats 8000000 in
set_option maxRecDepth 100000 in
theorem hyphen_Set_Points.calls (k base : Nat) (v : Value) (s : Option Cp.HS) (A1 : Option Addr) (c1 : Nat) (l1 : List Int) (r : List Int) (w : World) (hS : Cp.SetV base w v s) (hbase : base ≤ w.heap.size) (hr1 : Kd.C (Kd.int .i64) w A1 l1.length l1) (hc1 : l1.length ≤ c1) (h : hyphen_Set_Points.f k s l1 = some r) (hOK : hyphen_Set_Points.OK k s l1) :
  Calls Tryd.prog 19 #[v, .slice A1 l1.length c1] w fun e w' => ∃ v0_ : Value, e = .returned v0_ ∧ Kd.R (Kd.int .i64) 3 w' w.heap.size (fun _ => True) v0_ r ∧ Below w.heap.size w w' := by
 unfold hyphen_Set_Points.f at h
 obtain ⟨wd, hsm, h⟩ := Option.bind_eq_some_iff.mp h
 have HSM := Aside0.mk hsm
 have HR1 := Aside0.mk hr1
 have HC1 := Aside0.mk hc1
 have HBS := Aside0.mk hbase
 have HSV := Aside0.mk hS
 clear hbase
 cases s with
 | none =>
  obtain rfl : v = .pointer none := hS
  injection h with h
  subst h
  clear hsm hr1 hc1 hOK HSV
  go_enter Tryd.func19, Tryd.ntmps19
  go_wp2_with (first | ((with_reducible refine gate_callee (f := 35) rfl ?_); refine goesL_ (some 14) rfl rfl Tryd.func35 (by kernel_rfl) rfl #[.slice A1 l1.length c1] rfl (by (try simp only [List.map_toArray, List.map_cons, List.map_nil]); first | done | rfl) ?_; (with_reducible refine (hyphen_small.calls k _ _ l1 wd _ HR1.out HC1.out HSM.out).mono ?_); rintro e w3 ⟨v3, rfl, ho0, hb⟩; refine ⟨_, rfl, ?_⟩; have HBn := Aside0.mk hb; have HOn := Aside0.mk ho0; clear hb ho0; obtain ⟨Aw, cw, rfl⟩ := Kd.R_slice HOn.out))
  go_ret
  exact ⟨_, rfl, Kd.R_nil _ _ _ _ _, HBn.out⟩
 | some t =>
  obtain ⟨Sb, K, nb, mb, qb, es, rfl, hAt⟩ := hS
  by_cases hw0 : wd.length = 0
  ·have h' : (if wd.length = 0 then some [] else _) = some r := h
   rw [if_pos hw0] at h'
   injection h' with h'
   subst h'
   have k1 : ((wd.length : Int) == 0) = true := beq_iff_eq.mpr (by omega)
   have k2 : (wd.length == 0) = true := beq_iff_eq.mpr hw0
   clear h hsm hr1 hc1 hOK hAt hw0 HSV
   go_enter Tryd.func19, Tryd.ntmps19
   go_wp2_with (first | ((with_reducible refine gate_callee (f := 35) rfl ?_); refine goesL_ (some 14) rfl rfl Tryd.func35 (by kernel_rfl) rfl #[.slice A1 l1.length c1] rfl (by (try simp only [List.map_toArray, List.map_cons, List.map_nil]); first | done | rfl) ?_; (with_reducible refine (hyphen_small.calls k _ _ l1 wd _ HR1.out HC1.out HSM.out).mono ?_); rintro e w3 ⟨v3, rfl, ho0, hb⟩; refine ⟨_, rfl, ?_⟩; have HBn := Aside0.mk hb; have HOn := Aside0.mk ho0; clear hb ho0; obtain ⟨Aw, cw, rfl⟩ := Kd.R_slice HOn.out))
   go_ret
   exact ⟨_, rfl, Kd.R_nil _ _ _ _ _, HBn.out⟩
  ·have h' : (if wd.length = 0 then some [] else _) = some r := h
   rw [if_neg hw0] at h'
   clear h
   obtain ⟨⟨key, er⟩, hen, h⟩ := Option.bind_eq_some_iff.mp h'
   dsimp only at h
   have k1 : ((wd.length : Int) == 0) = false := beq_eq_false_iff_ne.mpr (by omega)
   have k2 : (wd.length == 0) = false := beq_eq_false_iff_ne.mpr hw0
   have HOK := Aside0.mk (hOK.2 wd t key er hsm rfl hen)
   have HOL := Aside0.mk hOK.1
   have HEN := Aside0.mk hen
   have HAT := Aside0.mk hAt
   have H := Aside0.mk h
   clear h h' hsm hr1 hc1 hOK hAt hw0 hen
   go_enter Tryd.func19, Tryd.ntmps19
   go_upto_region 4 with (first | ((with_reducible refine gate_callee (f := 35) rfl ?_); refine goesL_ (some 14) rfl rfl Tryd.func35 (by kernel_rfl) rfl #[.slice A1 l1.length c1] rfl (by (try simp only [List.map_toArray, List.map_cons, List.map_nil]); first | done | rfl) ?_; (with_reducible refine (hyphen_small.calls k _ _ l1 wd _ HR1.out HC1.out HSM.out).mono ?_); rintro e w3 ⟨v3, rfl, ho0, hb⟩; refine ⟨_, rfl, ?_⟩; have HBn := Aside0.mk hb; have HOn := Aside0.mk ho0; clear hb ho0; obtain ⟨Aw, cw, rfl⟩ := Kd.R_slice HOn.out))
   go_upto_region 5 with (first | ((with_reducible refine gate_callee (f := 39) rfl ?_); refine goesL_ (some 24) rfl rfl Tryd.func39 (by kernel_rfl) rfl #[.slice Aw wd.length cw] rfl (by (try simp only [List.map_toArray, List.map_cons, List.map_nil]); first | done | rfl) ?_; (with_reducible refine (utf_Encode.calls k _ _ wd key er _ (Kd.R_reads' HOn.out).2.2 (Kd.R_reads' HOn.out).2.1 HEN.out).mono ?_); rintro e w4 ⟨rfl, hb⟩; refine ⟨_, rfl, ?_⟩; have HB4 := Aside0.mk (below_step HBn.out hb); clear hb HBn HOn))
   clear k1 k2
   have hAt := HAT.out.below HB4.out
   have hs2 : w4.cell? ⟨Sb, 2, none⟩ = some (.map (some K)) := (blk_cell hAt.set 2).trans rfl
   have hkey := Trie.key_str key HOK.out.2.1
   have hlk := YtenhfmlkdcfbbaaDoorV.MapV.look_ok hAt.map (t := 50) (e := 22) (Maps.string_keyed Tryd.underlying9) Tryd.underlying50 (z := .slice none 0 0) (by kernel_rfl) key hkey
   obtain ⟨hf1, hf2⟩ := Trie.Kn.find key hAt.kn
   rw [hf1] at hlk
   cases hkf : Trie.kfind t.2 key with
   | some p =>
    have h9 := H.out
    rw [hkf] at h9
    injection h9 with h9
    subst h9
    have hrp := hf2 p hkf
    rw [hkf] at hlk
    obtain ⟨vp, hvp⟩ : ∃ vp, YtenhfmlkdcfbbaaDoorV.vget es key (.slice none 0 0) = vp := ⟨_, rfl⟩
    rw [hvp] at hrp hlk
    obtain ⟨Ap, cp, rfl⟩ := Kd.R_slice hrp
    have hlk' : (Instr.lookup 50 (.map (some K)) (.string key) true).run Tryd.prog w4 = .ok (.tuple #[.slice Ap p.length cp, .bool true]) w4 := hlk
    have HRP := Aside0.mk hrp
    have HPL := Aside0.mk (HOK.out.2.2 p hkf)
    clear hlk hf1 hf2 hkf hAt hkey hrp hvp
    go_wp2_with (first | ((with_reducible refine gate_builtin (b := .append) (xs := #[.const (.slice none 0 0), .tmp 37]) rfl ?_); at_builtin; refine Kd.R_append_rows (Kd.int .i64) (w0 := w) w.heap.size rfl (.const (.slice none 0 0)) (.tmp 37) 22 3 (.int .i64 0) 8 rfl Tryd.underlying22 info3 rfl (by decide) (by omega) (.slice none 0 0) [] p _ _ _ (fun _ => True) (fun _ => False) rfl rfl ?aO ?aR (fun _ _ h => h) (fun _ h => h.elim) ?aF ?aB ?aS ?aL ?_; (case aR => exact (Kd.R_reads' HRP.out).2.2); (case aB => exact HB4.out); (case aF => exact (fun _ _ => trivial)); (case aO => exact Kd.R_nil _ _ _ _ _); (case aS => exact HB4.out.size); (case aL => have := HPL.out; simp; omega); intro v38 w7 ho hb hg hat; have HD2 := Aside0.mk ho; have HDC := Aside0.mk hb; clear ho hb hg hat))
    go_ret
    exact ⟨_, rfl, HD2.out, HDC.out⟩
   | none =>
    have h9 := H.out
    rw [hkf] at h9
    rw [hkf] at hlk
    obtain ⟨vp, hvp⟩ : ∃ vp, YtenhfmlkdcfbbaaDoorV.vget es key (.slice none 0 0) = vp := ⟨_, rfl⟩
    rw [hvp] at hlk
    have hlk' : (Instr.lookup 50 (.map (some K)) (.string key) true).run Tryd.prog w4 = .ok (.tuple #[vp, .bool false]) w4 := hlk
    clear hlk hf1 hf2 hkf hAt hkey hvp H
    by_cases h5 : wd.length < 5
    ·have h8 : (if wd.length < 5 then some [] else _) = some r := h9
     rw [if_pos h5] at h8
     injection h8 with h8
     subst h8
     have k1 : decide ((wd.length : Int) < 5) = true := decide_eq_true (by omega)
     have k2 : decide (wd.length < 5) = true := decide_eq_true h5
     clear h9 h5
     go_wp2
     go_ret
     exact ⟨_, rfl, Kd.R_nil _ _ _ _ _, HB4.out⟩
    ·have h8 : (if wd.length < 5 then some [] else _) = some r := h9
     rw [if_neg h5] at h8
     obtain ⟨lv, hlv, h7⟩ := Option.bind_eq_some_iff.mp h8
     have k1 : decide ((wd.length : Int) < 5) = false := decide_eq_false (by omega)
     have k2 : decide (wd.length < 5) = false := decide_eq_false h5
     have HLV := Aside0.mk hlv
     have H' := Aside0.mk h7
     have HW3 := Aside0.mk (show IntKind.i64.wrap ((wd.length : Int) - 3) = (wd.length : Int) - 3 by rw [IntKind.wrap_i64]; have := HOK.out.1; omega)
     have HR4 := Aside0.mk (Kd.C_below HR1.out HB4.out)
     clear h9 h8 h7 hlv h5
     go_wp2_with (first | ((with_reducible refine gate_callee (f := 17) rfl ?_); refine goesL_ (some 44) rfl rfl Tryd.func17 (by kernel_rfl) rfl #[.pointer (some ⟨Sb, 0, none⟩), .slice A1 l1.length c1] rfl (by (try simp only [List.map_toArray, List.map_cons, List.map_nil]); first | done | rfl) ?_; (with_reducible refine (hyphen_Set_Levels.calls k base _ (some t) _ _ l1 lv _ (HSV.out.below HB4.out) HR4.out HC1.out HLV.out HOL.out).mono ?_); rintro e w5 ⟨v44, rfl, ho0, hb⟩; refine ⟨_, rfl, ?_⟩; have HL := Aside0.mk (Kd.R_lower ho0 HB4.out.size); have HB5 := Aside0.mk (below_step HB4.out hb); clear ho0 hb HB4 HR4; obtain ⟨Al, cl, rfl⟩ := Kd.R_slice HL.out))
     clear k1 k2 hs2 hlk'
     go_loopg [10, 12] k (fun kq v10 v12 w' => ∃ (x10 : List Int) (x12 : Int), v12 = .int .i64 x12 ∧ Aside0 (hyphen_Set_Points.l0 kq wd x10 lv x12 = some r) ∧ Aside0 (kq ≤ k) ∧ Aside0 (Kd.R (Kd.int .i64) 3 w' w.heap.size (fun _ => True) v10 x10) ∧ Aside0 (Kd.R (Kd.int .i64) 3 w' w.heap.size (fun k_ => some k_ ≠ (v10 : Value).ownBlock) (.slice Al lv.length cl) lv) ∧ Aside0 (Below w.heap.size w w'))
     case atStart => exact ⟨[], 2, rfl, H', ⟨Nat.le_refl _⟩, ⟨Kd.R_nil _ _ _ _ _⟩, ⟨Kd.R_mono HL.out (fun _ _ => by simp [Value.ownBlock])⟩, HB5⟩
     case round =>
      clear H' HL HB5
      obtain ⟨x10, x12, rfl, HA, HK2, HP, HL, HB⟩ := hrel
      cases gk with
      | zero => exact absurd HA.out (by simp [hyphen_Set_Points.l0])
      | succ k2 =>
       have H := HA.out
       clear HA
       rw [hyphen_Set_Points.l0] at H
       have hw3 := HW3.out
       by_cases c17 : x12 ≤ (wd.length : Int) - 3
       ·rw [if_pos c17] at H
        have kd1 : decide (x12 ≤ (wd.length : Int) - 3) = true := decide_eq_true c17
        by_cases c18 : 0 ≤ x12 ∧ x12 < (lv.length : Int) ∧ x10.length < 17592186044416
        ·rw [if_pos c18] at H
         obtain ⟨c19, c20, c21⟩ := c18
         have LM := Aside0.mk c21
         have kc6 : IntKind.i64.wrap (x12 + 1) = x12 + 1 := by rw [IntKind.wrap_i64]; have := HOK.out.1; omega
         obtain ⟨ad, e1, hx⟩ := Kd.at_int (Kd.R_reads' HL.out).2.2 x12 c19 c20
         cases e1
         have p168 := eq_true c19
         have q168 := eq_true c20
         clear c17 c19 c20 c21
         by_cases c22 : Int.tmod (rd lv x12) 2 = 1
         ·rw [if_pos c22] at H
          have kd2 : (Int.tmod (rd lv x12) 2 == 1) = true := beq_iff_eq.mpr c22
          have H' := Aside0.mk H
          clear H c22
          go_wp2_with (first | ((with_reducible refine gate_builtin (b := .append) (xs := #[.tmp 58, .tmp 60]) rfl ?_); at_builtin; refine Kd.R_append (Kd.int .i64) (w0 := w) w.heap.size rfl (.tmp 58) (.tmp 60) 22 3 (.int .i64 0) 8 rfl Tryd.underlying22 info3 rfl (by decide) (by omega) u10 x10 x12 [.int .i64 x12] (fun _ => True) (fun _ => False) rfl rfl ?aP (fun _ hk => hk.elim) ?aF ?aO ?aB ?aS ?aL ?_; (case aP => exact rfl); (case aB => exact HB.out); (case aF => exact (fun _ _ => trivial)); (case aO => exact HP.out); (case aS => exact HB.out.size); (case aL => have := LM.out; omega); intro v1 w1 ho hb1 hg hat; have HPo := Aside0.mk ho; have HBo := Aside0.mk hb1; have HGo := Aside0.mk hg; have HTo := Aside0.mk hat; clear ho hb1 hg hat))
          go_roundg k2
          case measure => omega
          case rel =>
           refine ⟨x10 ++ [x12], x12 + 1, rfl, H', ⟨by have := HK2.out; omega⟩, HPo, ⟨?_⟩, HBo⟩
           refine Kd.R_mono (Kd.R_grown (Kd.R_bound HL.out) HGo.out (fun k hk => hk.1)) (fun k hk => ?_)
           rcases HTo.out with e | ⟨b, e, hb⟩
           ·rw [e]
            exact hk.1
           ·rw [e]
            intro e2
            injection e2 with e2
            have := hk.2.2.1
            omega
         ·rw [if_neg c22] at H
          have kd2 : (Int.tmod (rd lv x12) 2 == 1) = false := beq_eq_false_iff_ne.mpr c22
          have H' := Aside0.mk H
          clear H c22
          go_wp2
          go_roundg k2
          case measure => omega
          case rel => exact ⟨x10, x12 + 1, rfl, H', ⟨by have := HK2.out; omega⟩, HP, HL, HB⟩
        ·rw [if_neg c18] at H
         cases H
       ·rw [if_neg c17] at H
        have kd1 : decide (x12 ≤ (wd.length : Int) - 3) = false := decide_eq_false c17
        injection H with H
        subst H
        clear c17
        go_wp2
        go_ret
        exact ⟨_, rfl, HP.out, HB.out⟩
end Go.Proofs.YtenhfmlkdcfbbaaDoor.PHyphenPoints
