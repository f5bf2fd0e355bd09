/- law21: a set in memory (trie, exceptions), and what one exception does to it (function 27), walked. -/
import Derived.Test.YtenhfmlkdcfbbaaDoorPat
import Derived.Test.YtenhfmlkdcfbbaaDoorPHyphenPointsx3
namespace Go.Proofs.YtenhfmlkdcfbbaaDoor.PHyphenPoints
open Go.RowKit Go.Proofs.YtenhfmlkdcfbbaaDoorW.PrintWords Go.Proofs.YtenhfmlkdcfbbaaDoorW.PrintLast Go.Proofs.YtenhfmlkdcfbbaaDoorW.PrintMore
attribute [local go_sem] max2_int min2_int max_two min_two max_three min_three max_four min_four
set_option linter.unusedVariables false
set_option linter.unusedSimpArgs false
def Trie.Kn (base : Nat) (W : World) : List (ByteArray × Value) → List (ByteArray × List Int) → Prop
 | [], [] => True
 |(a, v) :: r, (b, p) :: s => a = b ∧ Kd.R (Kd.int .i64) 3 W base (fun _ => True) v p ∧ Trie.Kn base W r s
 | _, _ => False
theorem Trie.Kn.move {base : Nat} {W W1 : World} (hk : ∀ (k : Nat) (cells : Array Value), W.heap[k]? = some (.cells cells 3 (0, 0)) → W1.heap[k]? = W.heap[k]?) : ∀ {es : List (ByteArray × Value)} {kn : List (ByteArray × List Int)}, Trie.Kn base W es kn → Trie.Kn base W1 es kn
 | [], [], _ => trivial
 |(a, v) :: r, (b, p) :: s, h => by
  obtain ⟨h1, h2, h3⟩ := h
  refine ⟨h1, Kd.R_mono (Kd.R_move (Kd.R_bound h2) (fun k hb => ?_)) (fun _ _ => trivial), Trie.Kn.move hk h3⟩
  obtain ⟨_, _, _, q, hq, cells, hc⟩ := hb
  obtain rfl : q = 3 := by
   rcases List.mem_cons.1 hq with e | e
   ·exact e
   ·exact absurd e (by intro h9; cases h9)
  exact hk k cells hc
 | [], _ :: _, h => h.elim
 | _ :: _, [], h => h.elim
theorem Trie.Kn.move0 {base : Nat} {W W1 : World} (hk : ∀ b o, base ≤ b → W.heap[b]? = some o → Trie.Pl o → W1.heap[b]? = W.heap[b]?) : ∀ {es : List (ByteArray × Value)} {kn : List (ByteArray × List Int)}, Trie.Kn base W es kn → Trie.Kn base W1 es kn
 | [], [], _ => trivial
 |(a, v) :: r, (b, p) :: s, h => by
  obtain ⟨h1, h2, h3⟩ := h
  refine ⟨h1, Kd.R_mono (Kd.R_move (Kd.R_bound h2) (fun k hb => ?_)) (fun _ _ => trivial), Trie.Kn.move0 hk h3⟩
  obtain ⟨_, h4, _, q, hq, cells, hc⟩ := hb
  exact hk k _ h4 hc trivial
 | [], _ :: _, h => h.elim
 | _ :: _, [], h => h.elim
def Trie.kfind : List (ByteArray × List Int) → ByteArray → Option (List Int)
 | [], _ => none
 |(a, p) :: r, k => if a = k then some p else Trie.kfind r k
def Trie.kput (kn : List (ByteArray × List Int)) (k : ByteArray) (p : List Int) : List (ByteArray × List Int) := if (Trie.kfind kn k).isSome = true then kn else (k, p) :: kn
theorem Trie.Kn.find {base : Nat} {W : World} (k : ByteArray) : ∀ {es : List (ByteArray × Value)} {kn : List (ByteArray × List Int)}, Trie.Kn base W es kn →
  YtenhfmlkdcfbbaaDoorV.vhas es k = (Trie.kfind kn k).isSome ∧ ∀ p, Trie.kfind kn k = some p → Kd.R (Kd.int .i64) 3 W base (fun _ => True) (YtenhfmlkdcfbbaaDoorV.vget es k (.slice none 0 0)) p
 | [], [], _ => ⟨rfl, fun _ h => by cases h⟩
 |(a, v) :: r, (b, p) :: s, h => by
  obtain ⟨rfl, h2, h3⟩ := h
  have ih := Trie.Kn.find k h3
  unfold YtenhfmlkdcfbbaaDoorV.vhas YtenhfmlkdcfbbaaDoorV.vget Trie.kfind
  by_cases e : a = k
  ·rw [if_pos e, if_pos e, if_pos e]
   exact ⟨rfl, fun q hq => by injection hq with hq; subst hq; exact h2⟩
  ·rw [if_neg e, if_neg e, if_neg e]
   exact ih
 | [], _ :: _, h => h.elim
 | _ :: _, [], h => h.elim
structure Trie.At (base : Nat) (W : World) (Sb K : Nat) (ar : List Trie.PN) (nb mb qb : Nat → Nat) (es : List (ByteArray × Value)) (kn : List (ByteArray × List Int)) : Prop where
 set : W.heap[Sb]? = some (.cells #[.pointer (some ⟨nb 0, 0, none⟩), .int .i64 (ar.length : Int), .map (some K)] 52 (0, 0))
 tr : Trie.Tr base W ar nb mb qb
 map : YtenhfmlkdcfbbaaDoorV.MapV Tryd.prog 9 W K es
 own : ¬ Trie.Own Sb ar nb mb qb K
 kn : Trie.Kn base W es kn
 sb : base ≤ Sb
 kb : base ≤ K
theorem Trie.Kn.len {base : Nat} {W : World} : ∀ {es : List (ByteArray × Value)} {kn : List (ByteArray × List Int)}, Trie.Kn base W es kn → es.length = kn.length
 | [], [], _ => rfl
 |(a, v) :: r, (b, p) :: s, h => congrArg (· + 1) (Trie.Kn.len h.2.2)
 | [], _ :: _, h => h.elim
 | _ :: _, [], h => h.elim
section
variable {base : Nat} {W W1 : World} {Sb K : Nat} {ar : List Trie.PN} {nb mb qb : Nat → Nat} {es : List (ByteArray × Value)} {kn : List (ByteArray × List Int)}
theorem Trie.At.kept (h : Trie.At base W Sb K ar nb mb qb es kn) (hk : ∀ b o, base ≤ b → W.heap[b]? = some o → Trie.Pl o → W1.heap[b]? = W.heap[b]?) : Trie.At base W1 Sb K ar nb mb qb es kn where
 set := (hk _ _ h.sb h.set trivial).trans h.set
 tr := h.tr.kept hk
 map := by
  obtain ⟨es', clock, hm⟩ := h.map.obj
  exact h.map.of_eq (hk _ _ h.kb hm trivial)
 own := h.own
 kn := by
  exact Trie.Kn.move0 hk h.kn
 sb := h.sb
 kb := h.kb
theorem Trie.At.below (h : Trie.At base W Sb K ar nb mb qb es kn) (hb : Below W.heap.size W W1) : Trie.At base W1 Sb K ar nb mb qb es kn := h.kept (fun b o _ ho _ => hb.block b (blk_lt ho))
theorem Trie.At.put (h : Trie.At base W Sb K ar nb mb qb es kn) {es' : List (ByteArray × Value)} {kn' : List (ByteArray × List Int)} (hg : W.grownBy W1 (some K)) (hm : YtenhfmlkdcfbbaaDoorV.MapV Tryd.prog 9 W1 K es') (hk : Trie.Kn base W1 es' kn') : Trie.At base W1 Sb K ar nb mb qb es' kn' where
 set := blk_grown h.set hg (fun e => by injection e with e; exact h.map.ne h.set e.symm)
 tr := {
  low := h.tr.low
  node := fun i nd hi => blk_grown (h.tr.node i nd hi) hg (fun e => by injection e with e; exact h.map.ne (h.tr.node i nd hi) e.symm)
  inj := h.tr.inj
  kids := fun i nd l hi hl => by
   obtain ⟨h1, h2, h3⟩ := h.tr.kids i nd l hi hl
   obtain ⟨es, clock, hm2⟩ := h2.obj
   exact ⟨h1, h2.of_eq (hg.block _ (blk_lt hm2) (fun e => by injection e with e; exact h.own (e ▸ Trie.own_mb Sb nb mb qb hi (by rw [hl]; simp)))), h3⟩
  kinj := h.tr.kinj
  lev := fun i nd L hi hl => by
   obtain ⟨h1, h2⟩ := h.tr.lev i nd L hi hl
   exact ⟨h1, blk_grown h2 hg (fun e => by injection e with e; exact h.map.ne h2 e.symm)⟩
  linj := h.tr.linj }
 map := hm
 own := h.own
 kn := hk
 sb := h.sb
 kb := h.kb
end
theorem Trie.key_str (s : ByteArray) (hs : s.size ≤ 9223372036854775807) : keyOf Tryd.prog 9 (YtenhfmlkdcfbbaaDoorV.KeyLit.val s) = some (YtenhfmlkdcfbbaaDoorV.KeyLit.lit s) := by
 show keyOf Tryd.prog 9 (.string s) = some (.string s.data.toList)
 simp [keyOf, Tryd.underlying9, mapKey, maxLen, hs]
def hyphen_Set_exception.Post (base Sb K : Nat) (ar : List Trie.PN) (nb mb qb : Nat → Nat) (kn : List (ByteArray × List Int)) (r : Option (ByteArray × List Int)) (W : World) (e : Ending) (W' : World) : Prop :=
 match r with
 | none => e = .returned (.bool false) ∧ Below W.heap.size W W'
 | some (key, p) => e = .returned (.bool true) ∧ W.grownBy W' (some K) ∧ ∃ es', Trie.At base W' Sb K ar nb mb qb es' (Trie.kput kn key p)
theorem hyphen_Set_exception.Post.no {base Sb K : Nat} {ar : List Trie.PN} {nb mb qb : Nat → Nat} {kn : List (ByteArray × List Int)} {W W' : World} {e : Ending} (he : e = .returned (.bool false)) (hb : Below W.heap.size W W') : hyphen_Set_exception.Post base Sb K ar nb mb qb kn none W e W' := ⟨he, hb⟩
mutual
def hyphen_Set_exception.l0 : Nat → List Int → List Int → List Int → List Int → Int → Int → Option (Option (ByteArray × List Int))
 | 0, _, _, _, _, _, _ => none
 | k + 1, x1, x5, x6, x13, x14, x15 => if x15 < x14 then (if 0 ≤ x15 then (if x15 < (x13.length : Int) then (if (rd x13 x15) = 45 then (if x15 > 0 then (if x15 < (wrap64 ((x1.length : Int) - 1)) then (if 0 ≤ (wrap64 (x15 - 1)) then (if (wrap64 (x15 - 1)) < (x1.length : Int) then (hyphen_Set_exception.j1 k x1 x5 x6 (rd x13 x15) x13 x14 x15 ((rd x1 (wrap64 (x15 - 1))) != 45)) else (none)) else (none)) else (hyphen_Set_exception.j1 k x1 x5 x6 (rd x13 x15) x13 x14 x15 false)) else (hyphen_Set_exception.j1 k x1 x5 x6 (rd x13 x15) x13 x14 x15 false)) else (hyphen_Set_exception.j1 k x1 x5 x6 (rd x13 x15) x13 x14 x15 false)) else (none)) else (none)) else (if (x5.length : Int) > 64 then (some none) else ((utf_Encode.f k x5).bind fun bt113 => (some (some (bt113.1, x6)))))
def hyphen_Set_exception.j1 : Nat → List Int → List Int → List Int → Int → List Int → Int → Int → Bool → Option (Option (ByteArray × List Int))
 | 0, _, _, _, _, _, _, _, _ => none
 | k + 1, x1, x5, x6, x8, x13, x14, x15, x20 => if x20 = true then (if x6.length < 17592186044416 then (hyphen_Set_exception.l0 k x1 x5 (x6 ++ [(x5.length : Int)]) x13 x14 (wrap64 (x15 + 1))) else (none)) else ((hyphen_letter.f k x8).bind fun t120 => (if t120 = true then (if x5.length < 17592186044416 then (hyphen_Set_exception.l0 k x1 (x5 ++ [x8]) x6 x13 x14 (wrap64 (x15 + 1))) else (none)) else (some none)))
end
def hyphen_Set_exception.f (k : Nat) (l1 : List Int) : Option (Option (ByteArray × List Int)) := hyphen_Set_exception.l0 k l1 ([] : List Int) ([] : List Int) l1 (l1.length : Int) 0
set_option maxHeartbeats 8000000 in
set_option maxRecDepth 100000 in
theorem hyphen_Set_exception.calls (k : Nat) (A1 : Option Addr) (c1 : Nat) (l1 : List Int) (r : Option (ByteArray × List Int)) (w : World) (hr1 : Kd.C (Kd.int .i64) w A1 l1.length l1) (hc1 : l1.length ≤ c1) (h : hyphen_Set_exception.f k l1 = some r)
  (base Sb K : Nat) (ar : List Trie.PN) (nb mb qb : Nat → Nat) (es : List (ByteArray × Value)) (kn : List (ByteArray × List Int)) (hAt : Trie.At base w Sb K ar nb mb qb es kn) (hbase : base ≤ w.heap.size) (hkl : Aside0 (kn.length ≤ 1000000000000)) (hK : ∀ key p, r = some (key, p) → key.size ≤ 9223372036854775807) :
  Calls Tryd.prog 27 #[.pointer (some ⟨Sb, 0, none⟩), .slice A1 l1.length c1] w fun e w' => hyphen_Set_exception.Post base Sb K ar nb mb qb kn r w e w' := by
 have HAt := Aside0.mk hAt
 have HK := Aside0.mk hK
 clear hAt hK
 have HR1 := Aside0.mk hr1
 have HC1 := Aside0.mk hc1
 clear hr1 hc1
 have HB := Aside0.mk (Below.refl w.heap.size w)
 have H : (hyphen_Set_exception.l0 k l1 ([] : List Int) ([] : List Int) l1 (l1.length : Int) 0) = some r := h
 clear h
 have H' := Aside0.mk H
 clear H
 go_enter Tryd.func27, Tryd.ntmps27
 go_wp2
 go_loopg [5, 6, 15] k (fun kq v5 v6 v15 w' => ∃ (x5_1 : List Int) (x6_1 : List Int) (x15_1 : Int), v15 = .int .i64 x15_1 ∧ Aside0 (hyphen_Set_exception.l0 kq l1 x5_1 x6_1 l1 (l1.length : Int) x15_1 = some r) ∧ Aside0 (kq ≤ k) ∧ Aside0 (Kd.R (Kd.int .i64) 3 w' w.heap.size (fun k_ => some k_ ≠ (v6 : Value).ownBlock) v5 x5_1) ∧ Aside0 (Kd.R (Kd.int .i64) 3 w' w.heap.size (fun k_ => some k_ ≠ (v5 : Value).ownBlock) v6 x6_1) ∧ Aside0 (Below w.heap.size w w'))
 case atStart => exact ⟨(([] : List Int)), (([] : List Int)), (0), (by first | rfl | (simp; done) | (simp [*]; done)), H', ⟨Nat.le_refl _⟩, ⟨by first | exact Kd.R_nil _ _ _ _ _ | exact Kd.N_nil _ _ _ _ _ | exact Kd.V_nil _ _ _ _ _ | exact Kd.Q_nil _ _ _ _ _ | exact Kd.S_nil _ _ _ _ _⟩, ⟨by first | exact Kd.R_nil _ _ _ _ _ | exact Kd.N_nil _ _ _ _ _ | exact Kd.V_nil _ _ _ _ _ | exact Kd.Q_nil _ _ _ _ _ | exact Kd.S_nil _ _ _ _ _⟩, ⟨by repeat (first | (with_reducible first | exact HB.out | apply below_alloc | apply pw_below_drewN | apply below_drew1) | exact HB.out)⟩⟩
 case round =>
  clear H'
  obtain ⟨x5_1, x6_1, x15_1, rfl, HA, HK1, HO_5, HO_6, HB⟩ := hrel
  cases gk with
  | zero => exact absurd HA.out (by simp [hyphen_Set_exception.l0])
  | succ k1 =>
   have H := HA.out
   clear HA
   simp only [hyphen_Set_exception.l0] at H
   by_cases c3 : x15_1 < (l1.length : Int)
   ·rw [if_pos c3] at H
    have c3b0 : decide (x15_1 < (l1.length : Int)) = true := decide_eq_true c3
    clear c3
    by_cases c4 : 0 ≤ x15_1
    ·rw [if_pos c4] at H
     have c4b0 : decide (0 ≤ x15_1) = true := decide_eq_true c4
     clear c4
     by_cases c5 : x15_1 < (l1.length : Int)
     ·rw [if_pos c5] at H
      have c5b0 : decide (x15_1 < (l1.length : Int)) = true := decide_eq_true c5
      clear c5
      have HC6 := Aside0.mk H
      clear H
      have p115 : 0 ≤ (x15_1 : Int) := of_decide_eq_true (by first | (with_reducible assumption) | assumption)
      have q115 : x15_1 < (l1.length : Int) := of_decide_eq_true (by first | (with_reducible assumption) | assumption)
      obtain ⟨ad115, e115, hx115_0⟩ := Kd.at_int HR1.out x15_1 p115 q115
      cases e115
      replace hx115_0 := (HB.out.cell (World.block_lt_of_cell? w _ hx115_0)).trans hx115_0
      replace p115 := eq_true p115
      replace q115 := eq_true q115
      go_upto_region 6 with (fail)
      go_cut [20] (fun v20 wc => ∃ (kq : Nat) (x20_5 : Bool), v20 = .bool x20_5 ∧ Aside0 (hyphen_Set_exception.j1 kq l1 x5_1 x6_1 (rd l1 x15_1) l1 (l1.length : Int) x15_1 x20_5 = some r) ∧ Aside0 (kq ≤ k1) ∧ Aside0 (Kd.R (Kd.int .i64) 3 wc w.heap.size (fun k_ => some k_ ≠ (u6 : Value).ownBlock) u5 x5_1) ∧ Aside0 (Kd.R (Kd.int .i64) 3 wc w.heap.size (fun k_ => some k_ ≠ (u5 : Value).ownBlock) u6 x6_1) ∧ Aside0 (Below w.heap.size w wc))
      case first =>
       have H := HC6.out
       clear HC6
       by_cases c7 : (rd l1 x15_1) = 45
       ·rw [if_pos c7] at H
        have c7b0 : ((rd l1 x15_1) == 45) = true := beq_iff_eq.mpr c7
        have c7b1 : ((rd l1 x15_1) != 45) = false := bne_eq_false_iff_eq.mpr c7
        clear c7
        (first | rw [c7b0] | (simp only [i64_w, i32_w]; rw [c7b0]) | skip)
        by_cases c8 : x15_1 > 0
        ·rw [if_pos c8] at H
         have c8b0 : decide (0 < x15_1) = true := decide_eq_true c8
         clear c8
         by_cases c9 : x15_1 < (wrap64 ((l1.length : Int) - 1))
         ·rw [if_pos c9] at H
          have c9b0 : decide (x15_1 < (wrap64 ((l1.length : Int) - 1))) = true := decide_eq_true c9
          clear c9
          obtain ⟨ji10, hji10⟩ : ∃ j_ : Int, (wrap64 (x15_1 - 1)) = j_ := ⟨_, rfl⟩
          replace H : (if 0 ≤ (ji10) then (if (ji10) < (l1.length : Int) then (hyphen_Set_exception.j1 k1 l1 x5_1 x6_1 (rd l1 x15_1) l1 (l1.length : Int) x15_1 ((rd l1 (ji10)) != 45)) else (none)) else (none)) = some r := by first | (rw [hji10] at H; exact H) | (simp only [hji10] at H ⊢; exact H)
          have hji10w : (IntKind.i64.wrap (x15_1 - 1)) = ji10 := (i64_w _).trans hji10
          by_cases c11 : 0 ≤ (ji10)
          ·rw [if_pos c11] at H
           have c11b0 : decide (0 ≤ (ji10)) = true := decide_eq_true c11
           clear c11
           by_cases c12 : (ji10) < (l1.length : Int)
           ·rw [if_pos c12] at H
            have c12b0 : decide ((ji10) < (l1.length : Int)) = true := decide_eq_true c12
            clear c12
            have H' := Aside0.mk H
            clear H
            have p116 : 0 ≤ ((ji10) : Int) := of_decide_eq_true (by first | (with_reducible assumption) | assumption)
            have q116 : (ji10) < (l1.length : Int) := of_decide_eq_true (by first | (with_reducible assumption) | assumption)
            obtain ⟨ad116, e116, hx116_0⟩ := Kd.at_int HR1.out (ji10) p116 q116
            obtain rfl : ad115 = ad116 := (by injection e116)
            replace hx116_0 := (HB.out.cell (World.block_lt_of_cell? w _ hx116_0)).trans hx116_0
            replace p116 := eq_true p116
            replace q116 := eq_true q116
            go_wp2
            go_meet
            case rel => exact ⟨_, (((rd l1 (ji10)) != 45)), (by first | rfl | (simp; done) | (simp only [← hji10] <;> (first | rfl | simp)) | (simp [*]; done)), H', ⟨by have := HK1.out; first | omega | exact Nat.le_refl _⟩, ⟨by (with_reducible repeat (first | apply Kd.R_alloc | apply Kd.R_drewN | apply Kd.R_drew)); exact HO_5.out⟩, ⟨by (with_reducible repeat (first | apply Kd.R_alloc | apply Kd.R_drewN | apply Kd.R_drew)); exact HO_6.out⟩, ⟨by repeat (first | (with_reducible first | exact HB.out | apply below_alloc | apply pw_below_drewN | apply below_drew1) | exact HB.out)⟩⟩
           ·rw [if_neg c12] at H
            exact absurd H (by simp)
          ·rw [if_neg c11] at H
           exact absurd H (by simp)
         ·rw [if_neg c9] at H
          have c9b0 : decide (x15_1 < (wrap64 ((l1.length : Int) - 1))) = false := decide_eq_false c9
          clear c9
          have H' := Aside0.mk H
          clear H
          go_wp2
          go_meet
          case rel => exact ⟨_, (false), (by first | rfl | (simp; done) | (simp [*]; done)), H', ⟨by have := HK1.out; first | omega | exact Nat.le_refl _⟩, ⟨by (with_reducible repeat (first | apply Kd.R_alloc | apply Kd.R_drewN | apply Kd.R_drew)); exact HO_5.out⟩, ⟨by (with_reducible repeat (first | apply Kd.R_alloc | apply Kd.R_drewN | apply Kd.R_drew)); exact HO_6.out⟩, ⟨by repeat (first | (with_reducible first | exact HB.out | apply below_alloc | apply pw_below_drewN | apply below_drew1) | exact HB.out)⟩⟩
        ·rw [if_neg c8] at H
         have c8b0 : decide (0 < x15_1) = false := decide_eq_false c8
         clear c8
         have H' := Aside0.mk H
         clear H
         go_wp2
         go_meet
         case rel => exact ⟨_, (false), (by first | rfl | (simp; done) | (simp [*]; done)), H', ⟨by have := HK1.out; first | omega | exact Nat.le_refl _⟩, ⟨by (with_reducible repeat (first | apply Kd.R_alloc | apply Kd.R_drewN | apply Kd.R_drew)); exact HO_5.out⟩, ⟨by (with_reducible repeat (first | apply Kd.R_alloc | apply Kd.R_drewN | apply Kd.R_drew)); exact HO_6.out⟩, ⟨by repeat (first | (with_reducible first | exact HB.out | apply below_alloc | apply pw_below_drewN | apply below_drew1) | exact HB.out)⟩⟩
       ·rw [if_neg c7] at H
        have c7b0 : ((rd l1 x15_1) == 45) = false := beq_eq_false_iff_ne.mpr c7
        have c7b1 : ((rd l1 x15_1) != 45) = true := bne_iff_ne.mpr c7
        (first | rw [c7b0] | (simp only [i64_w, i32_w]; rw [c7b0]) | skip)
        have H' := Aside0.mk H
        clear H
        go_wp2
        go_meet
        case rel => exact ⟨_, (false), (by first | rfl | (simp; done) | (simp [*]; done)), H', ⟨by have := HK1.out; first | omega | exact Nat.le_refl _⟩, ⟨by (with_reducible repeat (first | apply Kd.R_alloc | apply Kd.R_drewN | apply Kd.R_drew)); exact HO_5.out⟩, ⟨by (with_reducible repeat (first | apply Kd.R_alloc | apply Kd.R_drewN | apply Kd.R_drew)); exact HO_6.out⟩, ⟨by repeat (first | (with_reducible first | exact HB.out | apply below_alloc | apply pw_below_drewN | apply below_drew1) | exact HB.out)⟩⟩
      case rest =>
       clear HC6
       obtain ⟨kq, x20_5, rfl, HA, HJ5, HO_5, HO_6, HB⟩ := hcut
       cases kq with
       | zero => exact absurd HA.out (by simp [hyphen_Set_exception.j1])
       | succ kj5 =>
        have H := HA.out
        clear HA
        simp only [hyphen_Set_exception.j1] at H
        by_cases c13 : x20_5 = true
        ·subst c13
         have H1 : (if x6_1.length < 17592186044416 then (hyphen_Set_exception.l0 kj5 l1 x5_1 (x6_1 ++ [(x5_1.length : Int)]) l1 (l1.length : Int) (wrap64 (x15_1 + 1))) else (none)) = some r := by rw [if_pos rfl] at H; exact H
         clear H
         have H := H1
         clear H1
         by_cases c14 : x6_1.length < 17592186044416
         ·rw [if_pos c14] at H
          have LMc14 := Aside0.mk c14
          clear c14
          obtain ⟨y117, hy117⟩ : ∃ y_ : List Int, y_ = (x6_1 ++ [(x5_1.length : Int)]) := ⟨_, rfl⟩
          replace H : (hyphen_Set_exception.l0 kj5 l1 x5_1 y117 l1 (l1.length : Int) (wrap64 (x15_1 + 1))) = some r := by first | (rw [hy117]; with_reducible exact H) | (have H2_ := (Option.bind_some _ _).symm.trans H; rw [hy117]; with_reducible exact H2_) | (have H2_ := (Option.bind_some _ _).symm.trans H; with_reducible exact H2_) | with_reducible exact H | (rw [hy117]; exact H) | exact H
          have Ny117 := Aside0.mk hy117
          clear hy117
          have H' := Aside0.mk H
          clear H
          obtain ⟨Ao15, co15, eo15⟩ := Kd.R_slice HO_5.out
          subst eo15
          go_wp2_with (first | ((with_reducible refine gate_builtin (b := .append) (xs := #[.tmp 42, .tmp 45]) rfl ?_); (try (refine gate_guard (by rfl) ?_; dsimp only)); at_builtin; refine Kd.R_append (Kd.int .i64) (w0 := w) w.heap.size rfl (.tmp 42) (.tmp 45) 22 3 (.int .i64 0) 8 rfl Tryd.underlying22 info3 rfl (by decide) (by omega) u6 x6_1 (x5_1.length : Int) [.int .i64 (x5_1.length : Int)] (fun k_ => some k_ ≠ (.slice Ao15 x5_1.length co15 : Value).ownBlock) (fun _ => False) rfl rfl ?aP (fun _ hk => hk.elim) ?aF ?aO ?aB ?aS ?aL ?_; (case aP => exact rfl); (case aB => exact (by repeat (first | (with_reducible first | exact HB.out | apply below_alloc | apply pw_below_drewN | apply below_drew1) | exact HB.out))); (case aF => exact (fun k_ hk => Kd.fresh' (Kd.R_lt (by (with_reducible repeat (first | apply Kd.R_alloc | apply Kd.R_drewN | apply Kd.R_drew)); exact HO_5.out)) k_ hk)); (case aO => exact (by (with_reducible repeat (first | apply Kd.R_alloc | apply Kd.R_drewN | apply Kd.R_drew)); exact HO_6.out)); (case aS => exact (below_size (by repeat (first | (with_reducible first | exact HB.out | apply below_alloc | apply pw_below_drewN | apply below_drew1) | exact HB.out)))); (case aL => have := LMc14.out; omega); intro v118 w16 ho hb hg hat; rw [← Ny117.out] at ho; have n0_ := Aside0.mk (Kd.R_after (ok := (fun _ => True)) (by (with_reducible repeat (first | apply Kd.R_alloc | apply Kd.R_drewN | apply Kd.R_drew)); exact Kd.R_mono HO_5.out (fun _ hk => ⟨trivial, hk⟩)) hg hat); have n1_ := Aside0.mk (hb); have n2_ := Aside0.mk (ho); clear HO_5; clear HB; clear HO_6; have HO_5 := n0_; have HB := n1_; have HO119 := n2_; clear n0_ n1_ n2_; clear ho hb hg hat))
          go_roundg kj5
          case measure => have := HK1.out; have := HJ5.out; omega
          case rel => exact ⟨(x5_1), (y117), (wrap64 (x15_1 + 1)), (by first | rfl | (simp; done) | (simp [*]; done)), H', ⟨by have := HK1.out; have := HJ5.out; omega⟩, ⟨by (with_reducible repeat (first | apply Kd.R_alloc | apply Kd.R_drewN | apply Kd.R_drew)); exact Kd.R_mono HO_5.out (fun _ hk => hk.2)⟩, ⟨by (with_reducible repeat (first | apply Kd.R_alloc | apply Kd.R_drewN | apply Kd.R_drew)); exact HO119.out⟩, ⟨by repeat (first | (with_reducible first | exact HB.out | apply below_alloc | apply pw_below_drewN | apply below_drew1) | exact HB.out)⟩⟩
         ·rw [if_neg c14] at H
          exact absurd H (by simp)
        ·replace c13 := Bool.eq_false_iff.mpr c13
         subst c13
         have H1 : ((hyphen_letter.f kj5 (rd l1 x15_1)).bind fun t120 => (if t120 = true then (if x5_1.length < 17592186044416 then (hyphen_Set_exception.l0 kj5 l1 (x5_1 ++ [(rd l1 x15_1)]) x6_1 l1 (l1.length : Int) (wrap64 (x15_1 + 1))) else (none)) else (some none))) = some r := by rw [if_neg (show ¬ (false = true) by decide)] at H; exact H
         clear H
         have H := H1
         clear H1
         replace H := Option.bind_eq_some_iff.mp H
         obtain ⟨t120, A170, H⟩ := H
         replace H : (if t120 = true then (if x5_1.length < 17592186044416 then (hyphen_Set_exception.l0 kj5 l1 (x5_1 ++ [(rd l1 x15_1)]) x6_1 l1 (l1.length : Int) (wrap64 (x15_1 + 1))) else (none)) else (some none)) = some r := H
         have A17 := Aside0.mk A170
         clear A170
         by_cases c18 : t120 = true
         ·subst c18
          have H1 : (if x5_1.length < 17592186044416 then (hyphen_Set_exception.l0 kj5 l1 (x5_1 ++ [(rd l1 x15_1)]) x6_1 l1 (l1.length : Int) (wrap64 (x15_1 + 1))) else (none)) = some r := by rw [if_pos rfl] at H; exact H
          clear H
          have H := H1
          clear H1
          by_cases c19 : x5_1.length < 17592186044416
          ·rw [if_pos c19] at H
           have LMc19 := Aside0.mk c19
           clear c19
           obtain ⟨y121, hy121⟩ : ∃ y_ : List Int, y_ = (x5_1 ++ [(rd l1 x15_1)]) := ⟨_, rfl⟩
           replace H : (hyphen_Set_exception.l0 kj5 l1 y121 x6_1 l1 (l1.length : Int) (wrap64 (x15_1 + 1))) = some r := by first | (rw [hy121]; with_reducible exact H) | (have H2_ := (Option.bind_some _ _).symm.trans H; rw [hy121]; with_reducible exact H2_) | (have H2_ := (Option.bind_some _ _).symm.trans H; with_reducible exact H2_) | with_reducible exact H | (rw [hy121]; exact H) | exact H
           have Ny121 := Aside0.mk hy121
           clear hy121
           have H' := Aside0.mk H
           clear H
           go_wp2_with (first | ((with_reducible refine gate_callee (f := 44) rfl ?_); refine goesL_ (some 49) rfl rfl Tryd.func44 (by kernel_rfl) rfl #[.int .i64 (rd l1 x15_1)] rfl (by (try simp only [List.map_toArray, List.map_cons, List.map_nil]); first | done | rfl | (simp only [List.length_drop, List.length_take]; rfl)) ?_; (with_reducible refine (hyphen_letter.calls kj5 (rd l1 x15_1) true _ A17.out).mono ?_); rintro e w' ⟨rfl, ⟨nd, rfl⟩⟩; refine ⟨_, rfl, ?_⟩) | ((with_reducible refine gate_builtin (b := .append) (xs := #[.tmp 50, .tmp 52]) rfl ?_); (try (refine gate_guard (by rfl) ?_; dsimp only)); at_builtin; refine Kd.R_append (Kd.int .i64) (w0 := w) w.heap.size rfl (.tmp 50) (.tmp 52) 22 3 (.int .i64 0) 8 rfl Tryd.underlying22 info3 rfl (by decide) (by omega) u5 x5_1 (rd l1 x15_1) [.int .i64 (rd l1 x15_1)] (fun k_ => some k_ ≠ (u6 : Value).ownBlock) (fun _ => False) rfl rfl ?aP (fun _ hk => hk.elim) ?aF ?aO ?aB ?aS ?aL ?_; (case aP => exact rfl); (case aB => exact (by repeat (first | (with_reducible first | exact HB.out | apply below_alloc | apply pw_below_drewN | apply below_drew1) | exact HB.out))); (case aF => exact (fun k_ hk => Kd.fresh' (Kd.R_lt (by (with_reducible repeat (first | apply Kd.R_alloc | apply Kd.R_drewN | apply Kd.R_drew)); exact HO_6.out)) k_ hk)); (case aO => exact (by (with_reducible repeat (first | apply Kd.R_alloc | apply Kd.R_drewN | apply Kd.R_drew)); exact HO_5.out)); (case aS => exact (below_size (by repeat (first | (with_reducible first | exact HB.out | apply below_alloc | apply pw_below_drewN | apply below_drew1) | exact HB.out)))); (case aL => have := LMc19.out; omega); intro v122 w20 ho hb hg hat; rw [← Ny121.out] at ho; have n0_ := Aside0.mk (Kd.R_after (ok := (fun _ => True)) (by (with_reducible repeat (first | apply Kd.R_alloc | apply Kd.R_drewN | apply Kd.R_drew)); exact Kd.R_mono HO_6.out (fun _ hk => ⟨trivial, hk⟩)) hg hat); have n1_ := Aside0.mk (hb); have n2_ := Aside0.mk (ho); clear HO_6; clear HB; clear HO_5; have HO_6 := n0_; have HB := n1_; have HO123 := n2_; clear n0_ n1_ n2_; clear ho hb hg hat))
           go_roundg kj5
           case measure => have := HK1.out; have := HJ5.out; omega
           case rel => exact ⟨(y121), (x6_1), (wrap64 (x15_1 + 1)), (by first | rfl | (simp; done) | (simp [*]; done)), H', ⟨by have := HK1.out; have := HJ5.out; omega⟩, ⟨by (with_reducible repeat (first | apply Kd.R_alloc | apply Kd.R_drewN | apply Kd.R_drew)); exact HO123.out⟩, ⟨by (with_reducible repeat (first | apply Kd.R_alloc | apply Kd.R_drewN | apply Kd.R_drew)); exact Kd.R_mono HO_6.out (fun _ hk => hk.2)⟩, ⟨by repeat (first | (with_reducible first | exact HB.out | apply below_alloc | apply pw_below_drewN | apply below_drew1) | exact HB.out)⟩⟩
          ·rw [if_neg c19] at H
           exact absurd H (by simp)
         ·replace c18 := Bool.eq_false_iff.mpr c18
          subst c18
          have H1 : (some none) = some r := by rw [if_neg (show ¬ (false = true) by decide)] at H; exact H
          clear H
          have H := H1
          clear H1
          obtain rfl := Option.some.inj H
          go_wp2_with (first | ((with_reducible refine gate_callee (f := 44) rfl ?_); refine goesL_ (some 49) rfl rfl Tryd.func44 (by kernel_rfl) rfl #[.int .i64 (rd l1 x15_1)] rfl (by (try simp only [List.map_toArray, List.map_cons, List.map_nil]); first | done | rfl | (simp only [List.length_drop, List.length_take]; rfl)) ?_; (with_reducible refine (hyphen_letter.calls kj5 (rd l1 x15_1) false _ A17.out).mono ?_); rintro e w' ⟨rfl, ⟨nd, rfl⟩⟩; refine ⟨_, rfl, ?_⟩))
          go_ret
          exact hyphen_Set_exception.Post.no rfl (by repeat (first | (with_reducible first | exact HB.out | apply below_alloc | apply pw_below_drewN | apply below_drew1) | exact HB.out))
     ·rw [if_neg c5] at H
      exact absurd H (by simp)
    ·rw [if_neg c4] at H
     exact absurd H (by simp)
   ·rw [if_neg c3] at H
    have c3b0 : decide (x15_1 < (l1.length : Int)) = false := decide_eq_false c3
    clear c3
    by_cases c21 : (x5_1.length : Int) > 64
    ·rw [if_pos c21] at H
     have c21b0 : decide (64 < (x5_1.length : Int)) = true := decide_eq_true c21
     have c21b1 : decide (64 < x5_1.length) = true := decide_eq_true (by omega)
     clear c21
     obtain rfl := Option.some.inj H
     obtain ⟨Ao22, co22, eo22⟩ := Kd.R_slice HO_5.out
     subst eo22
     go_wp2
     go_ret
     exact hyphen_Set_exception.Post.no rfl (by repeat (first | (with_reducible first | exact HB.out | apply below_alloc | apply pw_below_drewN | apply below_drew1) | exact HB.out))
    ·rw [if_neg c21] at H
     have c21b0 : decide (64 < (x5_1.length : Int)) = false := decide_eq_false c21
     have c21b1 : decide (64 < x5_1.length) = false := decide_eq_false (by omega)
     clear c21
     replace H := Option.bind_eq_some_iff.mp H
     obtain ⟨⟨t113, t114⟩, A230, H⟩ := H
     replace H : (some (some (t113, x6_1))) = some r := H
     have A23 := Aside0.mk A230
     clear A230
     obtain rfl := Option.some.inj H
     obtain ⟨Ao24, co24, eo24⟩ := Kd.R_slice HO_5.out
     subst eo24
     obtain ⟨Ao26, co26, eo26⟩ := Kd.R_slice HO_6.out
     subst eo26
     go_upto_region 13 with (fail)
     go_upto_region 14 with (first | ((with_reducible refine gate_callee (f := 39) rfl ?_); refine goesL_ (some 60) rfl rfl Tryd.func39 (by kernel_rfl) rfl #[.slice Ao24 x5_1.length co24] rfl (by (try simp only [List.map_toArray, List.map_cons, List.map_nil]); first | done | rfl | (simp only [List.length_drop, List.length_take]; rfl)) ?_; (with_reducible refine (utf_Encode.calls k1 _ _ x5_1 t113 t114 _ ?side1 ?side2 A23.out).mono ?_); (case side1 => repeat (first | exact (Kd.R_reads' HO_5.out).2.2 | (with_reducible refine Kd.C_alloc ?_ _) | (with_reducible refine Kd.C_drewN ?_ _) | (with_reducible refine Kd.C_drew ?_))); (case side2 => exact (Kd.R_reads' HO_5.out).2.1); rintro e w25 ⟨rfl, hb⟩; refine ⟨_, rfl, ?_⟩; have n0_ := Aside0.mk (Kd.R_below (by (with_reducible repeat (first | apply Kd.R_alloc | apply Kd.R_drewN | apply Kd.R_drew)); exact HO_5.out) hb); have n1_ := Aside0.mk (Kd.R_below (by (with_reducible repeat (first | apply Kd.R_alloc | apply Kd.R_drewN | apply Kd.R_drew)); exact HO_6.out) hb); have n2_ := Aside0.mk (below_step (by repeat (first | (with_reducible first | exact HB.out | apply below_alloc | apply pw_below_drewN | apply below_drew1) | exact HB.out)) hb); clear HO_5; clear HO_6; clear HB; have HO_5 := n0_; have HO_6 := n1_; have HB := n2_; clear n0_ n1_ n2_; (try clear hb); (try clear hb2); (try clear hk); (try clear hi)))
     have hAt := HAt.out.below HB.out
     have HA2 := Aside0.mk hAt
     have hs2 : w25.cell? ⟨Sb, 2, none⟩ = some (.map (some K)) := (blk_cell hAt.set 2).trans rfl
     have hkey := Trie.key_str t113 (HK.out _ _ rfl)
     have hlk := YtenhfmlkdcfbbaaDoorV.MapV.look_ok hAt.map (t := 50) (e := 22) (Maps.string_keyed Tryd.underlying9) Tryd.underlying50 (z := .slice none 0 0) (by kernel_rfl) t113 hkey
     obtain ⟨hf1, hf2⟩ := Trie.Kn.find t113 hAt.kn
     rw [hf1] at hlk
     clear HAt
     cases hkf : Trie.kfind kn t113 with
     | some p =>
      rw [hkf] at hlk
      have hlk' : (Instr.lookup 50 (.map (some K)) (.string t113) true).run Tryd.prog w25 = .ok (.tuple #[YtenhfmlkdcfbbaaDoorV.vget es t113 (.slice none 0 0), .bool true]) w25 := hlk
      have HKF := Aside0.mk hkf
      clear hlk hf1 hf2 hkf hAt
      go_wp2
      go_ret
      exact ⟨rfl, ⟨HB.out.os, HB.out.tape, HB.out.output, HB.out.size, fun k hk _ => HB.out.block k hk⟩, es, by unfold Trie.kput; rw [if_pos (by rw [HKF.out]; rfl)]; exact HA2.out⟩
     | none =>
      rw [hkf] at hlk
      have hlk' : (Instr.lookup 50 (.map (some K)) (.string t113) true).run Tryd.prog w25 = .ok (.tuple #[YtenhfmlkdcfbbaaDoorV.vget es t113 (.slice none 0 0), .bool false]) w25 := hlk
      obtain ⟨w1, hmu, hm1, hg1⟩ := YtenhfmlkdcfbbaaDoorV.MapV.put hAt.map (t := 50) (e := 22) (Maps.string_keyed Tryd.underlying9) Tryd.underlying50 (by have := Trie.Kn.len hAt.kn; have := hkl.out; show es.length < 9223372036854775807; omega) t113 (.slice Ao26 x6_1.length co26) hkey
      have hmu' : (Instr.mapUpdate 50 (.map (some K)) (.string t113) (.slice Ao26 x6_1.length co26)).run Tryd.prog w25 = .ok () w1 := hmu
      have HKF := Aside0.mk hkf
      have HG1 := Aside0.mk hg1
      have HM1 := Aside0.mk hm1
      clear hlk hf1 hf2 hkf hAt hmu hg1 hm1
      go_wp2
      go_ret
      have hout : ∀ b o, base ≤ b → w25.heap[b]? = some o → b ≠ K → w1.heap[b]? = w25.heap[b]? := fun b o _ ho hne => HG1.out.block b (blk_lt ho) (fun e => hne (by injection e))
      refine ⟨rfl, ⟨HG1.out.os.trans HB.out.os, HG1.out.tape.trans HB.out.tape, HG1.out.output.trans HB.out.output, Nat.le_trans HB.out.size HG1.out.size, fun k hk hne => (HG1.out.block k (Nat.lt_of_lt_of_le hk HB.out.size) hne).trans (HB.out.block k hk)⟩, _, HA2.out.put HG1.out HM1.out (kn' := Trie.kput kn t113 x6_1) ?_⟩
      unfold Trie.kput
      rw [if_neg (by rw [HKF.out]; simp)]
      have hmv : ∀ (k : Nat) (cells : Array Value), w25.heap[k]? = some (.cells cells 3 (0, 0)) → w1.heap[k]? = w25.heap[k]? := fun k cells hc => HG1.out.block k (blk_lt hc) (fun e => by injection e with e; exact HA2.out.map.ne hc e.symm)
      refine ⟨rfl, ?_, Trie.Kn.move hmv HA2.out.kn⟩
      have h6 := Kd.R_lower (Kd.R_mono HO_6.out (fun _ _ => trivial)) hbase
      refine Kd.R_mono (Kd.R_move (Kd.R_bound h6) (fun k hb => ?_)) (fun _ _ => trivial)
      obtain ⟨_, _, _, q, hq, cells, hc⟩ := hb
      obtain rfl : q = 3 := by
       rcases List.mem_cons.1 hq with e | e
       ·exact e
       ·exact absurd e (by intro h9; cases h9)
      exact hmv k cells hc
end Go.Proofs.YtenhfmlkdcfbbaaDoor.PHyphenPoints
