/- For StyleLast: the law's own function, walked by hand. -/
import Derived.Test.YtpembifnjlekdaaPStyleLastx5
import Derived.Test.YtpembifnjlekdaaPStyleLastx7
namespace Go.Proofs.Ytpembifnjlekdaa.PStyleLast
open Go.RowKit Go.Proofs.YtpembifnjlekdaaW.PrintWords Go.Proofs.YtpembifnjlekdaaW.PrintLast Go.Proofs.YtpembifnjlekdaaW.PrintMore
attribute [local go_sem] max2_int min2_int max_two min_two max_three min_three max_four min_four
set_option linter.unusedVariables false
set_option linter.unusedSimpArgs false
def colophonlaw20_StyleLast.loop (k : Nat) (path : List S56) : List S45 → Bool → Option Bool
  | [], m => some m
  | s :: r, m => if m = true then colophonlaw20_StyleLast.loop k path r true else (colophonref19_Match.f k s.f0 path).bind fun b => colophonlaw20_StyleLast.loop k path r b
noncomputable def colophonlaw20_StyleLast.f (k : Nat) (l : List S41) (path : List S56) (d0 d1 : Int) : Option Bool :=
  (colophonlaw20_large.f k l path).bind fun t => if t = true ∨ l.length = 0 then colophonlaw20_wakes.f k else
    (colophonref19_Copy.f k (l.drop (l.length - 1))).bind fun t1 => if t1.length = 0 then none else
      (colophonlaw20_StyleLast.loop k path (rd_T41 t1 0).f0 false).bind fun m => if m = false then colophonlaw20_wakes.f k else
        (colophonlaw20_twin.f k path).bind fun p => (style_Winner.f k [rd_T41 t1 0, ⟨(rd_T41 t1 0).f0, [⟨d0, d1⟩]⟩] p d0).bind fun x => @ite _ (x = (d1, true)) (Classical.propDecidable _) (colophonlaw20_wakes.f k) none
theorem blk_below {w W : World} {b : Nat} {o : Obj} (h : w.heap[b]? = some o) (hb : Below w.heap.size w W) : W.heap[b]? = some o := (hb.block b (blk_lt h)).trans h
theorem cell_below {w W : World} {p : Addr} {v : Value} (h : w.cell? p = some v) (hb : Below w.heap.size w W) : W.cell? p = some v := (hb.cell (World.block_lt_of_cell? w _ h)).trans h
/-- The first element of a row that a call has made. -/
theorem first_elem {w' : World} {base : Nat} {v : Value} {t1 : List S41} (ho : Kd.R k41 41 w' base (fun _ => True) v t1) (hp : t1.length ≠ 0) :
    ∃ g c An cn Ad cd, v = .slice (some ⟨g, 0, none⟩) t1.length c ∧ t1.length ≤ c ∧ w'.cell? ⟨g, 0, none⟩ = some (.slice An (rd_T41 t1 0).f0.length cn) ∧ w'.cell? ⟨g, 1, none⟩ = some (.slice Ad (rd_T41 t1 0).f1.length cd) ∧ (rd_T41 t1 0).f0.length ≤ cn ∧ (rd_T41 t1 0).f1.length ≤ cd ∧
      Kd.F k45 w' (fun k => k < w'.heap.size) An (rd_T41 t1 0).f0.length (rd_T41 t1 0).f0 ∧ Kd.F k47 w' (fun k => k < w'.heap.size) Ad (rd_T41 t1 0).f1.length (rd_T41 t1 0).f1 := by
  have hN := Kd.R_N ho
  obtain ⟨g, c, rfl, hg, hlt, _⟩ := Kd.N_form hN (by omega)
  have hF := Kd.F_bound (Kd.N_F hN)
  obtain ⟨ad, cs, ea, hcl, hK, hcc, _⟩ := Kd.F_get hF z41 0 (by omega) (by omega)
  obtain ⟨An, cn, Ad, cd, rfl, l0, f0, l1, f1⟩ := k41_openF hK
  injection ea with ea
  subst ea
  refine ⟨g, c, An, cn, Ad, cd, rfl, (Kd.N_reads' hN).2.1, ?_, ?_, l0, l1, Kd.F_mono f0 (fun k hk => hk.2), Kd.F_mono f1 (fun k hk => hk.2)⟩
  · have := hcc 0 _ rfl
    rw [add_at] at this
    exact this
  · have := hcc 1 _ rfl
    rw [add_at] at this
    exact this
/-- The law's world, while the selectors are tried. -/
structure LW (w W : World) (L : Nat) (A : Option Addr) (c : Nat) (u : Value) (xs : List S45) (d0 d1 : Int) : Prop where
  b : Below w.heap.size w W
  d : W.heap[w.heap.size]? = some (.cells #[.int .i64 d0, .int .i64 d1] 47 (0, 0))
  n : w.heap.size < L
  l : W.heap[L]? = some (.cells #[.slice A xs.length c, u] 41 (0, 0))
  e : xs.length ≤ c
  f : Kd.F k45 W (fun k => k ≠ L) A xs.length xs
theorem LW.below {w W W' : World} {L : Nat} {A : Option Addr} {c : Nat} {u : Value} {xs : List S45} {d0 d1 : Int} (h : LW w W L A c u xs d0 d1) (hb : Below W.heap.size W W') : LW w W' L A c u xs d0 d1 :=
  ⟨below_step h.b hb, blk_below h.d hb, h.n, blk_below h.l hb, h.e, Kd.F_below h.f hb⟩
theorem LW.start {w w6 : World} {A : Option Addr} {c : Nat} {u : Value} {xs : List S45} {d0 d1 : Int} (hb : Below w.heap.size w w6) (hd : w6.heap[w.heap.size]? = some (.cells #[.int .i64 d0, .int .i64 d1] 47 (0, 0))) (he : xs.length ≤ c) (hf : Kd.F k45 w6 (fun k => k < w6.heap.size) A xs.length xs) :
    LW w (w6.alloc (.cells #[.slice A xs.length c, u] 41)) w6.heap.size A c u xs d0 d1 :=
  ⟨below_alloc hb _, blk_below hd (below_alloc (Below.refl _ _) _), blk_lt hd, heap_alloc_new w6 _, he, Kd.F_alloc (Kd.F_mono (ok' := fun k => k ≠ w6.heap.size) hf (fun k hk => by omega)) _⟩
theorem drop45' {l : List S45} {j : Nat} (h : j < l.length) : l.drop j = rd_T45 l (j : Int) :: l.drop (j + 1) := by
  rw [List.drop_eq_getElem_cons h]
  congr 1
  show _ = l.getD j z45
  simp [List.getD_eq_getElem?_getD, h]
/-- The law's world, behind the further rule's declaration. -/
structure LZ (w W : World) (L M : Nat) (A : Option Addr) (c : Nat) (xs : List S45) (d0 d1 : Int) : Prop where
  b : Below w.heap.size w W
  d : W.heap[w.heap.size]? = some (.cells #[.int .i64 d0, .int .i64 d1] 47 (0, 0))
  l : W.heap[L]? = some (.cells #[.slice A xs.length c, .slice (some ⟨M, 0, none⟩) 1 1] 41 (0, 0))
  e : xs.length ≤ c
  f : Kd.C k45 W A xs.length xs
  m : W.heap[M]? = some (.cells #[.int .i64 d0, .int .i64 d1] 47 (0, 0))
theorem LZ.below {w W W' : World} {L M : Nat} {A : Option Addr} {c : Nat} {xs : List S45} {d0 d1 : Int} (h : LZ w W L M A c xs d0 d1) (hb : Below W.heap.size W W') : LZ w W' L M A c xs d0 d1 :=
  ⟨below_step h.b hb, blk_below h.d hb, blk_below h.l hb, h.e, Kd.C_below h.f hb, blk_below h.m hb⟩
theorem LZ.start {w W : World} {L : Nat} {A : Option Addr} {c : Nat} {u : Value} {xs : List S45} {d0 d1 : Int} (h : LW w W L A c u xs d0 d1) :
    LZ w ((W.alloc (.cells #[.int .i64 d0, .int .i64 d1] 47)).setCell ⟨L, 1, none⟩ (.slice (some ⟨W.heap.size, 0, none⟩) 1 1)) L W.heap.size A c xs d0 d1 := by
  have h' := h.below (below_alloc (Below.refl _ _) (.cells #[.int .i64 d0, .int .i64 d1] 47))
  have hlt := blk_lt h.l
  have hn := h.n
  refine ⟨below_set h'.b (by omega), ?_, heap_setCell_same _ L 1 _ 41 _ h'.l, h.e, Kd.F_now (Kd.F_far (p := ⟨L, 1, none⟩) h'.f (fun k hk => hk) _), ?_⟩
  · rw [heap_setCell_other _ ⟨L, 1, none⟩ _ _ (by show w.heap.size ≠ L; omega)]
    exact h'.d
  · rw [heap_setCell_other _ ⟨L, 1, none⟩ _ _ (by show W.heap.size ≠ L; omega)]
    exact heap_alloc_new W _
theorem lz_pair {w W : World} {L M : Nat} {A : Option Addr} {c : Nat} {xs : List S45} {d0 d1 : Int} (h : LZ w W L M A c xs d0 d1) {y : S41} {B cy cz : Nat} {Ay Az : Option Addr}
    (hB : W.heap[B]? = some (.cells #[.slice Ay y.f0.length cy, .slice Az y.f1.length cz, .slice A xs.length c, .slice (some ⟨M, 0, none⟩) 1 1] 41 (0, 0))) (l0 : y.f0.length ≤ cy) (g0 : Kd.C k45 W Ay y.f0.length y.f0) (l1 : y.f1.length ≤ cz) (g1 : Kd.C k47 W Az y.f1.length y.f1) :
    Kd.C k41 W (some ⟨B, 0, none⟩) 2 [y, ⟨xs, [⟨d0, d1⟩]⟩] := by
  have hM : Kd.C k47 W (some ⟨M, 0, none⟩) 1 [⟨d0, d1⟩] := by
    refine ⟨rfl, by omega, fun _ => ⟨_, rfl, fun j p hj => ?_⟩⟩
    match j, hj with
    | 0, hj =>
      obtain rfl := Option.some.inj hj
      refine ⟨_, rfl, k47_mk W ⟨d0, d1⟩, fun i u hu => ?_⟩
      match i, hu with
      | 0, hu => obtain rfl := Option.some.inj hu; rw [add_at]; exact (blk_cell h.m 0).trans rfl
      | 1, hu => obtain rfl := Option.some.inj hu; rw [add_at]; exact (blk_cell h.m 1).trans rfl
  refine ⟨rfl, by omega, fun _ => ⟨_, rfl, fun j p hj => ?_⟩⟩
  match j, hj with
  | 0, hj =>
    obtain rfl := Option.some.inj hj
    refine ⟨_, rfl, k41_mk W y l0 g0 l1 g1, fun i u hu => ?_⟩
    match i, hu with
    | 0, hu => obtain rfl := Option.some.inj hu; rw [add_at]; exact (blk_cell hB 0).trans rfl
    | 1, hu => obtain rfl := Option.some.inj hu; rw [add_at]; exact (blk_cell hB 1).trans rfl
  | 1, hj =>
    obtain rfl := Option.some.inj hj
    refine ⟨_, rfl, k41_mk W ⟨xs, [⟨d0, d1⟩]⟩ h.e h.f (Nat.le_refl _) hM, fun i u hu => ?_⟩
    match i, hu with
    | 0, hu => obtain rfl := Option.some.inj hu; rw [add_at]; exact (blk_cell hB 2).trans rfl
    | 1, hu => obtain rfl := Option.some.inj hu; rw [add_at]; exact (blk_cell hB 3).trans rfl
theorem winner2 (k : Nat) (A0 : Option Addr) (c0 : Nat) (y z : S41) (A1 : Option Addr) (c1 : Nat) (l1 : List (S56)) (a2 : Int) (r1 : Int) (r2 : Bool) (w : World) (hr0 : Kd.C k41 w A0 2 [y, z]) (hc0 : 2 ≤ c0) (hr1 : Kd.C k56 w A1 l1.length l1) (hc1 : l1.length ≤ c1) (h : style_Winner.f k [y, z] l1 a2 = some (r1, r2)) :
    Calls Try.prog 12 #[.slice A0 2 c0, .slice A1 l1.length c1, .int .i64 a2] w fun e w' => e = .returned (.tuple #[.int .i64 r1, .bool r2]) ∧ Below w.heap.size w w' :=
  style_Winner.calls k A0 c0 [y, z] A1 c1 l1 a2 r1 r2 w hr0 hc0 hr1 hc1 h
theorem cell_alloc {w : World} {p : Addr} {v : Value} (h : w.cell? p = some v) (o : Obj) : (w.alloc o).cell? p = some v := cell_below h (below_alloc (Below.refl _ _) o)
/-- A stronger condition may be held from here on. -/
theorem wpAnyH_imp {P : Program} {md : Region.Mode} {ops : Array Oper} {Q : Exit → Act → World → Prop} {S S' : World → Prop} (h : ∀ w, S' w → S w) : ∀ (fuel : Nat) (listed : Array Bool) (a : Act) (w : World), wpAnyH P md ops Q S' fuel listed a w → wpAnyH P md ops Q S fuel listed a w
  | 0, _, _, _, x => x
  | fuel + 1, _, _, _, x => ⟨x.1, fun i hi => wpOp_mono (fun a' w' y => ⟨h w' y.1, wpAnyH_imp h fuel _ a' w' y.2⟩) (x.2 i hi)⟩
section
variable {P : Program} {ops : Array Oper} {Q : Exit → Act → World → Prop} {md : Region.Mode} {S : World → Prop}
theorem takeH {i : Nat} {N : Option Tmp} {oi : Oper} {v : Value} {fuel : Nat} {listed : Array Bool} {a : Act} {w : World} (hi : ops[i]? = some oi) (hN : oi.dst = N)
    (hs : Region.noSelect ops = true) (hf : Region.free md ops listed i = true) (hr : (Region.ready md ops listed).contains i = true)
    (hQ : ∀ c a w, Q (.panic c) (a.put oi.dst v) w → Q (.panic c) a w) (hy : YieldsIf P ops S oi v a) (hS : S w)
    (h : wpAnyH P md ops Q S fuel (listed.setIfInBounds i true) (a.put N v) w) : wpAnyH P md ops Q S (fuel + 1) listed a w := by
  subst hN
  exact wpAnyH_take hi hs hf hr hQ hy hS h
theorem stepH {fuel : Nat} {listed : Array Bool} {a : Act} {w : World} {i : Nat} {N : Option Tmp} {o : Oper} {rs : List Nat} (ho : ops[i]? = some o) (hN : o.dst = N)
    (h : ∀ K' : Act → World → Prop, Shut (∀ a w, S w → (S w → wpAnyH P md ops Q S fuel (listed.setIfInBounds i true) a w) → K' a w) → if Region.wanted o (yielded ops a.tmps) = true then Oper.wp P o a w K' Q else K' (a.put N undef) w)
    (hs : AllReadyH P md ops Q S fuel listed a w rs) : AllReadyH P md ops Q S fuel listed a w (i :: rs) := by
  subst hN
  exact AllReadyH.cons ho h hs
end
set_option maxHeartbeats 8000000 in
set_option maxRecDepth 100000 in
theorem colophonlaw20_StyleLast.calls (k : Nat) (A0 : Option Addr) (c0 : Nat) (l0 : List (S41)) (A1 : Option Addr) (c1 : Nat) (l1 : List (S56)) (d0 d1 : Int) (r : Bool) (w : World) (hr0 : Kd.C k41 w A0 l0.length l0) (hc0 : l0.length ≤ c0) (hr1 : Kd.C k56 w A1 l1.length l1) (hc1 : l1.length ≤ c1) (h : colophonlaw20_StyleLast.f k l0 l1 d0 d1 = some r) :
    Calls Try.prog 6 #[.slice A0 l0.length c0, .slice A1 l1.length c1, .agg #[.int .i64 d0, .int .i64 d1]] w fun e w' => e = .returned (.bool r) ∧ Below w.heap.size w w' := by
  have HR0 := Aside0.mk hr0
  have HC0 := Aside0.mk hc0
  have HR1 := Aside0.mk hr1
  have HC1 := Aside0.mk hc1
  have hmax : l0.length ≤ 9223372036854775807 := Kd.C_max hr0
  have z5 : (w.alloc (.cells #[.int .i64 d0, .int .i64 d1] 47)).heap[w.heap.size]? = some (.cells #[.int .i64 d0, .int .i64 d1] 47 (0, 0)) := heap_alloc_new w _
  have Z5 := Aside0.mk z5
  clear hr0 hc0 hr1 hc1 z5
  unfold colophonlaw20_StyleLast.f at h
  obtain ⟨t, AG0, H⟩ := Option.bind_eq_some_iff.mp h
  have AG := Aside0.mk AG0
  clear AG0 h
  by_cases c : t = true ∨ l0.length = 0
  · rw [if_pos c] at H
    have AW := Aside0.mk H
    clear H
    cases t with
    | true =>
      clear c hmax
      go_enter Try.func6, Try.ntmps6
      go_wp2_with (first | (go_at_call 9; (with_reducible refine (colophonlaw20_large.calls k _ _ l0 _ _ l1 true _ (Kd.C_below HR0.out (below_alloc (Below.refl _ _) _)) HC0.out (Kd.C_below HR1.out (below_alloc (Below.refl _ _) _)) HC1.out AG.out).mono ?_); rintro e w5 ⟨rfl, hb⟩; have n5_ := Aside0.mk (blk_below Z5.out hb); have nB_ := Aside0.mk (below_step (below_alloc (Below.refl w.heap.size w) _) hb); clear Z5; have Z5 := n5_; have HB := nB_; clear n5_ nB_ hb) | (go_at_call 10; (with_reducible refine (colophonlaw20_wakes.calls k r _ AW.out).mono ?_); rintro e w9 ⟨rfl, hb⟩; have nB_ := Aside0.mk (below_step HB.out hb); clear HB; have HB := nB_; clear nB_ hb))
      go_ret
      exact ⟨rfl, HB.out⟩
    | false =>
      have e0 : ((l0.length : Int) == 0) = true := by rw [c.resolve_left (by decide)]; rfl
      clear c hmax
      go_enter Try.func6, Try.ntmps6
      go_wp2_with (first | (go_at_call 9; (with_reducible refine (colophonlaw20_large.calls k _ _ l0 _ _ l1 false _ (Kd.C_below HR0.out (below_alloc (Below.refl _ _) _)) HC0.out (Kd.C_below HR1.out (below_alloc (Below.refl _ _) _)) HC1.out AG.out).mono ?_); rintro e w5 ⟨rfl, hb⟩; have n5_ := Aside0.mk (blk_below Z5.out hb); have nB_ := Aside0.mk (below_step (below_alloc (Below.refl w.heap.size w) _) hb); clear Z5; have Z5 := n5_; have HB := nB_; clear n5_ nB_ hb) | (go_at_call 10; (with_reducible refine (colophonlaw20_wakes.calls k r _ AW.out).mono ?_); rintro e w9 ⟨rfl, hb⟩; have nB_ := Aside0.mk (below_step HB.out hb); clear HB; have HB := nB_; clear nB_ hb))
      go_ret
      exact ⟨rfl, HB.out⟩
  · rw [if_neg c] at H
    obtain ⟨t1, AC0, H1⟩ := Option.bind_eq_some_iff.mp H
    clear H
    obtain rfl : t = false := by cases t with | false => rfl | true => exact absurd (.inl rfl) c
    have hl : l0.length ≠ 0 := fun e => c (.inr e)
    clear c
    by_cases p1 : t1.length = 0
    · rw [if_pos p1] at H1
      exact absurd H1 (by simp)
    rw [if_neg p1] at H1
    obtain ⟨m, AL0, H2⟩ := Option.bind_eq_some_iff.mp H1
    clear H1
    have e0 : ((l0.length : Int) == 0) = false := beq_eq_false_iff_ne.mpr (by omega)
    have hjw : (IntKind.i64.wrap ((l0.length : Int) - 1)) = ((l0.length - 1 : Nat) : Int) := (i64_w _).trans (by unfold wrap64; omega)
    obtain ⟨i041, hi041, _, hsz41, _⟩ := info_parts info41
    have hcut := cut_from (P := Try.prog) 22 41 .i64 Try.underlying22 hi041 2 hsz41 A0 l0.length c0 ((l0.length - 1 : Nat) : Int) (by omega) (by omega)
    rw [Int.toNat_natCast] at hcut
    obtain ⟨A5, hA5⟩ : ∃ A5, A5 = (if c0 = l0.length - 1 then A0 else A0.map (·.add ((l0.length - 1) * 2))) := ⟨_, rfl⟩
    obtain ⟨c5, hc5⟩ : ∃ c5, c5 = c0 - (l0.length - 1) := ⟨_, rfl⟩
    obtain ⟨y, hy⟩ : ∃ y, y = l0.drop (l0.length - 1) := ⟨_, rfl⟩
    have hR5 : Kd.C k41 w A5 y.length y := by rw [hA5, hy]; exact Kd.C_drop HR0.out (by omega) HC0.out
    have hly : y.length = l0.length - (l0.length - 1) := by rw [hy, List.length_drop]
    rw [← hly, ← hA5, ← hc5] at hcut
    rw [← hy] at AC0
    have HR5 := Aside0.mk hR5
    have HC5 := Aside0.mk (show y.length ≤ c5 by have := HC0.out; rw [hly, hc5]; omega)
    have AC := Aside0.mk AC0
    have AL := Aside0.mk AL0
    have AF := Aside0.mk H2
    have hp1 := Aside0.mk p1
    have hp0 : 0 < t1.length := by omega
    clear hR5 hly hA5 hc5 hy AC0 AL0 H2 p1
    go_enter Try.func6, Try.ntmps6
    go_upto_region 3 with (first | (go_at_call 9; (with_reducible refine (colophonlaw20_large.calls k _ _ l0 _ _ l1 false _ (Kd.C_below HR0.out (below_alloc (Below.refl _ _) _)) HC0.out (Kd.C_below HR1.out (below_alloc (Below.refl _ _) _)) HC1.out AG.out).mono ?_); rintro e w5 ⟨rfl, hb⟩; have n5_ := Aside0.mk (blk_below Z5.out hb); have nB_ := Aside0.mk (below_step (below_alloc (Below.refl w.heap.size w) _) hb); clear Z5; have Z5 := n5_; have HB := nB_; clear n5_ nB_ hb))
    go_upto_region 4 with (first | (go_at_call 11; (with_reducible refine (colophonref19_Copy.calls k A5 c5 y t1 _ ?_ HC5.out AC.out).mono ?_); (exact Kd.C_below HR5.out (by repeat (first | (with_reducible first | exact HB.out | exact Below.refl _ _ | apply below_alloc | apply pw_below_drewN | apply below_drew1) | exact HB.out))); rintro e w6 ⟨v6, rfl, ho, hb⟩; obtain ⟨g6, c6, An, cn, Ad, cd, e6, lg6, q0, q1, ln, ld, fn, fd⟩ := first_elem ho hp1.out; subst e6; have nB_ := Aside0.mk (below_step HB.out hb); have n5_ := Aside0.mk (blk_below Z5.out hb); clear HB Z5; have HB := nB_; have Z5 := n5_; clear nB_ n5_ hb ho; have q0' := q0; have q1' := q1; clear q0 q1; have q0 : w6.cell? ⟨g6, 0, none⟩ = _ := q0'; have q1 : w6.cell? ⟨g6, 1, none⟩ = _ := q1'; clear q0' q1'))
    have HW0 := Aside0.mk (LW.start (u := .slice Ad (rd_T41 t1 0).f1.length cd) HB.out Z5.out ln fn)
    generalize w6.alloc (.cells #[.slice An (rd_T41 t1 0).f0.length cn, .slice Ad (rd_T41 t1 0).f1.length cd] 41) = W at HW0 ⊢
    generalize w6.heap.size = L at HW0 ⊢
    go_wp2
    go_loopg [8, 9] ((rd_T41 t1 0).f0.length + 1) (fun kq v8 v9 w' => ∃ (j : Nat) (q : Bool), v8 = .bool q ∧ v9 = .int .i64 (j : Int) ∧ Aside0 (colophonlaw20_StyleLast.loop k l1 ((rd_T41 t1 0).f0.drop j) q = some m) ∧ Aside0 (j ≤ (rd_T41 t1 0).f0.length ∧ j + kq = (rd_T41 t1 0).f0.length + 1) ∧ Aside0 (LW w w' L An cn (.slice Ad (rd_T41 t1 0).f1.length cd) (rd_T41 t1 0).f0 d0 d1))
    case atStart => exact ⟨0, false, rfl, rfl, AL, ⟨⟨by omega, by omega⟩⟩, HW0⟩
    case round =>
      obtain ⟨j, q, rfl, rfl, HA, HK, HW⟩ := hrel
      cases gk with
      | zero => exact absurd HK.out (by omega)
      | succ kq =>
      have hL0 : wr.cell? ⟨L, 0, none⟩ = some (.slice An (rd_T41 t1 0).f0.length cn) := (blk_cell HW.out.l 0).trans rfl
      have hnm : (rd_T41 t1 0).f0.length ≤ 9223372036854775807 := Kd.F_max HW.out.f
      by_cases cj : j < (rd_T41 t1 0).f0.length
      · have cjd : decide ((j : Int) < ((rd_T41 t1 0).f0.length : Int)) = true := decide_eq_true (by omega)
        have hjs : (IntKind.i64.wrap ((j : Int) + 1)) = ((j + 1 : Nat) : Int) := (i64_w _).trans (by unfold wrap64; omega)
        have HA2 := HA.out
        rw [drop45' cj, colophonlaw20_StyleLast.loop] at HA2
        cases q with
        | true =>
          rw [if_pos rfl] at HA2
          have HA1 := Aside0.mk HA2
          clear HA2 HA
          go_wp2
          go_roundg kq
          case measure => have := HK.out; omega
          case rel => exact ⟨j + 1, true, rfl, (by first | rfl | (simp [hjs]; done)), HA1, ⟨by have := HK.out; omega⟩, HW⟩
        | false =>
          rw [if_neg (by decide)] at HA2
          obtain ⟨b, AM0, HA3⟩ := Option.bind_eq_some_iff.mp HA2
          have AM := Aside0.mk AM0
          have HA1 := Aside0.mk HA3
          clear HA2 HA AM0 HA3
          obtain ⟨ad, A9, c9, e9, hx9, hl9, hi9⟩ := at_T45 (Kd.F_now HW.out.f) (j : Int) (by omega) (by omega)
          cases e9
          have HI9 := Aside0.mk hi9
          have HL9 := Aside0.mk hl9
          clear hi9 hl9
          rw [Int.toNat_natCast] at hx9
          go_wp2_with (first | (go_at_call 21; (with_reducible refine (colophonref19_Match.calls k _ _ (rd_T45 (rd_T41 t1 0).f0 (j : Int)).f0 _ _ l1 b _ HI9.out HL9.out (Kd.C_below HR1.out HW.out.b) HC1.out AM.out).mono ?_); rintro e w7 ⟨rfl, hb⟩; have n_ := Aside0.mk (HW.out.below hb); clear HW HI9; have HW := n_; clear n_ hb))
          go_roundg kq
          case measure => have := HK.out; omega
          case rel => exact ⟨j + 1, b, rfl, (by first | rfl | (simp [hjs]; done)), HA1, ⟨by have := HK.out; omega⟩, HW⟩
      · have cjd : decide ((j : Int) < ((rd_T41 t1 0).f0.length : Int)) = false := decide_eq_false (by omega)
        have HA2 := HA.out
        rw [List.drop_eq_nil_of_le (by omega), colophonlaw20_StyleLast.loop] at HA2
        obtain rfl := Option.some.inj HA2
        clear HA2 HA
        have HF := AF.out
        clear AF
        cases q with
        | false =>
          rw [if_pos rfl] at HF
          have AW := Aside0.mk HF
          clear HF
          have HB := Aside0.mk HW.out.b
          go_wp2_with (first | (go_at_call 10; (with_reducible refine (colophonlaw20_wakes.calls k r _ AW.out).mono ?_); rintro e w9 ⟨rfl, hb⟩; have nB_ := Aside0.mk (below_step HB.out hb); clear HB; have HB := nB_; clear nB_ hb))
          go_ret
          exact ⟨rfl, HB.out⟩
        | true =>
          rw [if_neg (by decide)] at HF
          have hD0 : wr.cell? ⟨w.heap.size, 0, none⟩ = some (.int .i64 d0) := (blk_cell HW.out.d 0).trans rfl
          have hD1 : wr.cell? ⟨w.heap.size, 1, none⟩ = some (.int .i64 d1) := (blk_cell HW.out.d 1).trans rfl
          have HWa := HW.out.below (below_alloc (Below.refl _ _) (.cells #[.int .i64 d0, .int .i64 d1] 47))
          have hL1 : (wr.alloc (.cells #[.int .i64 d0, .int .i64 d1] 47)).cell? ⟨L, 1, none⟩ = some (.slice Ad (rd_T41 t1 0).f1.length cd) := (blk_cell HWa.l 1).trans rfl
          have hL1f : (wr.alloc (.cells #[.int .i64 d0, .int .i64 d1] 47)).frozen? ⟨L, 1, none⟩ = false := blk_frozen HWa.l 1
          go_upto_region 12 with (fail)
          clear hD0 hD1 HWa hL1 hL1f hL0 HW0
          have HZ := Aside0.mk (LZ.start HW.out)
          generalize (wr.alloc (.cells #[.int .i64 d0, .int .i64 d1] 47)).setCell ⟨L, 1, none⟩ (.slice (some ⟨wr.heap.size, 0, none⟩) 1 1) = W' at HZ ⊢
          generalize wr.heap.size = M at HZ ⊢
          clear HW
          obtain ⟨tp, AT0, HF1⟩ := Option.bind_eq_some_iff.mp HF
          obtain ⟨x, AX0, HF2⟩ := Option.bind_eq_some_iff.mp HF1
          clear HF HF1
          by_cases ex : x = (d1, true)
          rotate_left
          · rw [if_neg ex] at HF2
            exact absurd HF2 (by simp)
          rw [if_pos ex] at HF2
          subst ex
          have AW := Aside0.mk HF2
          have AT := Aside0.mk AT0
          have AX := Aside0.mk AX0
          clear HF2 AT0 AX0
          have hD0 : W'.cell? ⟨w.heap.size, 0, none⟩ = some (.int .i64 d0) := (blk_cell HZ.out.d 0).trans rfl
          have hL0 : W'.cell? ⟨L, 0, none⟩ = some (.slice An (rd_T41 t1 0).f0.length cn) := (blk_cell HZ.out.l 0).trans rfl
          have hL1 : W'.cell? ⟨L, 1, none⟩ = some (.slice (some ⟨M, 0, none⟩) 1 1) := (blk_cell HZ.out.l 1).trans rfl
          refine wp_region_held_drew (S := fun W2 => W2.cell? ⟨L, 0, none⟩ = some (.slice An (rd_T41 t1 0).f0.length cn) ∧ W2.cell? ⟨L, 1, none⟩ = some (.slice (some ⟨M, 0, none⟩) 1 1) ∧ W2.cell? ⟨w.heap.size, 0, none⟩ = some (.int .i64 d0)) (by kernel_rfl) ⟨hL0, hL1, hD0⟩ (fun hHeld => ?_)
          refine takeH (i := 0) (N := some 53) (v := ?_) rfl rfl (by kernel_rfl) (by kernel_rfl) (by kernel_rfl) (fun _ _ _ h => h) (Or.inl ⟨by rfl, ?_⟩) (by assumption) ?_
          rotate_left
          · intro w2 hSw
            obtain ⟨h1, h2, h3⟩ := hSw
            go_simp
            (try with_reducible rfl)
          try simp only [Act.put, List.setIfInBounds_toArray, List.set_cons_zero, List.set_cons_succ]
          refine takeH (i := 1) (N := some 54) (v := ?_) rfl rfl (by kernel_rfl) (by kernel_rfl) (by kernel_rfl) (fun _ _ _ h => h) (Or.inl ⟨by rfl, ?_⟩) (by assumption) ?_
          rotate_left
          · intro w2 hSw
            obtain ⟨h1, h2, h3⟩ := hSw
            go_simp
            (try with_reducible rfl)
          try simp only [Act.put, List.setIfInBounds_toArray, List.set_cons_zero, List.set_cons_succ]
          refine takeH (i := 2) (N := some 55) (v := ?_) rfl rfl (by kernel_rfl) (by kernel_rfl) (by kernel_rfl) (fun _ _ _ h => h) (Or.inl ⟨by rfl, ?_⟩) (by assumption) ?_
          rotate_left
          · intro w2 hSw
            obtain ⟨h1, h2, h3⟩ := hSw
            go_simp
            (try with_reducible rfl)
          try simp only [Act.put, List.setIfInBounds_toArray, List.set_cons_zero, List.set_cons_succ]
          refine takeH (i := 3) (N := some 56) (v := ?_) rfl rfl (by kernel_rfl) (by kernel_rfl) (by kernel_rfl) (fun _ _ _ h => h) (Or.inl ⟨by rfl, ?_⟩) (by assumption) ?_
          rotate_left
          · intro w2 hSw
            obtain ⟨h1, h2, h3⟩ := hSw
            go_simp
            (try with_reducible rfl)
          try simp only [Act.put, List.setIfInBounds_toArray, List.set_cons_zero, List.set_cons_succ]
          refine takeH (i := 4) (N := some 57) (v := ?_) rfl rfl (by kernel_rfl) (by kernel_rfl) (by kernel_rfl) (fun _ _ _ h => h) (Or.inl ⟨by rfl, ?_⟩) (by assumption) ?_
          rotate_left
          · intro w2 hSw
            obtain ⟨h1, h2, h3⟩ := hSw
            go_simp
            (try with_reducible rfl)
          try simp only [Act.put, List.setIfInBounds_toArray, List.set_cons_zero, List.set_cons_succ]
          refine takeH (i := 8) (N := some 61) (v := ?_) rfl rfl (by kernel_rfl) (by kernel_rfl) (by kernel_rfl) (fun _ _ _ h => h) (Or.inl ⟨by rfl, ?_⟩) (by assumption) ?_
          rotate_left
          · intro w2 hSw
            obtain ⟨h1, h2, h3⟩ := hSw
            go_simp
            (try with_reducible rfl)
          try simp only [Act.put, List.setIfInBounds_toArray, List.set_cons_zero, List.set_cons_succ]
          refine takeH (i := 10) (N := some 63) (v := ?_) rfl rfl (by kernel_rfl) (by kernel_rfl) (by kernel_rfl) (fun _ _ _ h => h) (Or.inl ⟨by rfl, ?_⟩) (by assumption) ?_
          rotate_left
          · intro w2 hSw
            obtain ⟨h1, h2, h3⟩ := hSw
            go_simp
            (try with_reducible rfl)
          try simp only [Act.put, List.setIfInBounds_toArray, List.set_cons_zero, List.set_cons_succ]
          refine takeH (i := 12) (N := some 65) (v := ?_) rfl rfl (by kernel_rfl) (by kernel_rfl) (by kernel_rfl) (fun _ _ _ h => h) (Or.inl ⟨by rfl, ?_⟩) (by assumption) ?_
          rotate_left
          · intro w2 hSw
            obtain ⟨h1, h2, h3⟩ := hSw
            go_simp
            (try with_reducible rfl)
          try simp only [Act.put, List.setIfInBounds_toArray, List.set_cons_zero, List.set_cons_succ]
          refine takeH (i := 13) (N := some 66) (v := ?_) rfl rfl (by kernel_rfl) (by kernel_rfl) (by kernel_rfl) (fun _ _ _ h => h) (Or.inl ⟨by rfl, ?_⟩) (by assumption) ?_
          rotate_left
          · intro w2 hSw
            obtain ⟨h1, h2, h3⟩ := hSw
            go_simp
            (try with_reducible rfl)
          try simp only [Act.put, List.setIfInBounds_toArray, List.set_cons_zero, List.set_cons_succ]
          refine wpAnyH_ready (rs := [5]) (by kernel_rfl) (by simp) ?_
          refine stepH (i := 5) (N := some 58) rfl rfl (fun K hK => ?_) (AllReadyH.nil)
          go_simp
          (go_at_call 11; (with_reducible refine (colophonref19_Copy.calls k A5 c5 y t1 _ ?_ HC5.out AC.out).mono ?_); (exact Kd.C_below HR5.out (below_drew1 HZ.out.b)); rintro e w16 ⟨v16, rfl, ho, hb0⟩; have hb : Below W'.heap.size W' w16 := below_step (below_drew1 (Below.refl _ _)) hb0; obtain ⟨gg, cc, Bn, bn, Bd, bd, e16, lg16, s0, s1, mn, md, gn, gd⟩ := first_elem ho hp1.out; subst e16; have HN := Aside0.mk (Kd.F_now gn); have HD := Aside0.mk (Kd.F_now gd); have nZ_ := Aside0.mk (HZ.out.below hb); clear HZ hD0 hL0 hL1 gn gd ho hb0 hb; have HZ := nZ_; clear nZ_; have hD0 : w16.cell? ⟨w.heap.size, 0, none⟩ = some (.int .i64 d0) := (blk_cell HZ.out.d 0).trans rfl; have hD1 : w16.cell? ⟨w.heap.size, 1, none⟩ = some (.int .i64 d1) := (blk_cell HZ.out.d 1).trans rfl; have hL0 : w16.cell? ⟨L, 0, none⟩ = some (.slice An (rd_T41 t1 0).f0.length cn) := (blk_cell HZ.out.l 0).trans rfl; have hL1 : w16.cell? ⟨L, 1, none⟩ = some (.slice (some ⟨M, 0, none⟩) 1 1) := (blk_cell HZ.out.l 1).trans rfl; have hD0a := cell_alloc hD0; have hL0a := cell_alloc hL0; have hL1a := cell_alloc hL1; have s0a := cell_alloc s0; have s1a := cell_alloc s1)
          (try go_wp2_with (fail))
          refine hK.out _ _ ⟨hL0, hL1, hD0⟩ (fun hHeld => ?_)
          clear hK K
          try simp only [Act.put, List.setIfInBounds_toArray, List.set_cons_zero, List.set_cons_succ]
          refine wpAnyH_imp (S' := fun W2 => (W2.cell? ⟨L, 0, none⟩ = some (.slice An (rd_T41 t1 0).f0.length cn) ∧ W2.cell? ⟨L, 1, none⟩ = some (.slice (some ⟨M, 0, none⟩) 1 1) ∧ W2.cell? ⟨w.heap.size, 0, none⟩ = some (.int .i64 d0)) ∧ W2.cell? ⟨gg, 0, none⟩ = some (.slice Bn (rd_T41 t1 0).f0.length bn) ∧ W2.cell? ⟨gg, 1, none⟩ = some (.slice Bd (rd_T41 t1 0).f1.length bd)) (fun W2 h2 => h2.1) _ _ _ _ ?_
          have hHeld2 : (fun W2 : World => (W2.cell? ⟨L, 0, none⟩ = some (.slice An (rd_T41 t1 0).f0.length cn) ∧ W2.cell? ⟨L, 1, none⟩ = some (.slice (some ⟨M, 0, none⟩) 1 1) ∧ W2.cell? ⟨w.heap.size, 0, none⟩ = some (.int .i64 d0)) ∧ W2.cell? ⟨gg, 0, none⟩ = some (.slice Bn (rd_T41 t1 0).f0.length bn) ∧ W2.cell? ⟨gg, 1, none⟩ = some (.slice Bd (rd_T41 t1 0).f1.length bd)) w16 := ⟨⟨hL0, hL1, hD0⟩, s0, s1⟩
          refine takeH (i := 6) (N := some 59) (v := ?_) rfl rfl (by kernel_rfl) (by kernel_rfl) (by kernel_rfl) (fun _ _ _ h => h) (Or.inl ⟨by rfl, ?_⟩) (by assumption) ?_
          rotate_left
          · intro w2 hSw
            obtain ⟨⟨h1, h2, h3⟩, h4, h5⟩ := hSw
            go_simp
            (try with_reducible rfl)
          try simp only [Act.put, List.setIfInBounds_toArray, List.set_cons_zero, List.set_cons_succ]
          refine takeH (i := 7) (N := some 60) (v := ?_) rfl rfl (by kernel_rfl) (by kernel_rfl) (by kernel_rfl) (fun _ _ _ h => h) (Or.inl ⟨by rfl, ?_⟩) (by assumption) ?_
          rotate_left
          · intro w2 hSw
            obtain ⟨⟨h1, h2, h3⟩, h4, h5⟩ := hSw
            go_simp
            (try with_reducible rfl)
          try simp only [Act.put, List.setIfInBounds_toArray, List.set_cons_zero, List.set_cons_succ]
          refine wpAnyH_ready (rs := [9, 11]) (by kernel_rfl) (by simp) ?_
          refine stepH (i := 9) (N := some 62) rfl rfl (fun K hK => ?_) (stepH (i := 11) (N := some 64) rfl rfl (fun K hK => ?_) (AllReadyH.nil))
          · go_simp
            refine hK.out _ _ ⟨⟨cell_alloc hL0 _, cell_alloc hL1 _, cell_alloc hD0 _⟩, cell_alloc s0 _, cell_alloc s1 _⟩ (fun hHeld => ?_)
            clear hK K
            try simp only [Act.put, List.setIfInBounds_toArray, List.set_cons_zero, List.set_cons_succ]
            refine wpAnyH_ready (rs := [11]) (by kernel_rfl) (by simp) ?_
            refine stepH (i := 11) (N := some 64) rfl rfl (fun K hK => ?_) (AllReadyH.nil)
            go_simp
            (go_at_call 13; (with_reducible refine (colophonlaw20_twin.calls k _ _ l1 tp _ ?_ HC1.out AT.out).mono ?_); (exact Kd.C_below HR1.out (by first | exact HZ.out.b | exact below_alloc HZ.out.b _)); rintro e w17 ⟨v17, rfl, ho, hb0⟩; have KP := Aside0.mk (fun (b : Nat) (o : Obj) h => blk_below (b := b) (o := o) h hb0); have hb : Below w16.heap.size w16 w17 := (by first | exact hb0 | exact below_step (below_alloc (Below.refl _ _) _) hb0); obtain ⟨A17, c17, e17⟩ := Kd.S_slice ho; subst e17; have HO := Aside0.mk (Kd.S_reads' ho).2; have nZ_ := Aside0.mk (HZ.out.below hb); have nN_ := Aside0.mk (Kd.C_below HN.out hb); have nD_ := Aside0.mk (Kd.C_below HD.out hb); have r0 := cell_below s0 hb; have r1 := cell_below s1 hb; clear HZ HN HD hD0 hD1 hL0 hL1 hD0a hL0a hL1a s0a s1a s0 s1 ho hb0 hb; have HZ := nZ_; have HN := nN_; have HD := nD_; have s0 := r0; have s1 := r1; clear nZ_ nN_ nD_ r0 r1; have hD0 : w17.cell? ⟨w.heap.size, 0, none⟩ = some (.int .i64 d0) := (blk_cell HZ.out.d 0).trans rfl; have hD1 : w17.cell? ⟨w.heap.size, 1, none⟩ = some (.int .i64 d1) := (blk_cell HZ.out.d 1).trans rfl; have hL0 : w17.cell? ⟨L, 0, none⟩ = some (.slice An (rd_T41 t1 0).f0.length cn) := (blk_cell HZ.out.l 0).trans rfl; have hL1 : w17.cell? ⟨L, 1, none⟩ = some (.slice (some ⟨M, 0, none⟩) 1 1) := (blk_cell HZ.out.l 1).trans rfl; have hD0a := cell_alloc hD0; have hL0a := cell_alloc hL0; have hL1a := cell_alloc hL1; have s0a := cell_alloc s0; have s1a := cell_alloc s1)
            (try go_wp2_with (fail))
            refine hK.out _ _ ⟨⟨hL0, hL1, hD0⟩, s0, s1⟩ (fun hHeld => ?_)
            clear hK K
            try simp only [Act.put, List.setIfInBounds_toArray, List.set_cons_zero, List.set_cons_succ]
            refine wpAnyH_ready (rs := [14]) (by kernel_rfl) (by simp) ?_
            refine stepH (i := 14) (N := some 67) rfl rfl (fun K hK => ?_) (AllReadyH.nil)
            go_simp
            (go_at_call 12; (with_reducible refine (winner2 k _ _ (rd_T41 t1 0) ⟨(rd_T41 t1 0).f0, [⟨d0, d1⟩]⟩ _ _ tp d0 d1 true _ ?_ (Nat.le_refl _) ?_ HO.out.1 AX.out).mono ?_); (first | exact lz_pair HZ.out (KP.out _ _ (heap_alloc_new _ _)) mn HN.out md HD.out | exact lz_pair (HZ.out.below (below_alloc (Below.refl _ _) _)) (heap_alloc_new _ _) mn (Kd.C_alloc HN.out _) md (Kd.C_alloc HD.out _)); (first | exact HO.out.2 | exact Kd.C_alloc HO.out.2 _); rintro e w18 ⟨rfl, hb0⟩; have hb : Below w17.heap.size w17 w18 := (by first | exact hb0 | exact below_step (below_alloc (Below.refl _ _) _) hb0); have nZ_ := Aside0.mk (HZ.out.below hb); have r0 := cell_below s0 hb; have r1 := cell_below s1 hb; clear HZ hD0 hD1 hL0 hL1 hD0a hL0a hL1a s0a s1a s0 s1 hb0 hb; have HZ := nZ_; have s0 := r0; have s1 := r1; clear nZ_ r0 r1; have HB := Aside0.mk HZ.out.b; have hD0 : w18.cell? ⟨w.heap.size, 0, none⟩ = some (.int .i64 d0) := (blk_cell HZ.out.d 0).trans rfl; have hD1 : w18.cell? ⟨w.heap.size, 1, none⟩ = some (.int .i64 d1) := (blk_cell HZ.out.d 1).trans rfl; have hL0 : w18.cell? ⟨L, 0, none⟩ = some (.slice An (rd_T41 t1 0).f0.length cn) := (blk_cell HZ.out.l 0).trans rfl; have hL1 : w18.cell? ⟨L, 1, none⟩ = some (.slice (some ⟨M, 0, none⟩) 1 1) := (blk_cell HZ.out.l 1).trans rfl)
            (try go_wp2_with (fail))
            refine hK.out _ _ ⟨⟨hL0, hL1, hD0⟩, s0, s1⟩ (fun hHeld => ?_)
            clear hK K
            try simp only [Act.put, List.setIfInBounds_toArray, List.set_cons_zero, List.set_cons_succ]
            refine takeH (i := 15) (N := some 52) (v := ?_) rfl rfl (by kernel_rfl) (by kernel_rfl) (by kernel_rfl) (fun _ _ _ h => h) (Or.inl ⟨by rfl, ?_⟩) (by assumption) ?_
            rotate_left
            · intro w2 hSw
              obtain ⟨⟨h1, h2, h3⟩, h4, h5⟩ := hSw
              go_simp
              (try with_reducible rfl)
            try simp only [Act.put, List.setIfInBounds_toArray, List.set_cons_zero, List.set_cons_succ]
            refine takeH (i := 16) (N := some 68) (v := ?_) rfl rfl (by kernel_rfl) (by kernel_rfl) (by kernel_rfl) (fun _ _ _ h => h) (Or.inl ⟨by rfl, ?_⟩) (by assumption) ?_
            rotate_left
            · intro w2 hSw
              obtain ⟨⟨h1, h2, h3⟩, h4, h5⟩ := hSw
              go_simp
              (try with_reducible rfl)
            try simp only [Act.put, List.setIfInBounds_toArray, List.set_cons_zero, List.set_cons_succ]
            refine takeH (i := 17) (N := some 69) (v := ?_) rfl rfl (by kernel_rfl) (by kernel_rfl) (by kernel_rfl) (fun _ _ _ h => h) (Or.inl ⟨by rfl, ?_⟩) (by assumption) ?_
            rotate_left
            · intro w2 hSw
              obtain ⟨⟨h1, h2, h3⟩, h4, h5⟩ := hSw
              go_simp
              (try with_reducible rfl)
            try simp only [Act.put, List.setIfInBounds_toArray, List.set_cons_zero, List.set_cons_succ]
            refine takeH (i := 18) (N := some 10) (v := ?_) rfl rfl (by kernel_rfl) (by kernel_rfl) (by kernel_rfl) (fun _ _ _ h => h) (Or.inl ⟨by rfl, ?_⟩) (by assumption) ?_
            rotate_left
            · intro w2 hSw
              obtain ⟨⟨h1, h2, h3⟩, h4, h5⟩ := hSw
              go_simp
              (try with_reducible rfl)
            try simp only [Act.put, List.setIfInBounds_toArray, List.set_cons_zero, List.set_cons_succ]
            refine takeH (i := 19) (N := some 11) (v := ?_) rfl rfl (by kernel_rfl) (by kernel_rfl) (by kernel_rfl) (fun _ _ _ h => h) (Or.inl ⟨by rfl, ?_⟩) (by assumption) ?_
            rotate_left
            · intro w2 hSw
              obtain ⟨⟨h1, h2, h3⟩, h4, h5⟩ := hSw
              go_simp
              (try with_reducible rfl)
            try simp only [Act.put, List.setIfInBounds_toArray, List.set_cons_zero, List.set_cons_succ]
            refine wpAnyH_done (by kernel_rfl) ?_ _
            go_wp2_with (first | (go_at_call 10; (with_reducible refine (colophonlaw20_wakes.calls k r _ AW.out).mono ?_); rintro e w9 ⟨rfl, hb⟩; have nB_ := Aside0.mk (below_step HB.out hb); clear HB; have HB := nB_; clear nB_ hb))
            go_ret
            exact ⟨rfl, HB.out⟩
          · go_simp
            (go_at_call 13; (with_reducible refine (colophonlaw20_twin.calls k _ _ l1 tp _ ?_ HC1.out AT.out).mono ?_); (exact Kd.C_below HR1.out (by first | exact HZ.out.b | exact below_alloc HZ.out.b _)); rintro e w17 ⟨v17, rfl, ho, hb0⟩; have KP := Aside0.mk (fun (b : Nat) (o : Obj) h => blk_below (b := b) (o := o) h hb0); have hb : Below w16.heap.size w16 w17 := (by first | exact hb0 | exact below_step (below_alloc (Below.refl _ _) _) hb0); obtain ⟨A17, c17, e17⟩ := Kd.S_slice ho; subst e17; have HO := Aside0.mk (Kd.S_reads' ho).2; have nZ_ := Aside0.mk (HZ.out.below hb); have nN_ := Aside0.mk (Kd.C_below HN.out hb); have nD_ := Aside0.mk (Kd.C_below HD.out hb); have r0 := cell_below s0 hb; have r1 := cell_below s1 hb; clear HZ HN HD hD0 hD1 hL0 hL1 hD0a hL0a hL1a s0a s1a s0 s1 ho hb0 hb; have HZ := nZ_; have HN := nN_; have HD := nD_; have s0 := r0; have s1 := r1; clear nZ_ nN_ nD_ r0 r1; have hD0 : w17.cell? ⟨w.heap.size, 0, none⟩ = some (.int .i64 d0) := (blk_cell HZ.out.d 0).trans rfl; have hD1 : w17.cell? ⟨w.heap.size, 1, none⟩ = some (.int .i64 d1) := (blk_cell HZ.out.d 1).trans rfl; have hL0 : w17.cell? ⟨L, 0, none⟩ = some (.slice An (rd_T41 t1 0).f0.length cn) := (blk_cell HZ.out.l 0).trans rfl; have hL1 : w17.cell? ⟨L, 1, none⟩ = some (.slice (some ⟨M, 0, none⟩) 1 1) := (blk_cell HZ.out.l 1).trans rfl; have hD0a := cell_alloc hD0; have hL0a := cell_alloc hL0; have hL1a := cell_alloc hL1; have s0a := cell_alloc s0; have s1a := cell_alloc s1)
            (try go_wp2_with (fail))
            refine hK.out _ _ ⟨⟨hL0, hL1, hD0⟩, s0, s1⟩ (fun hHeld => ?_)
            clear hK K
            try simp only [Act.put, List.setIfInBounds_toArray, List.set_cons_zero, List.set_cons_succ]
            refine wpAnyH_ready (rs := [9]) (by kernel_rfl) (by simp) ?_
            refine stepH (i := 9) (N := some 62) rfl rfl (fun K hK => ?_) (AllReadyH.nil)
            go_simp
            refine hK.out _ _ ⟨⟨cell_alloc hL0 _, cell_alloc hL1 _, cell_alloc hD0 _⟩, cell_alloc s0 _, cell_alloc s1 _⟩ (fun hHeld => ?_)
            clear hK K
            try simp only [Act.put, List.setIfInBounds_toArray, List.set_cons_zero, List.set_cons_succ]
            refine wpAnyH_ready (rs := [14]) (by kernel_rfl) (by simp) ?_
            refine stepH (i := 14) (N := some 67) rfl rfl (fun K hK => ?_) (AllReadyH.nil)
            go_simp
            (go_at_call 12; (with_reducible refine (winner2 k _ _ (rd_T41 t1 0) ⟨(rd_T41 t1 0).f0, [⟨d0, d1⟩]⟩ _ _ tp d0 d1 true _ ?_ (Nat.le_refl _) ?_ HO.out.1 AX.out).mono ?_); (first | exact lz_pair HZ.out (KP.out _ _ (heap_alloc_new _ _)) mn HN.out md HD.out | exact lz_pair (HZ.out.below (below_alloc (Below.refl _ _) _)) (heap_alloc_new _ _) mn (Kd.C_alloc HN.out _) md (Kd.C_alloc HD.out _)); (first | exact HO.out.2 | exact Kd.C_alloc HO.out.2 _); rintro e w18 ⟨rfl, hb0⟩; have hb : Below w17.heap.size w17 w18 := (by first | exact hb0 | exact below_step (below_alloc (Below.refl _ _) _) hb0); have nZ_ := Aside0.mk (HZ.out.below hb); have r0 := cell_below s0 hb; have r1 := cell_below s1 hb; clear HZ hD0 hD1 hL0 hL1 hD0a hL0a hL1a s0a s1a s0 s1 hb0 hb; have HZ := nZ_; have s0 := r0; have s1 := r1; clear nZ_ r0 r1; have HB := Aside0.mk HZ.out.b; have hD0 : w18.cell? ⟨w.heap.size, 0, none⟩ = some (.int .i64 d0) := (blk_cell HZ.out.d 0).trans rfl; have hD1 : w18.cell? ⟨w.heap.size, 1, none⟩ = some (.int .i64 d1) := (blk_cell HZ.out.d 1).trans rfl; have hL0 : w18.cell? ⟨L, 0, none⟩ = some (.slice An (rd_T41 t1 0).f0.length cn) := (blk_cell HZ.out.l 0).trans rfl; have hL1 : w18.cell? ⟨L, 1, none⟩ = some (.slice (some ⟨M, 0, none⟩) 1 1) := (blk_cell HZ.out.l 1).trans rfl)
            (try go_wp2_with (fail))
            refine hK.out _ _ ⟨⟨hL0, hL1, hD0⟩, s0, s1⟩ (fun hHeld => ?_)
            clear hK K
            try simp only [Act.put, List.setIfInBounds_toArray, List.set_cons_zero, List.set_cons_succ]
            refine takeH (i := 15) (N := some 52) (v := ?_) rfl rfl (by kernel_rfl) (by kernel_rfl) (by kernel_rfl) (fun _ _ _ h => h) (Or.inl ⟨by rfl, ?_⟩) (by assumption) ?_
            rotate_left
            · intro w2 hSw
              obtain ⟨⟨h1, h2, h3⟩, h4, h5⟩ := hSw
              go_simp
              (try with_reducible rfl)
            try simp only [Act.put, List.setIfInBounds_toArray, List.set_cons_zero, List.set_cons_succ]
            refine takeH (i := 16) (N := some 68) (v := ?_) rfl rfl (by kernel_rfl) (by kernel_rfl) (by kernel_rfl) (fun _ _ _ h => h) (Or.inl ⟨by rfl, ?_⟩) (by assumption) ?_
            rotate_left
            · intro w2 hSw
              obtain ⟨⟨h1, h2, h3⟩, h4, h5⟩ := hSw
              go_simp
              (try with_reducible rfl)
            try simp only [Act.put, List.setIfInBounds_toArray, List.set_cons_zero, List.set_cons_succ]
            refine takeH (i := 17) (N := some 69) (v := ?_) rfl rfl (by kernel_rfl) (by kernel_rfl) (by kernel_rfl) (fun _ _ _ h => h) (Or.inl ⟨by rfl, ?_⟩) (by assumption) ?_
            rotate_left
            · intro w2 hSw
              obtain ⟨⟨h1, h2, h3⟩, h4, h5⟩ := hSw
              go_simp
              (try with_reducible rfl)
            try simp only [Act.put, List.setIfInBounds_toArray, List.set_cons_zero, List.set_cons_succ]
            refine takeH (i := 18) (N := some 10) (v := ?_) rfl rfl (by kernel_rfl) (by kernel_rfl) (by kernel_rfl) (fun _ _ _ h => h) (Or.inl ⟨by rfl, ?_⟩) (by assumption) ?_
            rotate_left
            · intro w2 hSw
              obtain ⟨⟨h1, h2, h3⟩, h4, h5⟩ := hSw
              go_simp
              (try with_reducible rfl)
            try simp only [Act.put, List.setIfInBounds_toArray, List.set_cons_zero, List.set_cons_succ]
            refine takeH (i := 19) (N := some 11) (v := ?_) rfl rfl (by kernel_rfl) (by kernel_rfl) (by kernel_rfl) (fun _ _ _ h => h) (Or.inl ⟨by rfl, ?_⟩) (by assumption) ?_
            rotate_left
            · intro w2 hSw
              obtain ⟨⟨h1, h2, h3⟩, h4, h5⟩ := hSw
              go_simp
              (try with_reducible rfl)
            try simp only [Act.put, List.setIfInBounds_toArray, List.set_cons_zero, List.set_cons_succ]
            refine wpAnyH_done (by kernel_rfl) ?_ _
            go_wp2_with (first | (go_at_call 10; (with_reducible refine (colophonlaw20_wakes.calls k r _ AW.out).mono ?_); rintro e w9 ⟨rfl, hb⟩; have nB_ := Aside0.mk (below_step HB.out hb); clear HB; have HB := nB_; clear nB_ hb))
            go_ret
            exact ⟨rfl, HB.out⟩
end Go.Proofs.Ytpembifnjlekdaa.PStyleLast
