/- furnish.walk, with the function literal that Expand calls it with. -/
import Derived.Test.YtmcdcpejkldepaaDoorFurnC
import Derived.Laws.Cover4
import Derived.Laws.EntriesVeiled
namespace Go.Proofs.YtmcdcpejkldepaaDoor.Furn
open Go.RowKit Go.Proofs.YtmcdcpejkldepaaDoorW.PrintWords Go.Proofs.YtmcdcpejkldepaaDoorW.PrintLast Go.Proofs.YtmcdcpejkldepaaDoorW.PrintMore
set_option linter.unusedVariables false
set_option linter.unusedSimpArgs false
theorem Env.iterAt {w0 : World} {b ba bp bq bt : Nat} {page pages : Int} {A : Option Addr} {c : Nat} {title : List Int} {w : World} (h : Env w0 b ba bp bq bt page pages A c title w) {k : Nat} {s : ByteArray} {pos : Nat}
    (hk : w.heap[k]? = some (.stringIter s pos)) (hb : b ≤ k) (pos' : Nat) : Env w0 b ba bp bq bt page pages A c title (w.iterAt k s pos') := by
  refine ⟨h.low, Lib.below_iterAt h.below hb s pos', ?_, h.pageB, h.pagesB, h.titleB, h.row, h.tabs⟩
  refine (Lib.iterAt_other w k ba s pos' ?_).trans h.add
  intro e1
  have h2 := h.add
  rw [e1, hk] at h2
  cases h2
theorem enc_size (r : Int) : (Utf8.encode r).size ≤ 4 := encode_size_le r
theorem runesFrom_len (s : ByteArray) : ∀ (f pos : Nat), (runesFrom s f pos).length ≤ s.size - pos := by
  intro f
  induction f with
  | zero => intro pos; simp [runesFrom]
  | succ f ih =>
    intro pos
    rw [runesFrom]
    split
    · rename_i h
      have h1 := ih (pos + (Utf8.decode s pos).2)
      have h2 := width_pos s pos h
      rw [List.length_cons]
      omega
    · simp
theorem said_len {page pages : Int} (title : List Int) (p : ByteArray) (hpg : -9223372036854775808 ≤ page ∧ page ≤ 9223372036854775807) (hps : -9223372036854775808 ≤ pages ∧ pages ≤ 9223372036854775807) (hp : p.size ≤ 7) : (said page pages title p).length ≤ title.length + 40 := by
  have h1 := runesFrom_len ⟨(Lib.itoa page).toArray⟩ (⟨(Lib.itoa page).toArray⟩ : ByteArray).size 0
  have h2 := runesFrom_len ⟨(Lib.itoa pages).toArray⟩ (⟨(Lib.itoa pages).toArray⟩ : ByteArray).size 0
  have h3 := runesFrom_len p p.size 0
  have h4 := Lib.itoa_length_le page hpg.1 hpg.2
  have h5 := Lib.itoa_length_le pages hps.1 hps.2
  have e1 : (⟨(Lib.itoa page).toArray⟩ : ByteArray).size = (Lib.itoa page).length := rfl
  have e2 : (⟨(Lib.itoa pages).toArray⟩ : ByteArray).size = (Lib.itoa pages).length := rfl
  rw [e1] at h1
  rw [e2] at h2
  unfold said runes
  repeat' split
  · simp
  · rw [e1]; omega
  · rw [e2]; omega
  · omega
  · omega
theorem said_more {page pages : Int} {title : List Int} {acc : List ByteArray} {p : ByteArray} (h : (acc.flatMap (said page pages title)).length ≤ acc.length * (title.length + 40)) (hp : p.size ≤ 7)
    (hpg : -9223372036854775808 ≤ page ∧ page ≤ 9223372036854775807) (hps : -9223372036854775808 ≤ pages ∧ pages ≤ 9223372036854775807) : ((acc ++ [p]).flatMap (said page pages title)).length ≤ (acc ++ [p]).length * (title.length + 40) := by
  have h1 := said_len title p hpg hps hp
  rw [List.flatMap_append, List.flatMap_singleton, List.length_append, List.length_append, List.length_singleton, Nat.add_mul, Nat.one_mul]
  omega
set_option maxHeartbeats 4000000 in
set_option maxRecDepth 100000 in
theorem walk25 (hsign : ∀ (s : ByteArray) (w : World), Calls Tryd.prog 36 #[.string s] w fun e w' => e = .returned (.string (signP s)) ∧ Below w.heap.size w w') (s : ByteArray) (w : World) (hs : s.size ≤ 4096)
    {w0 : World} {b ba bp bq bt : Nat} {page pages : Int} {A : Option Addr} {c : Nat} {title : List Int} (E : Env w0 b ba bp bq bt page pages A c title w) (xs : List Int) (hO : Out b xs w) (hne : ba ≠ b)
    (hpg : -9223372036854775808 ≤ page ∧ page ≤ 9223372036854775807) (hps : -9223372036854775808 ≤ pages ∧ pages ≤ 9223372036854775807) (hxs : xs.length ≤ 1000) (htl : title.length ≤ 100000) :
    Calls Tryd.prog 21 #[.string s, .func (.func 25) #[] #[.pointer (some ⟨ba, 0, none⟩), .pointer (some ⟨bp, 0, none⟩), .pointer (some ⟨bq, 0, none⟩), .pointer (some ⟨b, 0, none⟩), .pointer (some ⟨bt, 0, none⟩)]] w fun e w' =>
      e = .returned (.tuple #[.int .i64 (walkF s).1, .bool (walkF s).2.1]) ∧ Out b (xs ++ (walkF s).2.2.flatMap (said page pages title)) w' ∧ Below b w w' := by
  have HE := Aside0.mk E
  have HO := Aside0.mk hO
  have HN := Aside0.mk hne
  have HP := Aside0.mk hpg
  have HQ := Aside0.mk hps
  have HT := Aside0.mk htl
  have HX := Aside0.mk hxs
  have HB := Aside0.mk hO.lt
  have room : Aside0 (∀ (acc : List ByteArray) (n : Nat), (acc.flatMap (said page pages title)).length ≤ acc.length * (title.length + 40) → acc.length ≤ n → n ≤ 4096 → (xs ++ acc.flatMap (said page pages title)).length + title.length + 7 + 30 < 17592186044416) := ⟨fun acc n h1 h2 h3 => by
    have h4 : acc.length * (title.length + 40) ≤ 4096 * 100040 := Nat.mul_le_mul (by omega) (by omega)
    rw [List.length_append]
    omega⟩
  clear E hO hne hpg hps hxs htl
  go_enter Tryd.func21, Tryd.ntmps21
  go_wp2
  go_loopw [6] (fun v6 wr => ∃ (pos fuel skip : Nat) (acc : List ByteArray), v6 = .int .i64 (skip : Int) ∧ Aside0 (wr.heap[w.heap.size]? = some (.stringIter s pos)) ∧ Aside0 (Below b w wr) ∧ Aside0 (Env w0 b ba bp bq bt page pages A c title wr) ∧ Aside0 (Out b (xs ++ acc.flatMap (said page pages title)) wr) ∧ Aside0 ((acc.flatMap (said page pages title)).length ≤ acc.length * (title.length + 40) ∧ acc.length ≤ pos) ∧ Aside0 (walkFrom s fuel pos skip acc = walkF s) ∧ Aside0 (s.size ≤ pos + fuel) ∧ Aside0 (skip ≤ s.size + 7)) (fun _ wr => s.size - wr.iterPos w.heap.size)
  case atStart =>
    exact ⟨0, s.size, 0, [], rfl, ⟨World.iter_heap w s 0⟩, ⟨(Below.refl _ w).alloc (Nat.le_of_lt HB.out) _⟩, ⟨HE.out.step HN.out ((Below.refl _ w).alloc (Nat.le_of_lt HB.out) _) ((Lib.OthersKept.refl _ _ _).alloc _)⟩, ⟨by rw [List.flatMap_nil, List.append_nil]; exact HO.out.below (below_alloc (Below.refl _ _) _)⟩, ⟨by simp⟩, ⟨rfl⟩, ⟨by omega⟩, ⟨by omega⟩⟩
  case round =>
    obtain ⟨pos, fuel, skip, acc, rfl, hit, hbw, hE, hO, hln, hacc, hfu, hsk⟩ := hrel
    by_cases hp : pos < s.size
    · have hnx : ∀ ty, (Instr.next (.pointer (some ⟨w.heap.size, 0, none⟩)) true ty).run Tryd.prog wr = _ := fun ty => Lib.run_next_any_at wr w.heap.size s pos ty hit.out hp
      have hwd := width_pos s pos hp
      have hd1 := decode_le s pos
      have hit2 := Lib.iterAt_heap wr w.heap.size s pos (pos + (Utf8.decode s pos).2) hit.out
      have hbw2 := Lib.below_iterAt hbw.out (k := w.heap.size) (Nat.le_of_lt HB.out) s (pos + (Utf8.decode s pos).2)
      have HE2 := Aside0.mk (hE.out.iterAt hit.out (Nat.le_of_lt HB.out) (pos + (Utf8.decode s pos).2))
      have HO2 := Aside0.mk (hO.out.iterAt hit.out (pos + (Utf8.decode s pos).2))
      have hp4 : Aside0 (pos ≤ 4096) := ⟨by omega⟩
      obtain ⟨f, rfl⟩ : ∃ f, fuel = f + 1 := ⟨fuel - 1, by have := hfu.out; omega⟩
      replace hacc := hacc.out
      rw [walkFrom, if_pos hp] at hacc
      generalize wr.iterAt w.heap.size s (pos + (Utf8.decode s pos).2) = W2 at *
      have Hit2 := Aside0.mk hit2
      have Hbw2 := Aside0.mk hbw2
      have Hwd := Aside0.mk hwd
      have Hd1 := Aside0.mk hd1
      have Hp := Aside0.mk hp
      clear hit2 hbw2 hwd hp
      by_cases hs1 : pos < skip
      · rw [if_pos hs1] at hacc
        have Hacc := Aside0.mk hacc
        clear hacc
        have q1 : ((pos : Int) < (skip : Int)) = True := eq_true (by omega)
        have q2 : decide ((pos : Int) < (skip : Int)) = true := decide_eq_true (by omega)
        clear hs1 hd1
        go_wp2
        refine wp_scope_two (by rfl) (by rfl) ?_
        go_wp2
        go_step3
        refine Or.inr ⟨rfl, ?_⟩
        go_wp2
        rw [Exit.noGoto_normal]
        go_roundw
        case rel => exact ⟨_, _, _, _, _, _, _, _, _, _, _, _, _, _, _, _, _, _, _, _, _, _, _, _, _, _, _, _, _, _, _, _, _, ⟨_, f, skip, acc, rfl, Hit2, Hbw2, HE2, HO2, ⟨hln.out.1, Nat.le_trans hln.out.2 (Nat.le_add_right _ _)⟩, Hacc, ⟨by have := hfu.out; have := Hwd.out; omega⟩, hsk⟩, rfl⟩
        case measure =>
          have h1 := Hit2.out
          have h2 := hit.out
          have h3 := Hwd.out
          have h4 := Hp.out
          simp only [World.iterPos, h1, h2]
          omega
      · rw [if_neg hs1] at hacc
        have q1 : ((pos : Int) < (skip : Int)) = False := eq_false (by omega)
        have q2 : decide ((pos : Int) < (skip : Int)) = false := decide_eq_false (by omega)
        clear hs1
        by_cases hr : (Utf8.decode s pos).1 ≠ 123
        · rw [if_pos hr] at hacc
          have Hacc := Aside0.mk hacc
          clear hacc
          have r1 : (((Utf8.decode s pos).1 : Int) == 123) = false := beq_eq_false_iff_ne.mpr (by omega)
          have r2 : (((Utf8.decode s pos).1 : Int) != 123) = true := bne_iff_ne.mpr (by omega)
          have r3 : ¬ (((Utf8.decode s pos).1 : Int) = 123) := by omega
          clear hr hd1
          go_wp2
          refine wp_scope_two (by rfl) (by rfl) ?_
          go_wp2
          go_step3
          refine Or.inl ⟨rfl, ?_⟩
          go_wp2_with (go_at_call 25; refine (piece_calls HE2.out _ HO2.out (Utf8.encode ((Utf8.decode s pos).1 : Int)) HN.out HP.out HQ.out (by have := room.out acc pos hln.out.1 hln.out.2 hp4.out; have := enc_size ((Utf8.decode s pos).1 : Int); omega)).mono ?_; rintro e w1 ⟨rfl, hO1, hb1, ho1⟩; have HO1 := Aside0.mk hO1; have HB1 := Aside0.mk hb1; have HH1 := Aside0.mk ho1; clear hO1 hb1 ho1)
          have Hit3 : Aside0 (w1.heap[w.heap.size]? = some (.stringIter s (pos + (Utf8.decode s pos).2))) := ⟨HH1.out.iter Hit2.out (Nat.ne_of_gt HB.out)⟩
          go_step3
          go_roundw
          case rel => exact ⟨_, _, _, _, _, _, _, _, _, _, _, _, _, _, _, _, _, _, _, _, _, _, _, _, _, _, _, _, _, _, _, _, _, ⟨_, f, skip, _, rfl, Hit3, ⟨Hbw2.out.trans HB1.out⟩, ⟨HE2.out.step HN.out HB1.out HH1.out⟩, ⟨by have h := HO1.out; rw [List.append_assoc] at h; rw [List.flatMap_append, List.flatMap_singleton]; exact h⟩, ⟨said_more hln.out.1 (Nat.le_trans (enc_size _) (by decide)) HP.out HQ.out, by have := hln.out.2; have := Hwd.out; rw [List.length_append, List.length_singleton]; omega⟩, Hacc, ⟨by have := hfu.out; have := Hwd.out; omega⟩, hsk⟩, rfl⟩
          case measure =>
            have h1 := Hit3.out
            have h2 := hit.out
            have h3 := Hwd.out
            have h4 := Hp.out
            simp only [World.iterPos, h1, h2]
            omega
        · rw [if_neg hr] at hacc
          have r1 : (((Utf8.decode s pos).1 : Int) == 123) = true := beq_iff_eq.mpr (by omega)
          have r2 : (((Utf8.decode s pos).1 : Int) != 123) = false := bne_eq_false_iff_eq.mpr (by omega)
          have r3 : ((Utf8.decode s pos).1 : Int) = 123 := by omega
          clear hr hd1
          have b1 : ((0 : Int) ≤ (pos : Int)) = True := eq_true (by omega)
          have b2 : ((pos : Int) ≤ (s.size : Int)) = True := eq_true (by have := Hp.out; omega)
          obtain ⟨x, hx⟩ : ∃ x, x = signP (s.extract pos s.size) := ⟨_, rfl⟩
          have Hx := Aside0.mk hx
          have hxs := sign_size (s.extract pos s.size)
          rw [← hx] at hacc hxs
          clear hx
          by_cases hz : x.toList ≠ []
          · rw [if_pos hz] at hacc
            have Hacc := Aside0.mk hacc
            have Hxs := Aside0.mk hxs
            clear hacc hxs
            have z1 : (x.toList == []) = false := beq_eq_false_iff_ne.mpr hz
            clear hz
            go_wp2
            refine wp_scope_two (by rfl) (by rfl) ?_
            go_wp2_with (first | (go_at_call 36; refine (hsign _ _).mono ?_; rintro e w1 ⟨rfl, hb1⟩; rw [← Hx.out]; have HB1 := Aside0.mk hb1; clear hb1) | (go_at_call 25; refine (piece_calls (HE2.out.step HN.out (below_lower (Nat.le_of_lt HO2.out.lt) HB1.out) (kept_of_below HB1.out)) _ (HO2.out.below HB1.out) x HN.out HP.out HQ.out (by have := room.out acc pos hln.out.1 hln.out.2 hp4.out; have := Hxs.out; omega)).mono ?_; rintro e w2 ⟨rfl, hO1, hb2, ho2⟩; have HO1 := Aside0.mk hO1; have HB2 := Aside0.mk hb2; have HH2 := Aside0.mk ho2; clear hO1 hb2 ho2))
            go_step3
            refine Or.inr ⟨rfl, ?_⟩
            go_wp2
            have hw : wrap64 ((pos : Int) + (x.size : Int)) = ((pos + x.size : Nat) : Int) := by
              have := Hp.out
              have := Hxs.out
              unfold wrap64
              omega
            have Hit3 : Aside0 (w2.heap[w.heap.size]? = some (.stringIter s (pos + (Utf8.decode s pos).2))) := ⟨HH2.out.iter ((HB1.out.block _ (Array.getElem?_eq_some_iff.1 Hit2.out).1).trans Hit2.out) (Nat.ne_of_gt HB.out)⟩
            have HL := Aside0.mk (below_lower (Nat.le_of_lt HO2.out.lt) HB1.out)
            have Hbw3 : Aside0 (Below b w w2) := ⟨(Hbw2.out.trans HL.out).trans HB2.out⟩
            have HE3 := Aside0.mk ((HE2.out.step HN.out HL.out (kept_of_below HB1.out)).step HN.out HB2.out HH2.out)
            rw [Exit.noGoto_normal]
            go_roundw
            case rel => exact ⟨_, _, _, _, _, _, _, _, _, _, _, _, _, _, _, _, _, _, _, _, _, _, _, _, _, _, _, _, _, _, _, _, _, ⟨_, f, pos + x.size, _, (by rw [hw]), Hit3, Hbw3, HE3, ⟨by have h := HO1.out; rw [List.append_assoc] at h; rw [List.flatMap_append, List.flatMap_singleton]; exact h⟩, ⟨said_more hln.out.1 Hxs.out HP.out HQ.out, by have := hln.out.2; have := Hwd.out; rw [List.length_append, List.length_singleton]; omega⟩, Hacc, ⟨by have := hfu.out; have := Hwd.out; omega⟩, ⟨by have := Hp.out; have := Hxs.out; omega⟩⟩, rfl⟩
            case measure =>
              have h1 := Hit3.out
              have h2 := hit.out
              have h3 := Hwd.out
              have h4 := Hp.out
              simp only [World.iterPos, h1, h2]
              omega
          · rw [if_neg hz] at hacc
            have Hacc := Aside0.mk hacc
            clear hacc hxs
            have z0 : x.toList = [] := Decidable.not_not.1 hz
            have z1 : (x.toList == []) = true := by rw [z0]; rfl
            clear hz
            go_wp2
            refine wp_scope_two (by rfl) (by rfl) ?_
            go_wp2_with (go_at_call 36; refine (hsign _ _).mono ?_; rintro e w1 ⟨rfl, hb1⟩; rw [← Hx.out]; have HB1 := Aside0.mk hb1; clear hb1)
            rw [Exit.two_ret]
            refine (show bodyPost Tryd.prog Tryd.f21 (fun e w' => e = .returned (.tuple #[.int .i64 (walkF s).1, .bool (walkF s).2.1]) ∧ Out b (xs ++ (walkF s).2.2.flatMap (said page pages title)) w' ∧ Below b w w') .ret _ w1 from ?_)
            go_ret2
            rw [← Hacc.out]
            exact ⟨rfl, HO2.out.below HB1.out, Hbw2.out.trans (below_lower (Nat.le_of_lt HO2.out.lt) HB1.out)⟩
    · have hnx : ∀ ty, (Instr.next (.pointer (some ⟨w.heap.size, 0, none⟩)) true ty).run Tryd.prog wr = _ := fun ty => Lib.run_next_end_at wr w.heap.size s pos ty hit.out hp
      go_wp2
      go_ret2
      rw [walkFrom_end s fuel pos skip acc hp] at hacc
      rw [← hacc.out]
      exact ⟨rfl, hO.out, hbw.out⟩
/-! ### Expand's start: its boxes, and the two captured variables -/
def start (w1 : World) : World := (w1.alloc (.cells #[.slice none 0 0] 22)).alloc (.cells #[.nilFunc] 51)
theorem start_cell (w1 : World) : ((w1.alloc (.cells #[.slice none 0 0] 22)).alloc (.cells #[.nilFunc] 51)).heap[w1.heap.size + 1]? = some (.cells #[.nilFunc] 51 (0, 0)) := by
  show ((w1.heap.push _).push _)[w1.heap.size + 1]? = _
  rw [Array.getElem?_push, if_pos (by rw [Array.size_push])]
theorem start_fn (w1 : World) (u : Value) : ((w1.alloc (.cells #[.slice none 0 0] 22)).alloc (.cells #[u] 51)).heap[w1.heap.size + 1]? = some (.cells #[u] 51 (0, 0)) := by
  show ((w1.heap.push _).push _)[w1.heap.size + 1]? = _
  rw [Array.getElem?_push, if_pos (by rw [Array.size_push])]
theorem start_var (w1 : World) (u : Value) : ((w1.alloc (.cells #[.slice none 0 0] 22)).alloc (.cells #[u] 51)).heap[w1.heap.size]? = some (.cells #[.slice none 0 0] 22 (0, 0)) := by
  show ((w1.heap.push _).push _)[w1.heap.size]? = _
  simp [Array.getElem?_push]
theorem start_1 (w : World) (a1 a2 : Int) (A : Option Addr) (n c : Nat) : (((w.alloc (.cells #[.int .i64 a1] 3)).alloc (.cells #[.int .i64 a2] 3)).alloc (.cells #[.slice A n c] 22)).heap[w.heap.size]? = some (.cells #[.int .i64 a1] 3 (0, 0)) := by
  show (((w.heap.push _).push _).push _)[w.heap.size]? = _
  simp [Array.getElem?_push]
  omega
theorem start_2 (w : World) (a1 a2 : Int) (A : Option Addr) (n c : Nat) : (((w.alloc (.cells #[.int .i64 a1] 3)).alloc (.cells #[.int .i64 a2] 3)).alloc (.cells #[.slice A n c] 22)).heap[w.heap.size + 1]? = some (.cells #[.int .i64 a2] 3 (0, 0)) := by
  show (((w.heap.push _).push _).push _)[w.heap.size + 1]? = _
  rw [Array.getElem?_push, if_neg (by rw [Array.size_push, Array.size_push]; omega), Array.getElem?_push, if_pos (by rw [Array.size_push])]
theorem start_3 (w : World) (a1 a2 : Int) (A : Option Addr) (n c : Nat) : (((w.alloc (.cells #[.int .i64 a1] 3)).alloc (.cells #[.int .i64 a2] 3)).alloc (.cells #[.slice A n c] 22)).heap[w.heap.size + 1 + 1]? = some (.cells #[.slice A n c] 22 (0, 0)) := by
  show (((w.heap.push _).push _).push _)[w.heap.size + 1 + 1]? = _
  rw [Array.getElem?_push, if_pos (by rw [Array.size_push, Array.size_push])]
theorem start_old {W w1 : World} (hb : Below W.heap.size W w1) {k : Nat} {o : Obj} (h : W.heap[k]? = some o) : w1.heap[k]? = some o := (hb.block k (Array.getElem?_eq_some_iff.1 h).1).trans h
theorem start_out (w1 : World) (u : Value) : Out w1.heap.size [] ((w1.alloc (.cells #[.slice none 0 0] 22)).alloc (.cells #[u] 51)) :=
  ⟨_, start_var w1 u, Kd.R_nil _ _ _ _ _⟩
theorem start_below {w W w1 : World} {u : Value} {w4 : World} (h0 : Below w.heap.size w W) (h1 : Below W.heap.size W w1) (h4 : Below w1.heap.size ((w1.alloc (.cells #[.slice none 0 0] 22)).alloc (.cells #[u] 51)) w4) : Below w.heap.size w w4 := by
  have h2 : Below w1.heap.size w1 ((w1.alloc (.cells #[.slice none 0 0] 22)).alloc (.cells #[u] 51)) := ((Below.refl _ _).alloc (Nat.le_refl _) _).alloc (by simp) _
  exact (h0.trans (below_lower h0.size h1)).trans (below_lower (Nat.le_trans h0.size h1.size) (h2.trans h4))
theorem start_env {w W w1 : World} {bp bq bt : Nat} {page pages : Int} {A : Option Addr} {c : Nat} {title : List Int} (h0 : Below w.heap.size w W) (h1 : Below W.heap.size W w1) (ht : Itoa.Tabs W)
    (hp : w1.heap[bp]? = some (.cells #[.int .i64 page] 3 (0, 0))) (hq : w1.heap[bq]? = some (.cells #[.int .i64 pages] 3 (0, 0))) (hb : w1.heap[bt]? = some (.cells #[.slice A title.length c] 22 (0, 0))) (hr : Kd.C (Kd.int .i64) w A title.length title) :
    Env w1 w1.heap.size (w1.heap.size + 1) bp bq bt page pages A c title ((w1.alloc (.cells #[.slice none 0 0] 22)).alloc (.cells #[.func (.func 24) #[] #[.pointer (some ⟨w1.heap.size, 0, none⟩)]] 51)) :=
  ⟨Nat.le_refl _, ((Below.refl _ _).alloc (Nat.le_refl _) _).alloc (by simp) _, start_fn w1 _, hp, hq, hb, Kd.C_below hr (h0.trans (below_lower h0.size h1)), ht.below h1⟩
end Go.Proofs.YtmcdcpejkldepaaDoor.Furn
