-- Written by a copy of the print that this session has turned (wip/tools/patchprint.py): arrays as records.
import Derived.Test.YtpembifnjlekdaaPStyleAllx0
import Derived.Test.YtpembifnjlekdaaPStyleAllx4
namespace Go.Proofs.Ytpembifnjlekdaa.PStyleAll
open Go.RowKit Go.Proofs.YtpembifnjlekdaaW.PrintWords Go.Proofs.YtpembifnjlekdaaW.PrintLast Go.Proofs.YtpembifnjlekdaaW.PrintMore
attribute [local go_sem] max2_int min2_int max_two min_two max_three min_three max_four min_four   -- for this text's walks alone
set_option linter.unusedVariables false
set_option linter.unusedSimpArgs false

/-! ### style_Facts: function 23 -/
def spR (r : Nat) : Bool := r == 32
def style_Facts.go : List S82 → Bool → Bool → ByteArray → List ByteArray → ByteArray × List ByteArray
  | [], _, _, fid, cl => (fid, cl)
  | a :: r, i, c, fid, cl => if a.f0.toList = [105, 100] ∧ i = false then style_Facts.go r true c a.f1 cl else if a.f0.toList = [99, 108, 97, 115, 115] ∧ c = false then style_Facts.go r i true fid (Lib.goFieldsP spR a.f1) else style_Facts.go r i c fid cl
def style_Facts.f (a0_0 : ByteArray) (a0_1 : ByteArray) (l0_2 : List (S82)) (l0_3 : List (S52)) (a0_4 : Int) : Option (ByteArray × ByteArray × List ByteArray) :=
  if (l0_2.all fun a => decide (a.f1.size ≤ 4294967296)) = true then some (a0_0, (style_Facts.go l0_2 false false ⟨#[]⟩ []).1, (style_Facts.go l0_2 false false ⟨#[]⟩ []).2) else none
theorem style_Facts.pays (w : World) : PredAt Try.prog 44 #[] encR spR w := fun W r _ => by
  unfold FnGives
  go_enter Try.func44, Try.ntmps44
  go_wp2
  go_ret
  refine ⟨?_, 0, rfl⟩
  unfold spR
  by_cases h : r = 32
  · subst h; rfl
  · have h2 : ((r : Int) == 32) = false := beq_eq_false_iff_ne.mpr (by omega)
    have h3 : (r == 32) = false := beq_eq_false_iff_ne.mpr h
    simp [h2, h3]
theorem style_Facts.enters : ∀ (args : Array Value) (w : World), (callFunc 44 args).run Try.prog w = .ok (.enter 44 args) w := enters_of Try.func44 (by kernel_rfl) rfl
structure style_Facts.FW (w W : World) (b2 b3 : Nat) (nm fid : ByteArray) (v : Value) (cl : List ByteArray) : Prop where
  b : Below w.heap.size w W
  h2 : W.heap[b2]? = some (.cells #[.string ⟨#[]⟩, .string ⟨#[]⟩, .slice none 0 0] 56 (0, 0))
  h3 : W.heap[b3]? = some (.cells #[.string nm, .string fid, v] 56 (0, 0))
  n : w.heap.size ≤ b2
  n2 : b2 < b3
  r : Kd.string.R 9 W w.heap.size (fun k => b3 < k) v cl
theorem style_Facts.blk {w W : World} {b : Nat} {o : Obj} (h : w.heap[b]? = some o) (hb : Below w.heap.size w W) : W.heap[b]? = some o := (hb.block b (blk_lt h)).trans h
theorem style_Facts.FW.below {w W W' : World} {b2 b3 : Nat} {nm fid : ByteArray} {v : Value} {cl : List ByteArray} (h : style_Facts.FW w W b2 b3 nm fid v cl) (hb : Below W.heap.size W W') : style_Facts.FW w W' b2 b3 nm fid v cl :=
  ⟨below_step h.b hb, style_Facts.blk h.h2 hb, style_Facts.blk h.h3 hb, h.n, h.n2, Kd.R_step h.r (fun k _ hlt => hb.block k hlt)⟩
theorem style_Facts.FW.id {w W : World} {b2 b3 : Nat} {nm fid : ByteArray} {v : Value} {cl : List ByteArray} (h : style_Facts.FW w W b2 b3 nm fid v cl) (x : ByteArray) : style_Facts.FW w (W.setCell ⟨b3, 1, none⟩ (.string x)) b2 b3 nm x v cl :=
  ⟨below_set h.b (by have := h.n; have := h.n2; omega), (heap_setCell_other W ⟨b3, 1, none⟩ b2 _ (by show b2 ≠ b3; have := h.n2; omega)).trans h.h2, heap_setCell_same W b3 1 _ 56 _ h.h3, h.n, h.n2, Kd.R_step h.r (fun k hk _ => heap_setCell_other W ⟨b3, 1, none⟩ k _ (by show k ≠ b3; omega))⟩
theorem style_Facts.FW.cls {w W W' : World} {b2 b3 : Nat} {nm fid : ByteArray} {v v' : Value} {cl cl' : List ByteArray} (h : style_Facts.FW w W b2 b3 nm fid v cl) (hb : Below W.heap.size W W') (ho : W'.ownsRow W.heap.size 9 1 v' cl'.length (cl'.map Value.string)) : style_Facts.FW w (W'.setCell ⟨b3, 2, none⟩ v') b2 b3 nm fid v' cl' := by
  have h' := h.below hb
  have hlt := blk_lt h.h3
  have hr : Kd.string.R 9 W' W.heap.size (fun k => b3 < k) v' cl' := Kd.R_of_own ho (fun k hk => by have := own_base ho k hk; omega)
  exact ⟨below_set h'.b (by have := h.n; have := h.n2; omega), (heap_setCell_other W' ⟨b3, 2, none⟩ b2 _ (by show b2 ≠ b3; have := h.n2; omega)).trans h'.h2, heap_setCell_same W' b3 2 _ 56 _ h'.h3, h.n, h.n2, Kd.R_step (Kd.R_lower hr (below_size h.b)) (fun k hk _ => heap_setCell_other W' ⟨b3, 2, none⟩ k _ (by show k ≠ b3; omega))⟩
theorem style_Facts.FW.start (w : World) (o1 : Obj) (nm : ByteArray) : style_Facts.FW w (((w.alloc o1).alloc (.cells #[.string ⟨#[]⟩, .string ⟨#[]⟩, .slice none 0 0] 56)).alloc (.cells #[.string nm, .string ⟨#[]⟩, .slice none 0 0] 56)) (w.heap.size + 1) (w.heap.size + 1 + 1) nm ⟨#[]⟩ (.slice none 0 0) [] := by
  have s1 : (w.alloc o1).heap.size = w.heap.size + 1 := by simp
  have s2 : ((w.alloc o1).alloc (.cells #[.string ⟨#[]⟩, .string ⟨#[]⟩, .slice none 0 0] 56)).heap.size = w.heap.size + 1 + 1 := by simp
  have h2 := heap_alloc_new (w.alloc o1) (.cells #[.string ⟨#[]⟩, .string ⟨#[]⟩, .slice none 0 0] 56)
  have h3 := heap_alloc_new ((w.alloc o1).alloc (.cells #[.string ⟨#[]⟩, .string ⟨#[]⟩, .slice none 0 0] 56)) (.cells #[.string nm, .string ⟨#[]⟩, .slice none 0 0] 56)
  rw [s1] at h2
  rw [s2] at h3
  exact ⟨below_alloc (below_alloc (below_alloc (Below.refl _ _) _) _) _, style_Facts.blk h2 (below_alloc (Below.refl _ _) _), h3, by omega, by omega, Kd.R_nil _ _ _ _ _⟩
theorem style_Facts.drop82 {l : List S82} {j : Nat} (h : j < l.length) : l.drop j = rd_T82 l (j : Int) :: l.drop (j + 1) := by
  rw [List.drop_eq_getElem_cons h]
  congr 1
  show _ = l.getD j z82
  simp [List.getD_eq_getElem?_getD, h]
theorem style_Facts.mem82 {l : List S82} {j : Nat} (h : j < l.length) : rd_T82 l (j : Int) ∈ l := by
  show l.getD j z82 ∈ l
  rw [List.getD_eq_getElem?_getD, List.getElem?_eq_getElem h]
  exact List.getElem_mem h
set_option maxHeartbeats 8000000 in
set_option maxRecDepth 100000 in
theorem style_Facts.calls (a0_0 : ByteArray) (a0_1 : ByteArray) (A0_2 : Option Addr) (c0_2 : Nat) (l0_2 : List (S82)) (A0_3 : Option Addr) (c0_3 : Nat) (l0_3 : List (S52)) (a0_4 : Int) (r1 : ByteArray) (r2 : ByteArray) (r3 : List ByteArray) (w : World) (hr0_2 : Kd.C k82 w A0_2 l0_2.length l0_2) (hc0_2 : l0_2.length ≤ c0_2) (hr0_3 : Kd.C k52 w A0_3 l0_3.length l0_3) (hc0_3 : l0_3.length ≤ c0_3) (h : style_Facts.f a0_0 a0_1 l0_2 l0_3 a0_4 = some (r1, r2, r3)) :
    Calls Try.prog 23 #[.agg #[.string a0_0, .string a0_1, .slice A0_2 l0_2.length c0_2, .slice A0_3 l0_3.length c0_3, .int .i64 a0_4]] w fun e w' => ∃ v2_ : Value, e = .returned (.agg #[.string r1, .string r2, v2_]) ∧ Kd.R Kd.string 9 w' w.heap.size (fun _ => True) v2_ r3 ∧ Below w.heap.size w w' := by
  have HR := Aside0.mk hr0_2
  clear hr0_2 hc0_2 hr0_3 hc0_3
  unfold style_Facts.f at h
  by_cases hs : (l0_2.all fun a => decide (a.f1.size ≤ 4294967296)) = true
  rotate_left
  · rw [if_neg hs] at h
    exact absurd h (by simp)
  rw [if_pos hs] at h
  have hg : style_Facts.go l0_2 false false ⟨#[]⟩ [] = (r2, r3) ∧ a0_0 = r1 := by
    have := Option.some.inj h
    simp only [Prod.mk.injEq] at this
    exact ⟨Prod.ext this.2.1 this.2.2, this.1⟩
  obtain ⟨hg, rfl⟩ := hg
  have HG := Aside0.mk hg
  have HS := Aside0.mk hs
  clear h hg hs
  go_enter Try.func23, Try.ntmps23
  go_wp2
  have HW0 := Aside0.mk (style_Facts.FW.start w (.cells #[.string a0_0, .string a0_1, .slice A0_2 l0_2.length c0_2, .slice A0_3 l0_3.length c0_3, .int .i64 a0_4] 52) a0_0)
  have hmax : l0_2.length ≤ 9223372036854775807 := Kd.C_max HR.out
  generalize w.heap.size + 1 + 1 = b3 at HW0 ⊢
  generalize w.heap.size + 1 = b2 at HW0 ⊢
  generalize ((w.alloc _).alloc _).alloc _ = W at HW0 ⊢
  go_loopg [4, 5, 14] (l0_2.length + 1) (fun kq v4 v5 v14 w' => ∃ (j : Nat) (i c : Bool) (fid : ByteArray) (v : Value) (cl : List ByteArray), v4 = .bool i ∧ v5 = .bool c ∧ v14 = .int .i64 (j : Int) ∧ Aside0 (style_Facts.go (l0_2.drop j) i c fid cl = (r2, r3)) ∧ Aside0 (j ≤ l0_2.length ∧ j + kq = l0_2.length + 1) ∧ Aside0 (style_Facts.FW w w' b2 b3 a0_0 fid v cl))
  case atStart => exact ⟨0, false, false, ⟨#[]⟩, .slice none 0 0, [], rfl, rfl, rfl, HG, ⟨by omega, by omega⟩, HW0⟩
  case round =>
    obtain ⟨j, i, c, fid, v, cl, rfl, rfl, rfl, HA, HK, HW⟩ := hrel
    clear HG HW0
    cases gk with
    | zero => exact absurd HK.out (by omega)
    | succ kq =>
    by_cases cj : j < l0_2.length
    · have cjd : decide ((j : Int) < (l0_2.length : Int)) = true := decide_eq_true (by omega)
      have hjs : (IntKind.i64.wrap ((j : Int) + 1)) = ((j + 1 : Nat) : Int) := (i64_w _).trans (by unfold wrap64; omega)
      obtain ⟨ad, ea, hx0, hx1⟩ := at_T82 HR.out (j : Int) (by omega) (by omega)
      cases ea
      rw [Int.toNat_natCast] at hx0 hx1
      replace hx0 := (HW.out.b.cell (World.block_lt_of_cell? w _ hx0)).trans hx0
      replace hx1 := (HW.out.b.cell (World.block_lt_of_cell? w _ hx1)).trans hx1
      have HSZ := Aside0.mk (show (rd_T82 l0_2 (j : Int)).f1.size ≤ 4294967296 from of_decide_eq_true (List.all_eq_true.mp HS.out _ (style_Facts.mem82 cj)))
      have HWa := Aside0.mk (HW.out.below (below_alloc (Below.refl _ _) (.cells #[.string (rd_T82 l0_2 (j : Int)).f0, .string (rd_T82 l0_2 (j : Int)).f1] 82)))
      have hC1 : (wr.alloc (.cells #[.string (rd_T82 l0_2 (j : Int)).f0, .string (rd_T82 l0_2 (j : Int)).f1] 82)).cell? ⟨b3, 1, none⟩ = some (.string fid) := (blk_cell HWa.out.h3 1).trans rfl
      have hF1 : (wr.alloc (.cells #[.string (rd_T82 l0_2 (j : Int)).f0, .string (rd_T82 l0_2 (j : Int)).f1] 82)).frozen? ⟨b3, 1, none⟩ = false := blk_frozen HWa.out.h3 1
      by_cases e1 : (rd_T82 l0_2 (j : Int)).f0.toList = [105, 100]
      · have e1b : ((rd_T82 l0_2 (j : Int)).f0.toList == [105, 100]) = true := beq_iff_eq.mpr e1
        have e2 : ¬ (rd_T82 l0_2 (j : Int)).f0.toList = [99, 108, 97, 115, 115] := fun h => by rw [e1] at h; simp at h
        have e2b : ((rd_T82 l0_2 (j : Int)).f0.toList == [99, 108, 97, 115, 115]) = false := beq_eq_false_iff_ne.mpr e2
        cases i with
        | false =>
          have HA1 := Aside0.mk (show style_Facts.go (l0_2.drop (j + 1)) true c (rd_T82 l0_2 (j : Int)).f1 cl = (r2, r3) by have := HA.out; rw [style_Facts.drop82 cj, style_Facts.go, if_pos ⟨e1, rfl⟩] at this; exact this)
          clear HA
          go_wp2
          have HW2 := Aside0.mk (HWa.out.id (rd_T82 l0_2 (j : Int)).f1)
          go_roundg kq
          case measure => have := HK.out; omega
          case rel => exact ⟨j + 1, true, c, _, _, _, rfl, rfl, (by first | rfl | (simp [hjs]; done)), HA1, ⟨by have := HK.out; omega⟩, HW2⟩
        | true =>
          have HA1 := Aside0.mk (show style_Facts.go (l0_2.drop (j + 1)) true c fid cl = (r2, r3) by have := HA.out; rw [style_Facts.drop82 cj, style_Facts.go, if_neg (by simp [e1]), if_neg (by simp [e2])] at this; exact this)
          clear HA
          go_wp2
          go_roundg kq
          case measure => have := HK.out; omega
          case rel => exact ⟨j + 1, true, c, _, _, _, rfl, rfl, (by first | rfl | (simp [hjs]; done)), HA1, ⟨by have := HK.out; omega⟩, HWa⟩
      · have e1b : ((rd_T82 l0_2 (j : Int)).f0.toList == [105, 100]) = false := beq_eq_false_iff_ne.mpr e1
        by_cases e2 : (rd_T82 l0_2 (j : Int)).f0.toList = [99, 108, 97, 115, 115]
        · have e2b : ((rd_T82 l0_2 (j : Int)).f0.toList == [99, 108, 97, 115, 115]) = true := beq_iff_eq.mpr e2
          cases c with
          | false =>
            have HA1 := Aside0.mk (show style_Facts.go (l0_2.drop (j + 1)) i true fid (Lib.goFieldsP spR (rd_T82 l0_2 (j : Int)).f1) = (r2, r3) by have := HA.out; rw [style_Facts.drop82 cj, style_Facts.go, if_neg (by simp [e1]), if_pos ⟨e2, rfl⟩] at this; exact this)
            clear HA
            go_wp2_with (first | (go_at_call 43; (with_reducible refine (Try.strings_FieldsFunc 44 #[] style_Facts.enters spR _ _ HSZ.out (style_Facts.pays _)).mono ?_); rintro e w7 ⟨A7, rfl, _, ho, hb⟩; have HW2 := Aside0.mk (HWa.out.cls hb ho); have hC2 : w7.cell? ⟨b3, 2, none⟩ = some v := (blk_cell (HWa.out.below hb).h3 2).trans rfl; have hF2 : w7.frozen? ⟨b3, 2, none⟩ = false := blk_frozen (HWa.out.below hb).h3 2; clear ho hb))
            go_roundg kq
            case measure => have := HK.out; omega
            case rel => exact ⟨j + 1, i, true, _, _, _, rfl, rfl, (by first | rfl | (simp [hjs]; done)), HA1, ⟨by have := HK.out; omega⟩, HW2⟩
          | true =>
            have HA1 := Aside0.mk (show style_Facts.go (l0_2.drop (j + 1)) i true fid cl = (r2, r3) by have := HA.out; rw [style_Facts.drop82 cj, style_Facts.go, if_neg (by simp [e1]), if_neg (by simp [e2])] at this; exact this)
            clear HA
            go_wp2
            go_roundg kq
            case measure => have := HK.out; omega
            case rel => exact ⟨j + 1, i, true, _, _, _, rfl, rfl, (by first | rfl | (simp [hjs]; done)), HA1, ⟨by have := HK.out; omega⟩, HWa⟩
        · have e2b : ((rd_T82 l0_2 (j : Int)).f0.toList == [99, 108, 97, 115, 115]) = false := beq_eq_false_iff_ne.mpr e2
          have HA1 := Aside0.mk (show style_Facts.go (l0_2.drop (j + 1)) i c fid cl = (r2, r3) by have := HA.out; rw [style_Facts.drop82 cj, style_Facts.go, if_neg (by simp [e1]), if_neg (by simp [e2])] at this; exact this)
          clear HA
          go_wp2
          go_roundg kq
          case measure => have := HK.out; omega
          case rel => exact ⟨j + 1, i, c, _, _, _, rfl, rfl, (by first | rfl | (simp [hjs]; done)), HA1, ⟨by have := HK.out; omega⟩, HWa⟩
    · have cjd : decide ((j : Int) < (l0_2.length : Int)) = false := decide_eq_false (by omega)
      have hA := HA.out
      rw [List.drop_eq_nil_of_le (by omega), style_Facts.go] at hA
      obtain ⟨rfl, rfl⟩ : fid = r2 ∧ cl = r3 := by simpa using hA
      clear hA HA
      obtain ⟨Av, cv, ev⟩ := Kd.R_slice HW.out.r
      subst ev
      have hA0 : wr.cell? ⟨b3, 0, none⟩ = some (.string a0_0) := (blk_cell HW.out.h3 0).trans rfl
      have hA1 : wr.cell? ⟨b3, 1, none⟩ = some (.string fid) := (blk_cell HW.out.h3 1).trans rfl
      have hA2 : wr.cell? ⟨b3, 2, none⟩ = some (.slice Av cl.length cv) := (blk_cell HW.out.h3 2).trans rfl
      have hB0 : wr.cell? ⟨b2, 0, none⟩ = some (.string ⟨#[]⟩) := (blk_cell HW.out.h2 0).trans rfl
      have hB1 : wr.cell? ⟨b2, 1, none⟩ = some (.string ⟨#[]⟩) := (blk_cell HW.out.h2 1).trans rfl
      have hB2 : wr.cell? ⟨b2, 2, none⟩ = some (.slice none 0 0) := (blk_cell HW.out.h2 2).trans rfl
      have hG0 := blk_frozen HW.out.h2 0
      have hG1 := blk_frozen HW.out.h2 1
      have hG2 := blk_frozen HW.out.h2 2
      go_wp2
      have hf := heap_setCell_same _ b2 2 _ 56 (.slice Av cl.length cv) (heap_setCell_same _ b2 1 _ 56 (.string fid) (heap_setCell_same wr b2 0 _ 56 (.string a0_0) HW.out.h2))
      refine bodyPost_ret (results_cell_row rfl _ _ b2 56 #[.string a0_0, .string fid, .slice Av cl.length cv] (0, 0) _ rfl hf Try.underlying56 rfl (by kernel_rfl)) rfl ?_
      refine ⟨_, rfl, ?_, ?_⟩
      · exact Kd.R_mono (Kd.R_step HW.out.r (fun k hk _ => by
          have hne : k ≠ b2 := by have := HW.out.n2; omega
          exact (heap_setCell_other _ ⟨b2, 2, none⟩ k _ hne).trans ((heap_setCell_other _ ⟨b2, 1, none⟩ k _ hne).trans (heap_setCell_other _ ⟨b2, 0, none⟩ k _ hne)))) (fun _ _ => trivial)
      · exact below_set (below_set (below_set HW.out.b HW.out.n) HW.out.n) HW.out.n

/-! ### style_All: function 28 -/
/-! ### style_All: function 28 (with its closures 47, 48) -/
def style_All.kids (g : S52 → List S33 → Option (List S33)) : List S52 → List S33 → Option (List S33)
  | [], out => some out
  | x :: r, out => (g x out).bind fun o => style_All.kids g r o
def style_All.s33 (q : Int × Int × Int × Int × Int × Int × Int × Int × Int) : S33 := ⟨q.1, q.2.1, q.2.2.1, q.2.2.2.1, q.2.2.2.2.1, q.2.2.2.2.2.1, q.2.2.2.2.2.2.1, q.2.2.2.2.2.2.2.1, q.2.2.2.2.2.2.2.2⟩
def style_All.down (l : List S41) : Nat → List S56 → S52 → S33 → List S33 → Option (List S33)
  | 0, _, _, _, _ => none
  | k + 1, path, n, par, out =>
    if n.f0.toList.isEmpty = true then style_All.kids (fun x o => style_All.down l k path x par o) n.f3 out else
    if path.length < 1000000 ∧ out.length < 1000000 then
      (style_Facts.f n.f0 n.f1 n.f2 n.f3 n.f4).bind fun f =>
      (style_Of.f k l (path ++ [⟨f.1, f.2.1, f.2.2⟩]) par.f0 par.f1 par.f2 par.f3 par.f4 par.f5 par.f6 par.f7 par.f8).bind fun q =>
      style_All.kids (fun x o => style_All.down l k (path ++ [⟨f.1, f.2.1, f.2.2⟩]) x (style_All.s33 q) o) n.f3 (out ++ [style_All.s33 q])
    else none
def style_All.f (k : Nat) (l : List S41) (n0 n1 : ByteArray) (n2 : List S82) (n3 : List S52) (n4 : Int) : Option (List S33) :=
  style_All.down l k [] ⟨n0, n1, n2, n3, n4⟩ ⟨0, 655360, 786432, 0, 0, 0, 0, 0, 1⟩ []
theorem style_All.kids_mono {g h : S52 → List S33 → Option (List S33)} (hg : ∀ x o, LeO (g x o) (h x o)) : ∀ (xs : List S52) (out : List S33), LeO (style_All.kids g xs out) (style_All.kids h xs out)
  | [], _ => LeO.refl _
  | x :: r, out => by
    rw [style_All.kids, style_All.kids]
    exact LeO.bind (hg x out) (fun o => style_All.kids_mono hg r o)
theorem style_All.down_mono (l : List S41) : ∀ (k : Nat) (path : List S56) (n : S52) (par : S33) (out : List S33), LeO (style_All.down l k path n par out) (style_All.down l (k + 1) path n par out)
  | 0, path, n, par, out => by
    rw [style_All.down]
    exact LeO.none _
  | k + 1, path, n, par, out => by
    rw [style_All.down, style_All.down.eq_def l (k + 1 + 1)]
    dsimp only
    refine LeO.ite (style_All.kids_mono (fun x o => style_All.down_mono l k _ x _ o) _ _) (LeO.ite (LeO.bind (LeO.refl _) (fun f => LeO.bind (style_Of.mono _ _ _ _ _ _ _ _ _ _ _ _) (fun q => style_All.kids_mono (fun x o => style_All.down_mono l k _ x _ o) _ _))) (LeO.none _))
theorem style_All.mono : ∀ a0 a1 a2 a3 a4 a5 k, LeO (style_All.f k a0 a1 a2 a3 a4 a5) (style_All.f (k + 1) a0 a1 a2 a3 a4 a5) := fun _ _ _ _ _ _ k => style_All.down_mono _ k _ _ _ _
theorem style_All.pop (B : Nat) (A : Option Addr) (n c : Nat) (u : FrameMode) (w : World) (hb : w.heap[B]? = some (.cells #[.slice A (n + 1) c] 23 (0, 0))) (hc : n + 1 ≤ c) (hn : n + 1 ≤ 9223372036854775807) :
    CallsD Try.prog 48 #[.pointer (some ⟨B, 0, none⟩)] u w fun e u' w' => u' = u ∧ (e = .returned (.tuple #[]) ∧ w' = w.setCell ⟨B, 0, none⟩ (.slice A n c)) := by
  have h0 : w.cell? ⟨B, 0, none⟩ = some (.slice A (n + 1) c) := (blk_cell hb 0).trans rfl
  have h1 := blk_frozen hb 0
  have e1 : IntKind.i64.wrap (((n + 1 : Nat) : Int) - 1) = (n : Int) := by rw [IntKind.wrap_i64]; omega
  have e2 : IntKind.i64.wrap ((n : Int) + 1 - 1) = (n : Int) := by rw [IntKind.wrap_i64]; omega
  have e3 : (n : Int) ≤ c := by omega
  have e4 : n ≤ c := by omega
  have e5 : (0 : Int) ≤ n := by omega
  go_enter_d Try.func48, Try.ntmps48
  go_wp2
  go_end0
  exact ⟨rfl, rfl⟩
/-- What the closure finds in memory: the path, the rules, what has been told, itself. -/
structure style_All.St (w0 w : World) (Bp Bl Bo Bd : Nat) (Al : Option Addr) (cl : Nat) (l : List S41) (vp vo : Value) (path : List S56) (out : List S33) : Prop where
  b : Below w0.heap.size w0 w
  p : w.heap[Bp]? = some (.cells #[vp] 23 (0, 0))
  l : w.heap[Bl]? = some (.cells #[.slice Al l.length cl] 22 (0, 0))
  o : w.heap[Bo]? = some (.cells #[vo] 61 (0, 0))
  d : w.heap[Bd]? = some (.cells #[.func (.func 47) #[] #[.pointer (some ⟨Bp, 0, none⟩), .pointer (some ⟨Bl, 0, none⟩), .pointer (some ⟨Bo, 0, none⟩), .pointer (some ⟨Bd, 0, none⟩)]] 88 (0, 0))
  gp : w0.heap.size ≤ Bp
  go : w0.heap.size ≤ Bo
  rp : Kd.R k56 56 w w0.heap.size (fun _ => True) vp path
  ro : Kd.R k33 33 w w0.heap.size (fun _ => True) vo out
/-- What a call of the closure may write. -/
def style_All.Wr (Bp Bo : Nat) (vp vo : Value) (k : Nat) : Prop := k = Bp ∨ k = Bo ∨ some k = vp.ownBlock ∨ some k = vo.ownBlock
section
variable {w0 w W : World} {Bp Bl Bo Bd : Nat} {Al : Option Addr} {cl : Nat} {l : List S41} {vp vo v1 : Value} {path path' : List S56} {out out' : List S33}
theorem style_All.St.below (h : style_All.St w0 w Bp Bl Bo Bd Al cl l vp vo path out) (hb : Below w.heap.size w W) : style_All.St w0 W Bp Bl Bo Bd Al cl l vp vo path out :=
  ⟨below_step h.b hb, (hb.block _ (blk_lt h.p)).trans h.p, (hb.block _ (blk_lt h.l)).trans h.l, (hb.block _ (blk_lt h.o)).trans h.o, (hb.block _ (blk_lt h.d)).trans h.d, h.gp, h.go, Kd.R_below h.rp hb, Kd.R_below h.ro hb⟩
theorem style_All.tne {w : World} {a b : Nat} {cs cs' : Array Value} {t t' : TypeId} (ha : w.heap[a]? = some (.cells cs t (0, 0))) (hb : w.heap[b]? = some (.cells cs' t' (0, 0))) (h : t ≠ t') : a ≠ b := by
  rintro rfl
  rw [ha] at hb
  injection hb with hb
  injection hb with _ hb _
  exact h hb
/-- The path has grown. -/
theorem style_All.St.onPath (h : style_All.St w0 w Bp Bl Bo Bd Al cl l vp vo path out) (hg : w.grownBy W vp.ownBlock) (hb : Below w0.heap.size w0 W) (hr : Kd.R k56 56 W w0.heap.size (fun _ => True) v1 path') :
    style_All.St w0 (W.setCell ⟨Bp, 0, none⟩ v1) Bp Bl Bo Bd Al cl l v1 vo path' out := by
  have q1 : W.heap[Bp]? = _ := blk_grown h.p hg (Kd.R_ne h.rp h.p (by decide))
  have q2 : W.heap[Bl]? = _ := blk_grown h.l hg (Kd.R_ne h.rp h.l (by decide))
  have q3 : W.heap[Bo]? = _ := blk_grown h.o hg (Kd.R_ne h.rp h.o (by decide))
  have q4 : W.heap[Bd]? = _ := blk_grown h.d hg (Kd.R_ne h.rp h.d (by decide))
  have q5 : Kd.R k33 33 W w0.heap.size (fun _ => True) vo out := Kd.R_over' h.ro (Kd.R_typed h.rp) (by decide) hg
  exact ⟨below_set hb h.gp, blk_put q1 0 v1 rfl, blk_far q2 (style_All.tne q2 q1 (by decide)) _, blk_far q3 (style_All.tne q3 q1 (by decide)) _, blk_far q4 (style_All.tne q4 q1 (by decide)) _, h.gp, h.go, Kd.R_set hr q1 (by decide) 0 _, Kd.R_set q5 q1 (by decide) 0 _⟩
/-- What has been told has grown. -/
theorem style_All.St.onOut (h : style_All.St w0 w Bp Bl Bo Bd Al cl l vp vo path out) (hg : w.grownBy W vo.ownBlock) (hb : Below w0.heap.size w0 W) (hr : Kd.R k33 33 W w0.heap.size (fun _ => True) v1 out') :
    style_All.St w0 (W.setCell ⟨Bo, 0, none⟩ v1) Bp Bl Bo Bd Al cl l vp v1 path out' := by
  have q1 : W.heap[Bp]? = _ := blk_grown h.p hg (Kd.R_ne h.ro h.p (by decide))
  have q2 : W.heap[Bl]? = _ := blk_grown h.l hg (Kd.R_ne h.ro h.l (by decide))
  have q3 : W.heap[Bo]? = _ := blk_grown h.o hg (Kd.R_ne h.ro h.o (by decide))
  have q4 : W.heap[Bd]? = _ := blk_grown h.d hg (Kd.R_ne h.ro h.d (by decide))
  have q5 : Kd.R k56 56 W w0.heap.size (fun _ => True) vp path := Kd.R_over' h.rp (Kd.R_typed h.ro) (by decide) hg
  exact ⟨below_set hb h.go, blk_far q1 (style_All.tne q1 q3 (by decide)) _, blk_far q2 (style_All.tne q2 q3 (by decide)) _, blk_put q3 0 v1 rfl, blk_far q4 (style_All.tne q4 q3 (by decide)) _, h.gp, h.go, Kd.R_set q5 q3 (by decide) 0 _, Kd.R_set hr q3 (by decide) 0 _⟩
/-- A store into a block apart. -/
theorem style_All.St.far (h : style_All.St w0 w Bp Bl Bo Bd Al cl l vp vo path out) {g j : Nat} (u : Value) (hg : w0.heap.size ≤ g) (n1 : Bp ≠ g) (n2 : Bl ≠ g) (n3 : Bo ≠ g) (n4 : Bd ≠ g) (n5 : some g ≠ vo.ownBlock) {cs : Array Value} (hp : w.heap[g]? = some (.cells cs 33 (0, 0))) :
    style_All.St w0 (w.setCell ⟨g, j, none⟩ u) Bp Bl Bo Bd Al cl l vp vo path out :=
  ⟨below_set h.b hg, blk_far h.p n1 _, blk_far h.l n2 _, blk_far h.o n3 _, blk_far h.d n4 _, h.gp, h.go, Kd.R_set h.rp hp (by decide) j u, Kd.R_mono (Kd.R_far (p := ⟨g, j, none⟩) (Kd.R_far1 h.ro rfl n5) (fun _ hk => hk.2) u) (fun _ _ => trivial)⟩
/-- The path's last one is gone. -/
theorem style_All.St.popped {A : Option Addr} {n c : Nat} (h : style_All.St w0 w Bp Bl Bo Bd Al cl l (.slice A (n + 1) c) vo path out) (hn : n ≤ path.length) :
    style_All.St w0 (w.setCell ⟨Bp, 0, none⟩ (.slice A n c)) Bp Bl Bo Bd Al cl l (.slice A n c) vo (path.take n) out :=
  ⟨below_set h.b h.gp, blk_put h.p 0 _ rfl, blk_far h.l (style_All.tne h.l h.p (by decide)) _, blk_far h.o (style_All.tne h.o h.p (by decide)) _, blk_far h.d (style_All.tne h.d h.p (by decide)) _, h.gp, h.go, Kd.R_set (Kd.R_take h.rp hn) h.p (by decide) 0 _, Kd.R_set h.ro h.p (by decide) 0 _⟩
end
/-- A row's block has stayed, or is new. -/
def style_All.Hat (w : World) (v v' : Value) : Prop := v'.ownBlock = v.ownBlock ∨ ∃ b, v'.ownBlock = some b ∧ w.heap.size ≤ b
theorem style_All.Hat.then_ {w W : World} {v v1 v2 : Value} (h : style_All.Hat w v v1) (k : style_All.Hat W v1 v2) (hs : w.heap.size ≤ W.heap.size) : style_All.Hat w v v2 := by
  rcases k with k | ⟨b, k, hb⟩
  · rcases h with h | ⟨a, h, ha⟩
    · exact .inl (k.trans h)
    · exact .inr ⟨a, k.trans h, ha⟩
  · exact .inr ⟨b, k, Nat.le_trans hs hb⟩
theorem style_All.Hat.old {w : World} {v v1 : Value} (h : style_All.Hat w v v1) {g : Nat} (hg : g < w.heap.size) (hn : some g ≠ v.ownBlock) : some g ≠ v1.ownBlock := by
  rcases h with h | ⟨a, h, ha⟩
  · rw [h]; exact hn
  · rw [h]
    intro e
    injection e with e
    omega
theorem style_All.wr_then {w W W2 : World} {Bp Bo : Nat} {vp vo v1 v2 : Value} (h : Kept w W (style_All.Wr Bp Bo vp vo)) (h1 : style_All.Hat w vp v1) (h2 : style_All.Hat w vo v2) (k : Kept W W2 (style_All.Wr Bp Bo v1 v2)) : Kept w W2 (style_All.Wr Bp Bo vp vo) := by
  refine h.then_ k (fun a ha => ?_)
  rcases ha with ha | ha | ha | ha
  · exact .inl (.inl ha)
  · exact .inl (.inr (.inl ha))
  · rcases h1 with h1 | ⟨b, h1, hb⟩
    · exact .inl (.inr (.inr (.inl (ha.trans h1))))
    · rw [h1] at ha
      injection ha with ha
      exact .inr (by omega)
  · rcases h2 with h2 | ⟨b, h2, hb⟩
    · exact .inl (.inr (.inr (.inr (ha.trans h2))))
    · rw [h2] at ha
      injection ha with ha
      exact .inr (by omega)
/-- What a call of the closure leaves. -/
structure style_All.Went (w0 w W : World) (Bp Bl Bo Bd : Nat) (Al : Option Addr) (cl : Nat) (l : List S41) (vp vo : Value) (path : List S56) (r : List S33) (vp' vo' : Value) : Prop where
  s : style_All.St w0 W Bp Bl Bo Bd Al cl l vp' vo' path r
  k : Kept w W (style_All.Wr Bp Bo vp vo)
  hp : style_All.Hat w vp vp'
  ho : style_All.Hat w vo vo'
theorem style_All.Went.blk {w0 w W : World} {Bp Bl Bo Bd : Nat} {Al : Option Addr} {cl : Nat} {l : List S41} {vp vo : Value} {path path0 : List S56} {r out : List S33} {vp' vo' : Value} (h : style_All.Went w0 w W Bp Bl Bo Bd Al cl l vp vo path r vp' vo')
    (hs : style_All.St w0 w Bp Bl Bo Bd Al cl l vp vo path0 out) {g t : Nat} {cs : Array Value} (hb : w.heap[g]? = some (.cells cs t (0, 0))) (t1 : t ≠ 23) (t2 : t ≠ 61) (t3 : t ≠ 56) (t4 : some g ≠ vo.ownBlock) : W.heap[g]? = some (.cells cs t (0, 0)) := by
  refine blk_kept hb h.k (fun hk => ?_)
  rcases hk with hk | hk | hk | hk
  · exact style_All.tne hb hs.p t1 hk
  · exact style_All.tne hb hs.o t2 hk
  · exact Kd.R_ne hs.rp hb (Ne.symm t3) hk
  · exact t4 hk
theorem style_All.Went.start {w0 w W : World} {Bp Bl Bo Bd : Nat} {Al : Option Addr} {cl : Nat} {l : List S41} {vp vo : Value} {path : List S56} {out : List S33} (h : style_All.St w0 W Bp Bl Bo Bd Al cl l vp vo path out) (hb : Below w.heap.size w W) : style_All.Went w0 w W Bp Bl Bo Bd Al cl l vp vo path out vp vo :=
  ⟨h, Kept.of_below hb _, .inl rfl, .inl rfl⟩
theorem style_All.Went.below {w0 w W W2 : World} {Bp Bl Bo Bd : Nat} {Al : Option Addr} {cl : Nat} {l : List S41} {vp vo v1 v2 : Value} {path : List S56} {o : List S33} (h : style_All.Went w0 w W Bp Bl Bo Bd Al cl l vp vo path o v1 v2) (hb : Below W.heap.size W W2) : style_All.Went w0 w W2 Bp Bl Bo Bd Al cl l vp vo path o v1 v2 :=
  ⟨h.s.below hb, h.k.below hb, h.hp, h.ho⟩
theorem style_All.Went.next {w0 w W W3 : World} {Bp Bl Bo Bd : Nat} {Al : Option Addr} {cl : Nat} {l : List S41} {vp vo v1 v2 v3 v4 : Value} {path p3 : List S56} {o o2 : List S33} (h : style_All.Went w0 w W Bp Bl Bo Bd Al cl l vp vo path o v1 v2) (h2 : style_All.Went w0 W W3 Bp Bl Bo Bd Al cl l v1 v2 p3 o2 v3 v4) :
    style_All.Went w0 w W3 Bp Bl Bo Bd Al cl l vp vo p3 o2 v3 v4 :=
  ⟨h2.s, style_All.wr_then h.k h.hp h.ho h2.k, h.hp.then_ h2.hp h.k.1, h.ho.then_ h2.ho h.k.1⟩
theorem style_All.drop52 {l : List S52} {j : Nat} (h : j < l.length) : l.drop j = rd_T52 l (j : Int) :: l.drop (j + 1) := by
  rw [List.drop_eq_getElem_cons h]
  congr 1
  show _ = l.getD j z52
  simp [List.getD_eq_getElem?_getD, h]
theorem style_All.lt_ne {a b : Nat} (h : a < b) : a ≠ b := Nat.ne_of_lt h
theorem style_All.leaves_any {R : Ending → World → Prop} {t1 t2 : Array Value} : ∀ (ds : List Deferred) (u : FrameMode) (w : World), Leaves Try.prog Try.f47 t1 R ds u w → Leaves Try.prog Try.f47 t2 R ds u w
  | [], .returning, w, h => by
    obtain ⟨v, h1, h2⟩ := h
    have e : results Try.f47 t1 = results Try.f47 t2 := by
      simp [results, show Try.f47.results = #[] from rfl]
    exact ⟨v, e ▸ h1, h2⟩
  | [], .panicking _, w, h => h
  | [], .run, w, h => h
  | d :: ds, u, w, h => by
    obtain ⟨h1, fv, cap, f, args, h2, h3, h4⟩ := h
    refine ⟨h1, fv, cap, f, args, h2, h3, fun c cs hc => ?_⟩
    obtain ⟨e, u', w', fr, g1, g2⟩ := h4 c cs hc
    refine ⟨e, u', w', fr, ?_, g2⟩
    cases e with
    | returned v => exact style_All.leaves_any ds _ _ g1
    | panicked ch => exact style_All.leaves_any ds _ _ g1
    | outgrown => exact g1
theorem style_All.Hat.of {w W : World} {v v1 : Value} (hat : v1.ownBlock = v.ownBlock ∨ ∃ b, v1.ownBlock = some b ∧ W.heap.size ≤ b) (hs : w.heap.size ≤ W.heap.size) : style_All.Hat w v v1 := by
  rcases hat with h | ⟨b, h, hb⟩
  · exact .inl h
  · exact .inr ⟨b, h, Nat.le_trans hs hb⟩
theorem style_All.grownKept {w W W2 : World} {v : Value} {S : Nat → Prop} (h : Kept w W S) (hg : W.grownBy W2 v.ownBlock) (hs : ∀ k, some k = v.ownBlock → S k ∨ w.heap.size ≤ k) : Kept w W2 S :=
  Kept.of_grown hg h (fun k hk => hs k hk.symm)
theorem style_All.blk9 {w : World} {g : Nat} {p0 p1 p2 p3 p4 p5 p6 p7 p8 : Int} (hq : w.heap[g]? = some (.cells #[.int .i64 p0, .int .i64 p1, .int .i64 p2, .int .i64 p3, .int .i64 p4, .int .i64 p5, .int .i64 p6, .int .i64 p7, .int .i64 p8] 33 (0, 0))) (q0 q1 q2 q3 q4 q5 q6 q7 q8 : Int) : (((((((((w.setCell ⟨g, 0, none⟩ (.int .i64 q0)).setCell ⟨g, 1, none⟩ (.int .i64 q1)).setCell ⟨g, 2, none⟩ (.int .i64 q2)).setCell ⟨g, 3, none⟩ (.int .i64 q3)).setCell ⟨g, 4, none⟩ (.int .i64 q4)).setCell ⟨g, 5, none⟩ (.int .i64 q5)).setCell ⟨g, 6, none⟩ (.int .i64 q6)).setCell ⟨g, 7, none⟩ (.int .i64 q7)).setCell ⟨g, 8, none⟩ (.int .i64 q8)).heap[g]? = some (.cells #[.int .i64 q0, .int .i64 q1, .int .i64 q2, .int .i64 q3, .int .i64 q4, .int .i64 q5, .int .i64 q6, .int .i64 q7, .int .i64 q8] 33 (0, 0)) := by
  have k0 : (w.setCell ⟨g, 0, none⟩ (.int .i64 q0)).heap[g]? = some (.cells #[.int .i64 q0, .int .i64 p1, .int .i64 p2, .int .i64 p3, .int .i64 p4, .int .i64 p5, .int .i64 p6, .int .i64 p7, .int .i64 p8] 33 (0, 0)) := blk_put hq 0 (.int .i64 q0) rfl
  have k1 : ((w.setCell ⟨g, 0, none⟩ (.int .i64 q0)).setCell ⟨g, 1, none⟩ (.int .i64 q1)).heap[g]? = some (.cells #[.int .i64 q0, .int .i64 q1, .int .i64 p2, .int .i64 p3, .int .i64 p4, .int .i64 p5, .int .i64 p6, .int .i64 p7, .int .i64 p8] 33 (0, 0)) := blk_put k0 1 (.int .i64 q1) rfl
  have k2 : (((w.setCell ⟨g, 0, none⟩ (.int .i64 q0)).setCell ⟨g, 1, none⟩ (.int .i64 q1)).setCell ⟨g, 2, none⟩ (.int .i64 q2)).heap[g]? = some (.cells #[.int .i64 q0, .int .i64 q1, .int .i64 q2, .int .i64 p3, .int .i64 p4, .int .i64 p5, .int .i64 p6, .int .i64 p7, .int .i64 p8] 33 (0, 0)) := blk_put k1 2 (.int .i64 q2) rfl
  have k3 : ((((w.setCell ⟨g, 0, none⟩ (.int .i64 q0)).setCell ⟨g, 1, none⟩ (.int .i64 q1)).setCell ⟨g, 2, none⟩ (.int .i64 q2)).setCell ⟨g, 3, none⟩ (.int .i64 q3)).heap[g]? = some (.cells #[.int .i64 q0, .int .i64 q1, .int .i64 q2, .int .i64 q3, .int .i64 p4, .int .i64 p5, .int .i64 p6, .int .i64 p7, .int .i64 p8] 33 (0, 0)) := blk_put k2 3 (.int .i64 q3) rfl
  have k4 : (((((w.setCell ⟨g, 0, none⟩ (.int .i64 q0)).setCell ⟨g, 1, none⟩ (.int .i64 q1)).setCell ⟨g, 2, none⟩ (.int .i64 q2)).setCell ⟨g, 3, none⟩ (.int .i64 q3)).setCell ⟨g, 4, none⟩ (.int .i64 q4)).heap[g]? = some (.cells #[.int .i64 q0, .int .i64 q1, .int .i64 q2, .int .i64 q3, .int .i64 q4, .int .i64 p5, .int .i64 p6, .int .i64 p7, .int .i64 p8] 33 (0, 0)) := blk_put k3 4 (.int .i64 q4) rfl
  have k5 : ((((((w.setCell ⟨g, 0, none⟩ (.int .i64 q0)).setCell ⟨g, 1, none⟩ (.int .i64 q1)).setCell ⟨g, 2, none⟩ (.int .i64 q2)).setCell ⟨g, 3, none⟩ (.int .i64 q3)).setCell ⟨g, 4, none⟩ (.int .i64 q4)).setCell ⟨g, 5, none⟩ (.int .i64 q5)).heap[g]? = some (.cells #[.int .i64 q0, .int .i64 q1, .int .i64 q2, .int .i64 q3, .int .i64 q4, .int .i64 q5, .int .i64 p6, .int .i64 p7, .int .i64 p8] 33 (0, 0)) := blk_put k4 5 (.int .i64 q5) rfl
  have k6 : (((((((w.setCell ⟨g, 0, none⟩ (.int .i64 q0)).setCell ⟨g, 1, none⟩ (.int .i64 q1)).setCell ⟨g, 2, none⟩ (.int .i64 q2)).setCell ⟨g, 3, none⟩ (.int .i64 q3)).setCell ⟨g, 4, none⟩ (.int .i64 q4)).setCell ⟨g, 5, none⟩ (.int .i64 q5)).setCell ⟨g, 6, none⟩ (.int .i64 q6)).heap[g]? = some (.cells #[.int .i64 q0, .int .i64 q1, .int .i64 q2, .int .i64 q3, .int .i64 q4, .int .i64 q5, .int .i64 q6, .int .i64 p7, .int .i64 p8] 33 (0, 0)) := blk_put k5 6 (.int .i64 q6) rfl
  have k7 : ((((((((w.setCell ⟨g, 0, none⟩ (.int .i64 q0)).setCell ⟨g, 1, none⟩ (.int .i64 q1)).setCell ⟨g, 2, none⟩ (.int .i64 q2)).setCell ⟨g, 3, none⟩ (.int .i64 q3)).setCell ⟨g, 4, none⟩ (.int .i64 q4)).setCell ⟨g, 5, none⟩ (.int .i64 q5)).setCell ⟨g, 6, none⟩ (.int .i64 q6)).setCell ⟨g, 7, none⟩ (.int .i64 q7)).heap[g]? = some (.cells #[.int .i64 q0, .int .i64 q1, .int .i64 q2, .int .i64 q3, .int .i64 q4, .int .i64 q5, .int .i64 q6, .int .i64 q7, .int .i64 p8] 33 (0, 0)) := blk_put k6 7 (.int .i64 q7) rfl
  have k8 : (((((((((w.setCell ⟨g, 0, none⟩ (.int .i64 q0)).setCell ⟨g, 1, none⟩ (.int .i64 q1)).setCell ⟨g, 2, none⟩ (.int .i64 q2)).setCell ⟨g, 3, none⟩ (.int .i64 q3)).setCell ⟨g, 4, none⟩ (.int .i64 q4)).setCell ⟨g, 5, none⟩ (.int .i64 q5)).setCell ⟨g, 6, none⟩ (.int .i64 q6)).setCell ⟨g, 7, none⟩ (.int .i64 q7)).setCell ⟨g, 8, none⟩ (.int .i64 q8)).heap[g]? = some (.cells #[.int .i64 q0, .int .i64 q1, .int .i64 q2, .int .i64 q3, .int .i64 q4, .int .i64 q5, .int .i64 q6, .int .i64 q7, .int .i64 q8] 33 (0, 0)) := blk_put k7 8 (.int .i64 q8) rfl
  exact k8
theorem style_All.kept9 {w W : World} {g : Nat} {S : Nat → Prop} (h : Kept w W S) (hg : w.heap.size ≤ g) (q0 q1 q2 q3 q4 q5 q6 q7 q8 : Int) : Kept w (((((((((W.setCell ⟨g, 0, none⟩ (.int .i64 q0)).setCell ⟨g, 1, none⟩ (.int .i64 q1)).setCell ⟨g, 2, none⟩ (.int .i64 q2)).setCell ⟨g, 3, none⟩ (.int .i64 q3)).setCell ⟨g, 4, none⟩ (.int .i64 q4)).setCell ⟨g, 5, none⟩ (.int .i64 q5)).setCell ⟨g, 6, none⟩ (.int .i64 q6)).setCell ⟨g, 7, none⟩ (.int .i64 q7)).setCell ⟨g, 8, none⟩ (.int .i64 q8)) S := by
  exact (Kept.setCell (Kept.setCell (Kept.setCell (Kept.setCell (Kept.setCell (Kept.setCell (Kept.setCell (Kept.setCell (Kept.setCell h (p := ⟨g, 0, none⟩) (.inr hg) (.int .i64 q0)) (p := ⟨g, 1, none⟩) (.inr hg) (.int .i64 q1)) (p := ⟨g, 2, none⟩) (.inr hg) (.int .i64 q2)) (p := ⟨g, 3, none⟩) (.inr hg) (.int .i64 q3)) (p := ⟨g, 4, none⟩) (.inr hg) (.int .i64 q4)) (p := ⟨g, 5, none⟩) (.inr hg) (.int .i64 q5)) (p := ⟨g, 6, none⟩) (.inr hg) (.int .i64 q6)) (p := ⟨g, 7, none⟩) (.inr hg) (.int .i64 q7)) (p := ⟨g, 8, none⟩) (.inr hg) (.int .i64 q8))
theorem style_All.St.set9 {w0 w : World} {Bp Bl Bo Bd : Nat} {Al : Option Addr} {cl : Nat} {l : List S41} {vp vo : Value} {path : List S56} {out : List S33} {g : Nat} {p0 p1 p2 p3 p4 p5 p6 p7 p8 : Int} (h : style_All.St w0 w Bp Bl Bo Bd Al cl l vp vo path out) (hq : w.heap[g]? = some (.cells #[.int .i64 p0, .int .i64 p1, .int .i64 p2, .int .i64 p3, .int .i64 p4, .int .i64 p5, .int .i64 p6, .int .i64 p7, .int .i64 p8] 33 (0, 0))) (hg : w0.heap.size ≤ g) (n5 : some g ≠ vo.ownBlock) (q0 q1 q2 q3 q4 q5 q6 q7 q8 : Int) : style_All.St w0 (((((((((w.setCell ⟨g, 0, none⟩ (.int .i64 q0)).setCell ⟨g, 1, none⟩ (.int .i64 q1)).setCell ⟨g, 2, none⟩ (.int .i64 q2)).setCell ⟨g, 3, none⟩ (.int .i64 q3)).setCell ⟨g, 4, none⟩ (.int .i64 q4)).setCell ⟨g, 5, none⟩ (.int .i64 q5)).setCell ⟨g, 6, none⟩ (.int .i64 q6)).setCell ⟨g, 7, none⟩ (.int .i64 q7)).setCell ⟨g, 8, none⟩ (.int .i64 q8)) Bp Bl Bo Bd Al cl l vp vo path out := by
  have n1 := style_All.tne h.p hq (by decide)
  have n2 := style_All.tne h.l hq (by decide)
  have n3 := style_All.tne h.o hq (by decide)
  have n4 := style_All.tne h.d hq (by decide)
  have h0 := h.far (.int .i64 q0) hg n1 n2 n3 n4 n5 (j := 0) hq
  have k0 : (w.setCell ⟨g, 0, none⟩ (.int .i64 q0)).heap[g]? = some (.cells #[.int .i64 q0, .int .i64 p1, .int .i64 p2, .int .i64 p3, .int .i64 p4, .int .i64 p5, .int .i64 p6, .int .i64 p7, .int .i64 p8] 33 (0, 0)) := blk_put hq 0 (.int .i64 q0) rfl
  have h1 := h0.far (.int .i64 q1) hg n1 n2 n3 n4 n5 (j := 1) k0
  have k1 : ((w.setCell ⟨g, 0, none⟩ (.int .i64 q0)).setCell ⟨g, 1, none⟩ (.int .i64 q1)).heap[g]? = some (.cells #[.int .i64 q0, .int .i64 q1, .int .i64 p2, .int .i64 p3, .int .i64 p4, .int .i64 p5, .int .i64 p6, .int .i64 p7, .int .i64 p8] 33 (0, 0)) := blk_put k0 1 (.int .i64 q1) rfl
  have h2 := h1.far (.int .i64 q2) hg n1 n2 n3 n4 n5 (j := 2) k1
  have k2 : (((w.setCell ⟨g, 0, none⟩ (.int .i64 q0)).setCell ⟨g, 1, none⟩ (.int .i64 q1)).setCell ⟨g, 2, none⟩ (.int .i64 q2)).heap[g]? = some (.cells #[.int .i64 q0, .int .i64 q1, .int .i64 q2, .int .i64 p3, .int .i64 p4, .int .i64 p5, .int .i64 p6, .int .i64 p7, .int .i64 p8] 33 (0, 0)) := blk_put k1 2 (.int .i64 q2) rfl
  have h3 := h2.far (.int .i64 q3) hg n1 n2 n3 n4 n5 (j := 3) k2
  have k3 : ((((w.setCell ⟨g, 0, none⟩ (.int .i64 q0)).setCell ⟨g, 1, none⟩ (.int .i64 q1)).setCell ⟨g, 2, none⟩ (.int .i64 q2)).setCell ⟨g, 3, none⟩ (.int .i64 q3)).heap[g]? = some (.cells #[.int .i64 q0, .int .i64 q1, .int .i64 q2, .int .i64 q3, .int .i64 p4, .int .i64 p5, .int .i64 p6, .int .i64 p7, .int .i64 p8] 33 (0, 0)) := blk_put k2 3 (.int .i64 q3) rfl
  have h4 := h3.far (.int .i64 q4) hg n1 n2 n3 n4 n5 (j := 4) k3
  have k4 : (((((w.setCell ⟨g, 0, none⟩ (.int .i64 q0)).setCell ⟨g, 1, none⟩ (.int .i64 q1)).setCell ⟨g, 2, none⟩ (.int .i64 q2)).setCell ⟨g, 3, none⟩ (.int .i64 q3)).setCell ⟨g, 4, none⟩ (.int .i64 q4)).heap[g]? = some (.cells #[.int .i64 q0, .int .i64 q1, .int .i64 q2, .int .i64 q3, .int .i64 q4, .int .i64 p5, .int .i64 p6, .int .i64 p7, .int .i64 p8] 33 (0, 0)) := blk_put k3 4 (.int .i64 q4) rfl
  have h5 := h4.far (.int .i64 q5) hg n1 n2 n3 n4 n5 (j := 5) k4
  have k5 : ((((((w.setCell ⟨g, 0, none⟩ (.int .i64 q0)).setCell ⟨g, 1, none⟩ (.int .i64 q1)).setCell ⟨g, 2, none⟩ (.int .i64 q2)).setCell ⟨g, 3, none⟩ (.int .i64 q3)).setCell ⟨g, 4, none⟩ (.int .i64 q4)).setCell ⟨g, 5, none⟩ (.int .i64 q5)).heap[g]? = some (.cells #[.int .i64 q0, .int .i64 q1, .int .i64 q2, .int .i64 q3, .int .i64 q4, .int .i64 q5, .int .i64 p6, .int .i64 p7, .int .i64 p8] 33 (0, 0)) := blk_put k4 5 (.int .i64 q5) rfl
  have h6 := h5.far (.int .i64 q6) hg n1 n2 n3 n4 n5 (j := 6) k5
  have k6 : (((((((w.setCell ⟨g, 0, none⟩ (.int .i64 q0)).setCell ⟨g, 1, none⟩ (.int .i64 q1)).setCell ⟨g, 2, none⟩ (.int .i64 q2)).setCell ⟨g, 3, none⟩ (.int .i64 q3)).setCell ⟨g, 4, none⟩ (.int .i64 q4)).setCell ⟨g, 5, none⟩ (.int .i64 q5)).setCell ⟨g, 6, none⟩ (.int .i64 q6)).heap[g]? = some (.cells #[.int .i64 q0, .int .i64 q1, .int .i64 q2, .int .i64 q3, .int .i64 q4, .int .i64 q5, .int .i64 q6, .int .i64 p7, .int .i64 p8] 33 (0, 0)) := blk_put k5 6 (.int .i64 q6) rfl
  have h7 := h6.far (.int .i64 q7) hg n1 n2 n3 n4 n5 (j := 7) k6
  have k7 : ((((((((w.setCell ⟨g, 0, none⟩ (.int .i64 q0)).setCell ⟨g, 1, none⟩ (.int .i64 q1)).setCell ⟨g, 2, none⟩ (.int .i64 q2)).setCell ⟨g, 3, none⟩ (.int .i64 q3)).setCell ⟨g, 4, none⟩ (.int .i64 q4)).setCell ⟨g, 5, none⟩ (.int .i64 q5)).setCell ⟨g, 6, none⟩ (.int .i64 q6)).setCell ⟨g, 7, none⟩ (.int .i64 q7)).heap[g]? = some (.cells #[.int .i64 q0, .int .i64 q1, .int .i64 q2, .int .i64 q3, .int .i64 q4, .int .i64 q5, .int .i64 q6, .int .i64 q7, .int .i64 p8] 33 (0, 0)) := blk_put k6 7 (.int .i64 q7) rfl
  have h8 := h7.far (.int .i64 q8) hg n1 n2 n3 n4 n5 (j := 8) k7
  have k8 : (((((((((w.setCell ⟨g, 0, none⟩ (.int .i64 q0)).setCell ⟨g, 1, none⟩ (.int .i64 q1)).setCell ⟨g, 2, none⟩ (.int .i64 q2)).setCell ⟨g, 3, none⟩ (.int .i64 q3)).setCell ⟨g, 4, none⟩ (.int .i64 q4)).setCell ⟨g, 5, none⟩ (.int .i64 q5)).setCell ⟨g, 6, none⟩ (.int .i64 q6)).setCell ⟨g, 7, none⟩ (.int .i64 q7)).setCell ⟨g, 8, none⟩ (.int .i64 q8)).heap[g]? = some (.cells #[.int .i64 q0, .int .i64 q1, .int .i64 q2, .int .i64 q3, .int .i64 q4, .int .i64 q5, .int .i64 q6, .int .i64 q7, .int .i64 q8] 33 (0, 0)) := blk_put k7 8 (.int .i64 q8) rfl
  exact h8
theorem style_All.far9 {w : World} {a g : Nat} {t : TypeId} {cs : Array Value} (h : w.heap[a]? = some (.cells cs t (0, 0))) (hg : a ≠ g) (q0 q1 q2 q3 q4 q5 q6 q7 q8 : Int) : (((((((((w.setCell ⟨g, 0, none⟩ (.int .i64 q0)).setCell ⟨g, 1, none⟩ (.int .i64 q1)).setCell ⟨g, 2, none⟩ (.int .i64 q2)).setCell ⟨g, 3, none⟩ (.int .i64 q3)).setCell ⟨g, 4, none⟩ (.int .i64 q4)).setCell ⟨g, 5, none⟩ (.int .i64 q5)).setCell ⟨g, 6, none⟩ (.int .i64 q6)).setCell ⟨g, 7, none⟩ (.int .i64 q7)).setCell ⟨g, 8, none⟩ (.int .i64 q8)).heap[a]? = some (.cells cs t (0, 0)) := by
  exact (blk_far (p := ⟨g, 8, none⟩) (blk_far (p := ⟨g, 7, none⟩) (blk_far (p := ⟨g, 6, none⟩) (blk_far (p := ⟨g, 5, none⟩) (blk_far (p := ⟨g, 4, none⟩) (blk_far (p := ⟨g, 3, none⟩) (blk_far (p := ⟨g, 2, none⟩) (blk_far (p := ⟨g, 1, none⟩) (blk_far (p := ⟨g, 0, none⟩) h hg (.int .i64 q0)) hg (.int .i64 q1)) hg (.int .i64 q2)) hg (.int .i64 q3)) hg (.int .i64 q4)) hg (.int .i64 q5)) hg (.int .i64 q6)) hg (.int .i64 q7)) hg (.int .i64 q8))
theorem style_All.Hat.cut {w : World} {v : Value} {A : Option Addr} {n m c d : Nat} (h : style_All.Hat w v (.slice A n c)) : style_All.Hat w v (.slice A m d) := by
  cases A <;> exact h
theorem style_All.first_bn (w : World) (A0 : Option Addr) (c0 : Nat) (l : List S41) (nc : Array Value) : ((((w.alloc (.cells #[.slice A0 l.length c0] 22)).alloc (.cells nc 52)).alloc (.cells #[.slice none 0 0] 61)).alloc (.cells #[.slice none 0 0] 23)).alloc (.cells #[.func (.func 47) #[] #[.pointer (some ⟨w.heap.size + 3, 0, none⟩), .pointer (some ⟨w.heap.size, 0, none⟩), .pointer (some ⟨w.heap.size + 2, 0, none⟩), .pointer (some ⟨w.heap.size + 4, 0, none⟩)]] 88) |>.heap[w.heap.size + 1]? = some (.cells nc 52 (0, 0)) := by
  have h1 := heap_alloc_new (w.alloc (.cells #[.slice A0 l.length c0] 22)) (.cells nc 52)
  rw [show (w.alloc (.cells #[.slice A0 l.length c0] 22)).heap.size = w.heap.size + 1 by simp] at h1
  exact blk_alloc (blk_alloc (blk_alloc h1 _) _) _
theorem style_All.first_st (w : World) (A0 : Option Addr) (c0 : Nat) (l : List S41) (nc : Array Value) : style_All.St w (((((w.alloc (.cells #[.slice A0 l.length c0] 22)).alloc (.cells nc 52)).alloc (.cells #[.slice none 0 0] 61)).alloc (.cells #[.slice none 0 0] 23)).alloc (.cells #[.func (.func 47) #[] #[.pointer (some ⟨w.heap.size + 3, 0, none⟩), .pointer (some ⟨w.heap.size, 0, none⟩), .pointer (some ⟨w.heap.size + 2, 0, none⟩), .pointer (some ⟨w.heap.size + 4, 0, none⟩)]] 88)) (w.heap.size + 3) w.heap.size (w.heap.size + 2) (w.heap.size + 4) A0 c0 l (.slice none 0 0) (.slice none 0 0) [] [] := by
  have h0 := heap_alloc_new w (.cells #[.slice A0 l.length c0] 22)
  have h2 := heap_alloc_new ((w.alloc (.cells #[.slice A0 l.length c0] 22)).alloc (.cells nc 52)) (.cells #[.slice none 0 0] 61)
  rw [show ((w.alloc (.cells #[.slice A0 l.length c0] 22)).alloc (.cells nc 52)).heap.size = w.heap.size + 2 by simp] at h2
  have h3 := heap_alloc_new (((w.alloc (.cells #[.slice A0 l.length c0] 22)).alloc (.cells nc 52)).alloc (.cells #[.slice none 0 0] 61)) (.cells #[.slice none 0 0] 23)
  rw [show (((w.alloc (.cells #[.slice A0 l.length c0] 22)).alloc (.cells nc 52)).alloc (.cells #[.slice none 0 0] 61)).heap.size = w.heap.size + 3 by simp] at h3
  have h4 := heap_alloc_new ((((w.alloc (.cells #[.slice A0 l.length c0] 22)).alloc (.cells nc 52)).alloc (.cells #[.slice none 0 0] 61)).alloc (.cells #[.slice none 0 0] 23)) (.cells #[.func (.func 47) #[] #[.pointer (some ⟨w.heap.size + 3, 0, none⟩), .pointer (some ⟨w.heap.size, 0, none⟩), .pointer (some ⟨w.heap.size + 2, 0, none⟩), .pointer (some ⟨w.heap.size + 4, 0, none⟩)]] 88)
  rw [show ((((w.alloc (.cells #[.slice A0 l.length c0] 22)).alloc (.cells nc 52)).alloc (.cells #[.slice none 0 0] 61)).alloc (.cells #[.slice none 0 0] 23)).heap.size = w.heap.size + 4 by simp] at h4
  exact ⟨below_alloc (below_alloc (below_alloc (below_alloc (below_alloc (Below.refl _ _) _) _) _) _) _, blk_alloc h3 _, blk_alloc (blk_alloc (blk_alloc (blk_alloc h0 _) _) _) _, blk_alloc (blk_alloc h2 _) _, h4, by omega, by omega, Kd.R_nil _ _ _ _ _, Kd.R_nil _ _ _ _ _⟩
set_option maxHeartbeats 8000000 in
set_option maxRecDepth 100000 in
theorem style_All.downs (l : List S41) (w0 : World) (Bp Bl Bo Bd : Nat) (Al : Option Addr) (cl : Nat) (hl : Kd.C k41 w0 Al l.length l) (hlc : l.length ≤ cl) : ∀ (k : Nat) (x : S52) (A2 : Option Addr) (c2 : Nat) (A3 : Option Addr) (c3 : Nat) (par : S33) (path : List S56) (out r : List S33) (vp vo : Value) (w : World)
    (hS : style_All.St w0 w Bp Bl Bo Bd Al cl l vp vo path out) (h2 : Kd.C k82 w0 A2 x.f2.length x.f2) (hc2 : x.f2.length ≤ c2) (h3 : Kd.C k52 w0 A3 x.f3.length x.f3) (hc3 : x.f3.length ≤ c3) (h : style_All.down l k path x par out = some r),
    Calls Try.prog 47 #[.agg #[.string x.f0, .string x.f1, .slice A2 x.f2.length c2, .slice A3 x.f3.length c3, .int .i64 x.f4], .agg #[.int .i64 par.f0, .int .i64 par.f1, .int .i64 par.f2, .int .i64 par.f3, .int .i64 par.f4, .int .i64 par.f5, .int .i64 par.f6, .int .i64 par.f7, .int .i64 par.f8], .pointer (some ⟨Bp, 0, none⟩), .pointer (some ⟨Bl, 0, none⟩), .pointer (some ⟨Bo, 0, none⟩), .pointer (some ⟨Bd, 0, none⟩)] w fun e w' => e = .returned (.tuple #[]) ∧ ∃ vp' vo', style_All.Went w0 w w' Bp Bl Bo Bd Al cl l vp vo path r vp' vo' := by
  intro k
  induction k with
  | zero =>
    intro x A2 c2 A3 c3 par path out r vp vo w hS h2 hc2 h3 hc3 h
    rw [style_All.down] at h
    cases h
  | succ k ih =>
  intro x A2 c2 A3 c3 par path out r vp vo w hS h2 hc2 h3 hc3 h
  rw [style_All.down] at h
  obtain ⟨x0, x1, x2, x3, x4⟩ := x
  obtain ⟨p0, p1, p2, p3, p4, p5, p6, p7, p8⟩ := par
  dsimp only at h h2 hc2 h3 hc3 ⊢
  have HS := Aside0.mk hS
  have H2 := Aside0.mk h2
  have HC2 := Aside0.mk hc2
  have H3 := Aside0.mk h3
  have HC3 := Aside0.mk hc3
  have HL := Aside0.mk hl
  have HLC := Aside0.mk hlc
  have H := Aside0.mk h
  clear hS h2 hc2 h3 hc3 h
  have hmf : ∀ (fn : Fn) (first cap : Array Value) (w : World), (Instr.makeFunc fn first cap).run Try.prog w = .ok (.func fn first cap) w := fun _ _ _ _ => rfl
  go_enter_defers Try.func47, Try.ntmps47
  have z1 : ((w.alloc (.cells #[.string x0, .string x1, .slice A2 x2.length c2, .slice A3 x3.length c3, .int .i64 x4] 52)).alloc (.cells #[.int .i64 p0, .int .i64 p1, .int .i64 p2, .int .i64 p3, .int .i64 p4, .int .i64 p5, .int .i64 p6, .int .i64 p7, .int .i64 p8] 33)).heap[w.heap.size]? = some (.cells #[.string x0, .string x1, .slice A2 x2.length c2, .slice A3 x3.length c3, .int .i64 x4] 52 (0, 0)) := ((below_alloc (Below.refl _ _) _).block _ (by simp)).trans (heap_alloc_new w _)
  have z2 : ((w.alloc (.cells #[.string x0, .string x1, .slice A2 x2.length c2, .slice A3 x3.length c3, .int .i64 x4] 52)).alloc (.cells #[.int .i64 p0, .int .i64 p1, .int .i64 p2, .int .i64 p3, .int .i64 p4, .int .i64 p5, .int .i64 p6, .int .i64 p7, .int .i64 p8] 33)).heap[w.heap.size + 1]? = some (.cells #[.int .i64 p0, .int .i64 p1, .int .i64 p2, .int .i64 p3, .int .i64 p4, .int .i64 p5, .int .i64 p6, .int .i64 p7, .int .i64 p8] 33 (0, 0)) := by
    have := heap_alloc_new (w.alloc (.cells #[.string x0, .string x1, .slice A2 x2.length c2, .slice A3 x3.length c3, .int .i64 x4] 52)) (.cells #[.int .i64 p0, .int .i64 p1, .int .i64 p2, .int .i64 p3, .int .i64 p4, .int .i64 p5, .int .i64 p6, .int .i64 p7, .int .i64 p8] 33)
    rw [show (w.alloc (.cells #[.string x0, .string x1, .slice A2 x2.length c2, .slice A3 x3.length c3, .int .i64 x4] 52)).heap.size = w.heap.size + 1 by simp] at this
    exact this
  have z3 := below_alloc (below_alloc (Below.refl w.heap.size w) (.cells #[.string x0, .string x1, .slice A2 x2.length c2, .slice A3 x3.length c3, .int .i64 x4] 52)) (.cells #[.int .i64 p0, .int .i64 p1, .int .i64 p2, .int .i64 p3, .int .i64 p4, .int .i64 p5, .int .i64 p6, .int .i64 p7, .int .i64 p8] 33)
  have BN := Aside0.mk z1
  have BQ := Aside0.mk z2
  have HW := Aside0.mk z3
  clear z1 z2 z3
  go_upto_region 1 with (fail)
  generalize ((w.alloc (.cells #[.string x0, .string x1, .slice A2 x2.length c2, .slice A3 x3.length c3, .int .i64 x4] 52)).alloc (.cells #[.int .i64 p0, .int .i64 p1, .int .i64 p2, .int .i64 p3, .int .i64 p4, .int .i64 p5, .int .i64 p6, .int .i64 p7, .int .i64 p8] 33)) = w1 at BN BQ HW ⊢
  have G0 := Aside0.mk (Nat.le_trans HS.out.b.size (Nat.le_refl w.heap.size))
  have LN : Aside0 (w.heap.size < w.heap.size + 1) := ⟨by omega⟩
  have HS1 := Aside0.mk (HS.out.below HW.out)
  have NO : Aside0 (some (w.heap.size + 1) ≠ vo.ownBlock) := ⟨fun e => by have := Kd.R_lt HS.out.ro _ e.symm; omega⟩
  have hc0 : w1.cell? ⟨w.heap.size, 0, none⟩ = some (.string x0) := (blk_cell BN.out 0).trans rfl
  have hc1 : w1.cell? ⟨w.heap.size, 1, none⟩ = some (.string x1) := (blk_cell BN.out 1).trans rfl
  have hc2 : w1.cell? ⟨w.heap.size, 2, none⟩ = some (.slice A2 x2.length c2) := (blk_cell BN.out 2).trans rfl
  have hc3 : w1.cell? ⟨w.heap.size, 3, none⟩ = some (.slice A3 x3.length c3) := (blk_cell BN.out 3).trans rfl
  have hc4 : w1.cell? ⟨w.heap.size, 4, none⟩ = some (.int .i64 x4) := (blk_cell BN.out 4).trans rfl
  cases hx : x0.toList.isEmpty with
  | true =>
    have H1 := Aside0.mk ((if_pos hx).symm.trans H.out)
    clear H
    go_upto_block 0 with (fail)
    clear hc0 hc1 hc2 hc3 hc4 hx
    have hT1 : ((x3.length : Int) ≤ 9223372036854775807) := by have := Kd.C_max H3.out; omega
    go_wp2
    go_loopg [30] x3.length (fun kq v30 w' => ∃ (i : Nat) (o : List S33) (vq vr : Value), v30 = .int .i64 (i : Int) ∧ Aside0 (i + kq = x3.length) ∧ Aside0 (style_All.kids (fun x o => style_All.down l k path x ⟨p0, p1, p2, p3, p4, p5, p6, p7, p8⟩ o) (x3.drop i) o = some r) ∧ Aside0 (style_All.Went w0 w w' Bp Bl Bo Bd Al cl l vp vo path o vq vr) ∧ Aside0 (w'.heap[w.heap.size + 1]? = some (.cells #[.int .i64 p0, .int .i64 p1, .int .i64 p2, .int .i64 p3, .int .i64 p4, .int .i64 p5, .int .i64 p6, .int .i64 p7, .int .i64 p8] 33 (0, 0))) ∧ Aside0 (some (w.heap.size + 1) ≠ vr.ownBlock))
    case atStart => exact ⟨0, out, vp, vo, rfl, ⟨by omega⟩, H1, ⟨style_All.Went.start HS1.out HW.out⟩, BQ, NO⟩
    case round =>
      clear H1 BN BQ HW HS1 NO
      obtain ⟨i, o, vq, vr, rfl, HI, HK, HW, BQ, NO⟩ := hrel
      cases gk with
      | zero =>
        have hi : i = x3.length := by have := HI.out; omega
        subst hi
        have hr : o = r := by have := HK.out; rw [List.drop_eq_nil_of_le (Nat.le_refl _), style_All.kids] at this; exact Option.some.inj this
        subst hr
        have kc1 : ((x3.length : Int) < (x3.length : Int)) = False := eq_false (by omega)
        have kc2 : (x3.length < x3.length) = False := eq_false (by omega)
        go_wp2
        exact ⟨_, results_none rfl _ _ _, rfl, vq, vr, HW.out⟩
      | succ q =>
        have hi : i < x3.length := by have := HI.out; omega
        have kc1 : ((i : Int) < (x3.length : Int)) = True := eq_true (by omega)
        have kc2 : (i < x3.length) = True := eq_true hi
        have kc3 : ((0 : Int) ≤ (i : Int)) = True := eq_true (by omega)
        have kc4 : decide ((i : Int) < (x3.length : Int)) = true := decide_eq_true (by omega)
        have kc5 : decide (i < x3.length) = true := decide_eq_true hi
        have kc6 : IntKind.i64.wrap ((i : Int) + 1) = (i : Int) + 1 := by rw [IntKind.wrap_i64]; omega
        have HI2 : Aside0 (i + 1 + q = x3.length) := ⟨by have := HI.out; omega⟩
        have hk := HK.out
        rw [style_All.drop52 hi, style_All.kids] at hk
        obtain ⟨o2, hd0, hk2⟩ := Option.bind_eq_some_iff.mp hk
        have HD := Aside0.mk hd0
        have HK2 := Aside0.mk hk2
        clear hk hd0 hk2 HK
        obtain ⟨ad, B2, e2, B3, e3, rfl, y0, y1, y2, y3, y4, l2, g2, l3, g3⟩ := at_T52 H3.out (i : Int) (by omega) (by omega)
        simp only [Int.toNat_natCast] at y0 y1 y2 y3 y4
        replace y0 := (HW.out.s.b.cell (World.block_lt_of_cell? w0 _ y0)).trans y0
        replace y1 := (HW.out.s.b.cell (World.block_lt_of_cell? w0 _ y1)).trans y1
        replace y2 := (HW.out.s.b.cell (World.block_lt_of_cell? w0 _ y2)).trans y2
        replace y3 := (HW.out.s.b.cell (World.block_lt_of_cell? w0 _ y3)).trans y3
        replace y4 := (HW.out.s.b.cell (World.block_lt_of_cell? w0 _ y4)).trans y4
        have L2 := Aside0.mk l2
        have G2 := Aside0.mk g2
        have L3 := Aside0.mk l3
        have G3 := Aside0.mk g3
        go_upto_region 9 with (fail)
        clear y0 y1 y2 y3 y4
        have ha := below_alloc (Below.refl wr.heap.size wr) (.cells #[.string (rd_T52 x3 (i : Int)).f0, .string (rd_T52 x3 (i : Int)).f1, .slice B2 (rd_T52 x3 (i : Int)).f2.length e2, .slice B3 (rd_T52 x3 (i : Int)).f3.length e3, .int .i64 (rd_T52 x3 (i : Int)).f4] 52)
        have hn := heap_alloc_new wr (.cells #[.string (rd_T52 x3 (i : Int)).f0, .string (rd_T52 x3 (i : Int)).f1, .slice B2 (rd_T52 x3 (i : Int)).f2.length e2, .slice B3 (rd_T52 x3 (i : Int)).f3.length e3, .int .i64 (rd_T52 x3 (i : Int)).f4] 52)
        generalize wr.alloc (.cells #[.string (rd_T52 x3 (i : Int)).f0, .string (rd_T52 x3 (i : Int)).f1, .slice B2 (rd_T52 x3 (i : Int)).f2.length e2, .slice B3 (rd_T52 x3 (i : Int)).f3.length e3, .int .i64 (rd_T52 x3 (i : Int)).f4] 52) = w8 at ha hn ⊢
        have HA := Aside0.mk ha
        have BX := Aside0.mk (blk_below BQ.out ha)
        have HX := Aside0.mk (style_All.Went.below HW.out ha)
        have HZ := Aside0.mk (blk_lt BQ.out)
        have hd0 : w8.cell? ⟨Bd, 0, none⟩ = some (.func (.func 47) #[] #[.pointer (some ⟨Bp, 0, none⟩), .pointer (some ⟨Bl, 0, none⟩), .pointer (some ⟨Bo, 0, none⟩), .pointer (some ⟨Bd, 0, none⟩)]) := (blk_cell HX.out.s.d 0).trans rfl
        have hn0 : w8.cell? ⟨wr.heap.size, 0, none⟩ = some (.string (rd_T52 x3 (i : Int)).f0) := (blk_cell hn 0).trans rfl
        have hn1 : w8.cell? ⟨wr.heap.size, 1, none⟩ = some (.string (rd_T52 x3 (i : Int)).f1) := (blk_cell hn 1).trans rfl
        have hn2 : w8.cell? ⟨wr.heap.size, 2, none⟩ = some (.slice B2 (rd_T52 x3 (i : Int)).f2.length e2) := (blk_cell hn 2).trans rfl
        have hn3 : w8.cell? ⟨wr.heap.size, 3, none⟩ = some (.slice B3 (rd_T52 x3 (i : Int)).f3.length e3) := (blk_cell hn 3).trans rfl
        have hn4 : w8.cell? ⟨wr.heap.size, 4, none⟩ = some (.int .i64 (rd_T52 x3 (i : Int)).f4) := (blk_cell hn 4).trans rfl
        have hq0 : w8.cell? ⟨w.heap.size + 1, 0, none⟩ = some (.int .i64 p0) := (blk_cell BX.out 0).trans rfl
        have hq1 : w8.cell? ⟨w.heap.size + 1, 1, none⟩ = some (.int .i64 p1) := (blk_cell BX.out 1).trans rfl
        have hq2 : w8.cell? ⟨w.heap.size + 1, 2, none⟩ = some (.int .i64 p2) := (blk_cell BX.out 2).trans rfl
        have hq3 : w8.cell? ⟨w.heap.size + 1, 3, none⟩ = some (.int .i64 p3) := (blk_cell BX.out 3).trans rfl
        have hq4 : w8.cell? ⟨w.heap.size + 1, 4, none⟩ = some (.int .i64 p4) := (blk_cell BX.out 4).trans rfl
        have hq5 : w8.cell? ⟨w.heap.size + 1, 5, none⟩ = some (.int .i64 p5) := (blk_cell BX.out 5).trans rfl
        have hq6 : w8.cell? ⟨w.heap.size + 1, 6, none⟩ = some (.int .i64 p6) := (blk_cell BX.out 6).trans rfl
        have hq7 : w8.cell? ⟨w.heap.size + 1, 7, none⟩ = some (.int .i64 p7) := (blk_cell BX.out 7).trans rfl
        have hq8 : w8.cell? ⟨w.heap.size + 1, 8, none⟩ = some (.int .i64 p8) := (blk_cell BX.out 8).trans rfl
        clear ha hn HW BQ l2 g2 l3 g3 hi
        go_wp2_with (first | (go_at_call 47; (with_reducible refine (ih (rd_T52 x3 (i : Int)) B2 e2 B3 e3 ⟨p0, p1, p2, p3, p4, p5, p6, p7, p8⟩ path o o2 vq vr _ HX.out.s G2.out L2.out G3.out L3.out HD.out).mono ?_); rintro e w9 ⟨rfl, vq2, vr2, HW2⟩; have NQ := Aside0.mk (HW2.blk HX.out.s BX.out (by decide) (by decide) (by decide) NO.out); have NN := Aside0.mk (HW2.ho.old (blk_lt BX.out) NO.out); have NW := Aside0.mk (style_All.Went.next HX.out HW2); clear HX HW2))
        go_roundg q
        case measure => exact Nat.lt_succ_self q
        case rel => exact ⟨i + 1, o2, vq2, vr2, by go_num, HI2, HK2, NW, NQ, NN⟩
  | false =>
    have H1 := Aside0.mk ((if_neg (show ¬ x0.toList.isEmpty = true by rw [hx]; decide)).symm.trans H.out)
    clear H
    by_cases hroom : path.length < 1000000 ∧ out.length < 1000000
    · have HR := Aside0.mk hroom
      have H := Aside0.mk ((if_pos hroom).symm.trans H1.out)
      clear H1 hroom
      obtain ⟨⟨f0, f1, f2⟩, AF0, H2_⟩ := Option.bind_eq_some_iff.mp H.out
      obtain ⟨⟨q0, q1, q2, q3, q4, q5, q6, q7, q8⟩, AQ0, H3_⟩ := Option.bind_eq_some_iff.mp H2_
      dsimp only [style_All.s33] at H3_ AQ0
      have AF := Aside0.mk AF0
      have AQ := Aside0.mk AQ0
      have H1 := Aside0.mk H3_
      clear H H2_ AF0 AQ0 H3_
      obtain ⟨np, hnp⟩ : ∃ z, path ++ [(⟨f0, f1, f2⟩ : S56)] = z := ⟨_, rfl⟩
      rw [hnp] at AQ H1
      have HNP := Aside0.mk hnp
      clear hnp
      go_upto_region 2 with (fail)
      have n0_ := Aside0.mk (HS1.out.below (below_drew (Below.refl _ _)))
      have n1_ := Aside0.mk (blk_drew BN.out)
      have n2_ := Aside0.mk (blk_drew BQ.out)
      have n3_ := Aside0.mk (below_drew1 HW.out)
      clear HS1 BN BQ HW
      have HS1 := n0_
      have BN := n1_
      have BQ := n2_
      have HW := n3_
      clear n0_ n1_ n2_ n3_
      refine start_ (n := 6) (S := fun w' => w'.cell? ⟨Bp, 0, none⟩ = some vp ∧ w'.cell? ⟨w.heap.size, 0, none⟩ = some (.string x0) ∧ w'.cell? ⟨w.heap.size, 1, none⟩ = some (.string x1) ∧ w'.cell? ⟨w.heap.size, 2, none⟩ = some (.slice A2 x2.length c2) ∧ w'.cell? ⟨w.heap.size, 3, none⟩ = some (.slice A3 x3.length c3) ∧ w'.cell? ⟨w.heap.size, 4, none⟩ = some (.int .i64 x4)) (ds := [5]) #[false, false, false, false, false, false] (by kernel_rfl) rfl rfl ⟨(blk_cell HS1.out.p 0).trans rfl, (blk_cell BN.out 0).trans rfl, (blk_cell BN.out 1).trans rfl, (blk_cell BN.out 2).trans rfl, (blk_cell BN.out 3).trans rfl, (blk_cell BN.out 4).trans rfl⟩ (fun hHeld => ?_)
      generalize w1.drew = w2 at BN BQ HW HS1 hHeld ⊢
      refine take_ (i := 0) (N := some 13) (v := ?_) (a' := ?_) #[true, false, false, false, false, false] rfl rfl (by kernel_rfl) (fun _ _ _ h => style_All.leaves_any _ _ _ h) (Or.inl ⟨by rfl, ?_⟩) hHeld ?_ ?_
      rotate_left
      · rintro w' ⟨s0, s1, s2, s3, s4, s5⟩
        go_simp
        with_reducible rfl
      rotate_left
      · simp only [Act.put, List.setIfInBounds_toArray, List.set_cons_zero, List.set_cons_succ, i64_w, i32_w]
        rfl
      refine take_ (i := 1) (N := some 14) (v := ?_) (a' := ?_) #[true, true, false, false, false, false] rfl rfl (by kernel_rfl) (fun _ _ _ h => style_All.leaves_any _ _ _ h) (Or.inl ⟨by rfl, ?_⟩) hHeld ?_ ?_
      rotate_left
      · rintro w' ⟨s0, s1, s2, s3, s4, s5⟩
        go_simp
        with_reducible rfl
      rotate_left
      · simp only [Act.put, List.setIfInBounds_toArray, List.set_cons_zero, List.set_cons_succ, i64_w, i32_w]
        rfl
      refine one_ (i := 2) (N := some 15) #[true, true, true, false, false, false] rfl rfl (by kernel_rfl) (by decide) (fun K hK => ?_)
      refine goes_ Try.func23 (by kernel_rfl) rfl #[.agg #[.string x0, .string x1, .slice A2 x2.length c2, .slice A3 x3.length c3, .int .i64 x4]] (by rfl) rfl rfl (by (try simp only [List.map_toArray, List.map_cons, List.map_nil]); first | done | rfl) ?_
      with_reducible refine (style_Facts.calls x0 x1 A2 c2 x2 A3 c3 x3 x4 f0 f1 f2 _ (Kd.C_below H2.out HS1.out.b) HC2.out (Kd.C_below H3.out HS1.out.b) HC3.out AF.out).mono ?_
      rintro e w3 ⟨v2, rfl, ho, hb⟩
      refine ⟨_, rfl, ?_⟩
      have n0_ := Aside0.mk (HS1.out.below hb)
      have n1_ := Aside0.mk (blk_below BN.out hb)
      have n2_ := Aside0.mk (blk_below BQ.out hb)
      have n3_ := Aside0.mk (below_step HW.out hb)
      have FR := Aside0.mk (Kd.R_lower ho (below_size (HS1.out.b)))
      have FB := Aside0.mk (Kd.R_base ho)
      have PL := Aside0.mk (Kd.R_lt HS1.out.rp)
      clear HS1 BN BQ HW
      have HS1 := n0_
      have BN := n1_
      have BQ := n2_
      have HW := n3_
      clear n0_ n1_ n2_ n3_ ho hb
      refine hK.out _ _ ⟨(blk_cell HS1.out.p 0).trans rfl, (blk_cell BN.out 0).trans rfl, (blk_cell BN.out 1).trans rfl, (blk_cell BN.out 2).trans rfl, (blk_cell BN.out 3).trans rfl, (blk_cell BN.out 4).trans rfl⟩ (fun hHeld => ?_)
      clear hK K
      refine norm_ (a' := ?_) ?_ ?_
      rotate_left
      · show Act.put _ (some 15) _ = _
        simp only [Act.put, List.setIfInBounds_toArray, List.set_cons_zero, List.set_cons_succ, i64_w, i32_w]
        rfl
      refine one_ (i := 3) (N := some 16) #[true, true, true, true, false, false] rfl rfl (by kernel_rfl) (by decide) (fun K hK => ?_)
      refine value_ (w1 := ?_) (v := ?_) (by rfl) rfl ?_ ?_
      rotate_left 2
      · go_simp
        constructor
        · rfl
        · rfl
      refine hK.out _ _ ⟨(blk_cell (blk_alloc HS1.out.p _) 0).trans rfl, (blk_cell (blk_alloc BN.out _) 0).trans rfl, (blk_cell (blk_alloc BN.out _) 1).trans rfl, (blk_cell (blk_alloc BN.out _) 2).trans rfl, (blk_cell (blk_alloc BN.out _) 3).trans rfl, (blk_cell (blk_alloc BN.out _) 4).trans rfl⟩ (fun hHeld => ?_)
      clear hK K
      refine norm_ (a' := ?_) ?_ ?_
      rotate_left
      · show Act.put _ (some 16) _ = _
        simp only [Act.put, List.setIfInBounds_toArray, List.set_cons_zero, List.set_cons_succ, i64_w, i32_w]
        rfl
      refine one_ (i := 4) (N := some 17) #[true, true, true, true, true, false] rfl rfl (by kernel_rfl) (by decide) (fun K hK => ?_)
      refine Kd.R_append_step k56 (w0 := w0) w0.heap.size (by rfl) (.tmp 13) (.tmp 16) 23 56 (.agg #[(.string ⟨#[]⟩), (.string ⟨#[]⟩), (.slice none 0 0)]) 56 rfl Try.underlying23 info56 rfl (by decide) (by omega) vp path ⟨f0, f1, f2⟩ [.string f0, .string f1, v2] (fun _ => True) (fun k_ => some k_ ≠ vp.ownBlock) rfl rfl ?aP (fun _ hk => ⟨trivial, hk⟩) ?aF ?aO ?aB ?aS ?aL ?_
      case aP => exact k56_mkM _ _ _ (⟨f0, f1, f2⟩ : S56) (Kd.R_mono (Kd.R_apart' FR.out (Kd.R_typed HS1.out.rp) (by decide)) (fun _ hk => hk.2))
      case aF => exact fun _ _ => trivial
      case aO => exact HS1.out.rp
      case aB => exact HS1.out.b
      case aS => exact below_size HS1.out.b
      case aL => have := HR.out.1; omega
      intro v3 w4 ho hb hg hat
      rw [HNP.out] at ho
      obtain ⟨Ao, co, rfl⟩ := Kd.R_slice ho
      have n1_ := Aside0.mk (blk_grown BN.out hg (Kd.R_ne HS1.out.rp BN.out (by decide)))
      have n2_ := Aside0.mk (blk_grown BQ.out hg (Kd.R_ne HS1.out.rp BQ.out (by decide)))
      have n5_ := Aside0.mk (blk_grown HS1.out.p hg (Kd.R_ne HS1.out.rp HS1.out.p (by decide)))
      have n0_ := Aside0.mk (HS1.out.onPath hg hb ho)
      have n3_ := Aside0.mk (style_All.grownKept (Kept.of_below HW.out (style_All.Wr Bp Bo vp vo)) hg (fun k hk => .inl (.inr (.inr (.inl hk)))))
      have n4_ := Aside0.mk (show style_All.Hat w vp (.slice Ao np.length co) from style_All.Hat.of hat HW.out.size)
      clear HS1 BN BQ HW FR
      have HS1 := n0_
      have BN := n1_
      have BQ := n2_
      have KW := n3_
      have HTP := n4_
      have PP := n5_
      clear n0_ n1_ n2_ n3_ n4_ n5_ ho hb hg hat
      refine hK.out _ _ ⟨(blk_cell PP.out 0).trans rfl, (blk_cell BN.out 0).trans rfl, (blk_cell BN.out 1).trans rfl, (blk_cell BN.out 2).trans rfl, (blk_cell BN.out 3).trans rfl, (blk_cell BN.out 4).trans rfl⟩ (fun hHeld => ?_)
      clear hK K
      refine norm_ (a' := ?_) ?_ ?_
      rotate_left
      · show Act.put _ (some 17) _ = _
        simp only [Act.put, List.setIfInBounds_toArray, List.set_cons_zero, List.set_cons_succ, i64_w, i32_w]
        rfl
      refine last_ (i := 5) (N := none) #[true, true, true, true, true, true] rfl rfl (by kernel_rfl) (by decide) (fun K hK => ?_)
      have hs_ : w4.cell? ⟨Bp, 0, none⟩ = some vp := (blk_cell PP.out 0).trans rfl
      have hf_ := blk_frozen PP.out 0
      refine skip_ (w1 := ?_) (by rfl) rfl ?_ ?_
      rotate_left
      · go_simp
        rfl
      refine hK.out _ _ ?_
      clear hK K
      refine done_ (by kernel_rfl) ?_
      have BNP := style_All.tne BN.out PP.out (by decide)
      have BQP := style_All.tne BQ.out PP.out (by decide)
      have n1_ := Aside0.mk (blk_far (p := ⟨Bp, 0, none⟩) BN.out BNP (.slice Ao np.length co))
      have n2_ := Aside0.mk (blk_far (p := ⟨Bp, 0, none⟩) BQ.out BQP (.slice Ao np.length co))
      have n3_ := Aside0.mk (Kept.setCell KW.out (p := ⟨Bp, 0, none⟩) (.inl (.inl rfl)) (.slice Ao np.length co))
      clear BN BQ KW PP BNP BQP
      have BN := n1_
      have BQ := n2_
      have KW := n3_
      clear n1_ n2_ n3_ hHeld
      obtain ⟨w5, e5⟩ : ∃ z, w4.setCell ⟨Bp, 0, none⟩ (.slice Ao np.length co) = z := ⟨_, rfl⟩
      rw [e5] at BN BQ KW HS1
      rw [e5]
      clear e5
      have LB : Aside0 (w5.heap.size ≠ w.heap.size + 1) := ⟨fun e => by have := blk_lt BQ.out; omega⟩
      have hcl : w5.cell? ⟨Bl, 0, none⟩ = some (.slice Al l.length cl) := (blk_cell HS1.out.l 0).trans rfl
      have hcp : w5.cell? ⟨Bp, 0, none⟩ = some (.slice Ao np.length co) := (blk_cell HS1.out.p 0).trans rfl
      have hq0 : w5.cell? ⟨w.heap.size + 1, 0, none⟩ = some (.int .i64 p0) := (blk_cell BQ.out 0).trans rfl
      have hq1 : w5.cell? ⟨w.heap.size + 1, 1, none⟩ = some (.int .i64 p1) := (blk_cell BQ.out 1).trans rfl
      have hq2 : w5.cell? ⟨w.heap.size + 1, 2, none⟩ = some (.int .i64 p2) := (blk_cell BQ.out 2).trans rfl
      have hq3 : w5.cell? ⟨w.heap.size + 1, 3, none⟩ = some (.int .i64 p3) := (blk_cell BQ.out 3).trans rfl
      have hq4 : w5.cell? ⟨w.heap.size + 1, 4, none⟩ = some (.int .i64 p4) := (blk_cell BQ.out 4).trans rfl
      have hq5 : w5.cell? ⟨w.heap.size + 1, 5, none⟩ = some (.int .i64 p5) := (blk_cell BQ.out 5).trans rfl
      have hq6 : w5.cell? ⟨w.heap.size + 1, 6, none⟩ = some (.int .i64 p6) := (blk_cell BQ.out 6).trans rfl
      have hq7 : w5.cell? ⟨w.heap.size + 1, 7, none⟩ = some (.int .i64 p7) := (blk_cell BQ.out 7).trans rfl
      have hq8 : w5.cell? ⟨w.heap.size + 1, 8, none⟩ = some (.int .i64 p8) := (blk_cell BQ.out 8).trans rfl
      go_upto_region 5 with (first | (go_at_call 16; (with_reducible refine (style_Of.calls k Al cl l Ao co np p0 p1 p2 p3 p4 p5 p6 p7 p8 q0 q1 q2 q3 q4 q5 q6 q7 q8 _ (Kd.C_below HL.out HS1.out.b) HLC.out (Kd.R_reads' HS1.out.rp).2.2 (Kd.R_reads' HS1.out.rp).2.1 AQ.out).mono ?_); rintro e w6 ⟨rfl, hb⟩; have n0_ := Aside0.mk (HS1.out.below hb); have n1_ := Aside0.mk (blk_below BN.out hb); have n2_ := Aside0.mk (blk_below BQ.out hb); have n3_ := Aside0.mk (KW.out.below hb); clear HS1 BN BQ KW hq0 hq1 hq2 hq3 hq4 hq5 hq6 hq7 hq8; have HS1 := n0_; have BN := n1_; have BQ := n2_; have KW := n3_; clear n0_ n1_ n2_ n3_ hb hcl hcp; have hq0 : w6.cell? ⟨w.heap.size + 1, 0, none⟩ = some (.int .i64 p0) := (blk_cell BQ.out 0).trans rfl; have hf0 := blk_frozen BQ.out 0; have hq1 : w6.cell? ⟨w.heap.size + 1, 1, none⟩ = some (.int .i64 p1) := (blk_cell BQ.out 1).trans rfl; have hf1 := blk_frozen BQ.out 1; have hq2 : w6.cell? ⟨w.heap.size + 1, 2, none⟩ = some (.int .i64 p2) := (blk_cell BQ.out 2).trans rfl; have hf2 := blk_frozen BQ.out 2; have hq3 : w6.cell? ⟨w.heap.size + 1, 3, none⟩ = some (.int .i64 p3) := (blk_cell BQ.out 3).trans rfl; have hf3 := blk_frozen BQ.out 3; have hq4 : w6.cell? ⟨w.heap.size + 1, 4, none⟩ = some (.int .i64 p4) := (blk_cell BQ.out 4).trans rfl; have hf4 := blk_frozen BQ.out 4; have hq5 : w6.cell? ⟨w.heap.size + 1, 5, none⟩ = some (.int .i64 p5) := (blk_cell BQ.out 5).trans rfl; have hf5 := blk_frozen BQ.out 5; have hq6 : w6.cell? ⟨w.heap.size + 1, 6, none⟩ = some (.int .i64 p6) := (blk_cell BQ.out 6).trans rfl; have hf6 := blk_frozen BQ.out 6; have hq7 : w6.cell? ⟨w.heap.size + 1, 7, none⟩ = some (.int .i64 p7) := (blk_cell BQ.out 7).trans rfl; have hf7 := blk_frozen BQ.out 7; have hq8 : w6.cell? ⟨w.heap.size + 1, 8, none⟩ = some (.int .i64 p8) := (blk_cell BQ.out 8).trans rfl; have hf8 := blk_frozen BQ.out 8))
      obtain ⟨nw, hnw⟩ : ∃ z, out ++ [(⟨q0, q1, q2, q3, q4, q5, q6, q7, q8⟩ : S33)] = z := ⟨_, rfl⟩
      rw [hnw] at H1
      have HNW := Aside0.mk hnw
      clear hnw
      have NOQ := Aside0.mk NO.out
      have n0_ := Aside0.mk (style_All.St.set9 HS1.out BQ.out (Nat.le_trans G0.out (by omega)) NO.out q0 q1 q2 q3 q4 q5 q6 q7 q8)
      have n1_ := Aside0.mk (style_All.blk9 BQ.out q0 q1 q2 q3 q4 q5 q6 q7 q8)
      have n3_ := Aside0.mk (style_All.kept9 KW.out (show w.heap.size ≤ w.heap.size + 1 by omega) q0 q1 q2 q3 q4 q5 q6 q7 q8)
      have n2_ := Aside0.mk (style_All.far9 BN.out (style_All.tne BN.out BQ.out (by decide)) q0 q1 q2 q3 q4 q5 q6 q7 q8)
      clear HS1 BN BQ KW NOQ hq0 hq1 hq2 hq3 hq4 hq5 hq6 hq7 hq8 hf0 hf1 hf2 hf3 hf4 hf5 hf6 hf7 hf8 LB
      have HS1 := n0_
      have BQ := n1_
      have KW := n3_
      have BN := n2_
      clear n0_ n1_ n2_ n3_
      obtain ⟨w7, e7⟩ : ∃ z, (((((((((w6.setCell ⟨w.heap.size + 1, 0, none⟩ (.int .i64 q0)).setCell ⟨w.heap.size + 1, 1, none⟩ (.int .i64 q1)).setCell ⟨w.heap.size + 1, 2, none⟩ (.int .i64 q2)).setCell ⟨w.heap.size + 1, 3, none⟩ (.int .i64 q3)).setCell ⟨w.heap.size + 1, 4, none⟩ (.int .i64 q4)).setCell ⟨w.heap.size + 1, 5, none⟩ (.int .i64 q5)).setCell ⟨w.heap.size + 1, 6, none⟩ (.int .i64 q6)).setCell ⟨w.heap.size + 1, 7, none⟩ (.int .i64 q7)).setCell ⟨w.heap.size + 1, 8, none⟩ (.int .i64 q8)) = z := ⟨_, rfl⟩
      rw [e7] at BQ KW HS1 BN
      rw [e7]
      clear e7
      have hco : w7.cell? ⟨Bo, 0, none⟩ = some vo := (blk_cell HS1.out.o 0).trans rfl
      have hq0 : w7.cell? ⟨w.heap.size + 1, 0, none⟩ = some (.int .i64 q0) := (blk_cell BQ.out 0).trans rfl
      have hq1 : w7.cell? ⟨w.heap.size + 1, 1, none⟩ = some (.int .i64 q1) := (blk_cell BQ.out 1).trans rfl
      have hq2 : w7.cell? ⟨w.heap.size + 1, 2, none⟩ = some (.int .i64 q2) := (blk_cell BQ.out 2).trans rfl
      have hq3 : w7.cell? ⟨w.heap.size + 1, 3, none⟩ = some (.int .i64 q3) := (blk_cell BQ.out 3).trans rfl
      have hq4 : w7.cell? ⟨w.heap.size + 1, 4, none⟩ = some (.int .i64 q4) := (blk_cell BQ.out 4).trans rfl
      have hq5 : w7.cell? ⟨w.heap.size + 1, 5, none⟩ = some (.int .i64 q5) := (blk_cell BQ.out 5).trans rfl
      have hq6 : w7.cell? ⟨w.heap.size + 1, 6, none⟩ = some (.int .i64 q6) := (blk_cell BQ.out 6).trans rfl
      have hq7 : w7.cell? ⟨w.heap.size + 1, 7, none⟩ = some (.int .i64 q7) := (blk_cell BQ.out 7).trans rfl
      have hq8 : w7.cell? ⟨w.heap.size + 1, 8, none⟩ = some (.int .i64 q8) := (blk_cell BQ.out 8).trans rfl
      go_upto_region 6 with (first | ((with_reducible refine gate_builtin (b := .append) (xs := #[.tmp 23, .tmp 25]) rfl ?_); at_builtin; refine Kd.R_append k33 (w0 := w0) w0.heap.size rfl (.tmp 23) (.tmp 25) 61 33 (.agg #[(.int .i64 0), (.int .i64 0), (.int .i64 0), (.int .i64 0), (.int .i64 0), (.int .i64 0), (.int .i64 0), (.int .i64 0), (.int .i64 0)]) 72 rfl Try.underlying61 info33 rfl (by decide) (by omega) vo out (⟨q0, q1, q2, q3, q4, q5, q6, q7, q8⟩ : S33) [.int .i64 q0, .int .i64 q1, .int .i64 q2, .int .i64 q3, .int .i64 q4, .int .i64 q5, .int .i64 q6, .int .i64 q7, .int .i64 q8] (fun _ => True) (fun _ => False) rfl rfl ?aP (fun _ hk => hk.elim) ?aF ?aO ?aB ?aS ?aL ?_; (case aP => exact k33_mkM _ _ _ _); (case aF => exact fun _ _ => trivial); (case aO => exact HS1.out.ro); (case aB => exact HS1.out.b); (case aS => exact below_size HS1.out.b); (case aL => have := HR.out.2; omega); intro v4 w8 ho hb hg hat; rw [HNW.out] at ho; obtain ⟨Ap, cp, rfl⟩ := Kd.R_slice ho; have n0_ := Aside0.mk (HS1.out.onOut hg hb ho); have n5_ := Aside0.mk (blk_grown HS1.out.o hg (Kd.R_ne HS1.out.ro HS1.out.o (by decide))); have n1_ := Aside0.mk (blk_grown BQ.out hg NO.out); have n3_ := Aside0.mk (style_All.grownKept KW.out hg (fun k hk => .inl (.inr (.inr (.inr hk))))); have n4_ := Aside0.mk (style_All.Hat.of hat KW.out.1); have n6_ := Aside0.mk ((style_All.Hat.of hat (Nat.le_refl _)).old (blk_lt BQ.out) NO.out); have n2_ := Aside0.mk (blk_grown BN.out hg (Kd.R_ne HS1.out.ro BN.out (by decide))); clear HS1 BQ KW NO BN; have BN := n2_; have HS1 := n0_; have BQ := n1_; have KW := n3_; have HTO := n4_; have PO := n5_; have NO := n6_; clear n0_ n1_ n2_ n3_ n4_ n5_ n6_ hb hg hat ho hco hq0 hq1 hq2 hq3 hq4 hq5 hq6 hq7 hq8; have hco : w8.cell? ⟨Bo, 0, none⟩ = some vo := (blk_cell PO.out 0).trans rfl; have hfo := blk_frozen PO.out 0))
      have n1_ := Aside0.mk (blk_far (p := ⟨Bo, 0, none⟩) BN.out (style_All.tne BN.out PO.out (by decide)) (.slice Ap nw.length cp))
      have n2_ := Aside0.mk (blk_far (p := ⟨Bo, 0, none⟩) BQ.out (style_All.tne BQ.out PO.out (by decide)) (.slice Ap nw.length cp))
      have n3_ := Aside0.mk (Kept.setCell KW.out (p := ⟨Bo, 0, none⟩) (.inl (.inr (.inl rfl))) (.slice Ap nw.length cp))
      clear BN BQ KW PO hco hfo
      have BN := n1_
      have BQ := n2_
      have KW := n3_
      clear n1_ n2_ n3_
      obtain ⟨w9, e9⟩ : ∃ z, w8.setCell ⟨Bo, 0, none⟩ (.slice Ap nw.length cp) = z := ⟨_, rfl⟩
      rw [e9] at BN BQ KW HS1
      rw [e9]
      clear e9
      have hc3 : w9.cell? ⟨w.heap.size, 3, none⟩ = some (.slice A3 x3.length c3) := (blk_cell BN.out 3).trans rfl
      go_upto_block 0 with (fail)
      clear hc3 hx
      have hT1 : ((x3.length : Int) ≤ 9223372036854775807) := by have := Kd.C_max H3.out; omega
      go_wp2
      go_loopg [30] x3.length (fun kq v30 w' => ∃ (i : Nat) (o : List S33) (vq vr : Value), v30 = .int .i64 (i : Int) ∧ Aside0 (i + kq = x3.length) ∧ Aside0 (style_All.kids (fun x o => style_All.down l k np x ⟨q0, q1, q2, q3, q4, q5, q6, q7, q8⟩ o) (x3.drop i) o = some r) ∧ Aside0 (style_All.Went w0 w w' Bp Bl Bo Bd Al cl l vp vo np o vq vr) ∧ Aside0 (w'.heap[w.heap.size + 1]? = some (.cells #[.int .i64 q0, .int .i64 q1, .int .i64 q2, .int .i64 q3, .int .i64 q4, .int .i64 q5, .int .i64 q6, .int .i64 q7, .int .i64 q8] 33 (0, 0))) ∧ Aside0 (some (w.heap.size + 1) ≠ vr.ownBlock))
      case atStart => exact ⟨0, nw, (.slice Ao np.length co), (.slice Ap nw.length cp), rfl, ⟨by omega⟩, H1, ⟨⟨HS1.out, KW.out, HTP.out, HTO.out⟩⟩, BQ, NO⟩
      case round =>
        clear H1 BN BQ KW HS1 NO HTP HTO HNW
        obtain ⟨i, o, vq, vr, rfl, HI, HK, HW, BQ, NO⟩ := hrel
        cases gk with
        | zero =>
          have hi : i = x3.length := by have := HI.out; omega
          subst hi
          have hr : o = r := by have := HK.out; rw [List.drop_eq_nil_of_le (Nat.le_refl _), style_All.kids] at this; exact Option.some.inj this
          subst hr
          have kc1 : ((x3.length : Int) < (x3.length : Int)) = False := eq_false (by omega)
          have kc2 : (x3.length < x3.length) = False := eq_false (by omega)
          go_wp2
          have hnp := HNP.out
          subst hnp
          obtain ⟨A9, c9, rfl⟩ := Kd.R_slice HW.out.s.rp
          have hle := (Kd.R_reads' HW.out.s.rp).2.1
          have hmx := Kd.C_max (Kd.R_reads' HW.out.s.rp).2.2
          have eL : (path ++ [(⟨f0, f1, f2⟩ : S56)]).length = path.length + 1 := by simp
          rw [eL] at HW hle hmx
          refine leaves_cons (f := 48) (args := #[.pointer (some ⟨Bp, 0, none⟩)]) (by simp) (by simp [go_sem]) ?_
          refine (style_All.pop Bp A9 path.length c9 .returning wr HW.out.s.p hle hmx).mono ?_
          rintro e u' w'' ⟨rfl, rfl, rfl⟩
          have hs9 := HW.out.s.popped (by rw [eL]; omega)
          rw [List.take_left'  rfl] at hs9
          exact ⟨_, results_none rfl _ _ _, rfl, _, vr, hs9, Kept.setCell HW.out.k (.inl (.inl rfl)) _, HW.out.hp.cut, HW.out.ho⟩
        | succ q =>
          have hi : i < x3.length := by have := HI.out; omega
          have kc1 : ((i : Int) < (x3.length : Int)) = True := eq_true (by omega)
          have kc2 : (i < x3.length) = True := eq_true hi
          have kc3 : ((0 : Int) ≤ (i : Int)) = True := eq_true (by omega)
          have kc4 : decide ((i : Int) < (x3.length : Int)) = true := decide_eq_true (by omega)
          have kc5 : decide (i < x3.length) = true := decide_eq_true hi
          have kc6 : IntKind.i64.wrap ((i : Int) + 1) = (i : Int) + 1 := by rw [IntKind.wrap_i64]; omega
          have HI2 : Aside0 (i + 1 + q = x3.length) := ⟨by have := HI.out; omega⟩
          have hk := HK.out
          rw [style_All.drop52 hi, style_All.kids] at hk
          obtain ⟨o2, hd0, hk2⟩ := Option.bind_eq_some_iff.mp hk
          have HD := Aside0.mk hd0
          have HK2 := Aside0.mk hk2
          clear hk hd0 hk2 HK
          obtain ⟨ad, B2, e2, B3, e3, rfl, y0, y1, y2, y3, y4, l2, g2, l3, g3⟩ := at_T52 H3.out (i : Int) (by omega) (by omega)
          simp only [Int.toNat_natCast] at y0 y1 y2 y3 y4
          replace y0 := (HW.out.s.b.cell (World.block_lt_of_cell? w0 _ y0)).trans y0
          replace y1 := (HW.out.s.b.cell (World.block_lt_of_cell? w0 _ y1)).trans y1
          replace y2 := (HW.out.s.b.cell (World.block_lt_of_cell? w0 _ y2)).trans y2
          replace y3 := (HW.out.s.b.cell (World.block_lt_of_cell? w0 _ y3)).trans y3
          replace y4 := (HW.out.s.b.cell (World.block_lt_of_cell? w0 _ y4)).trans y4
          have L2 := Aside0.mk l2
          have G2 := Aside0.mk g2
          have L3 := Aside0.mk l3
          have G3 := Aside0.mk g3
          go_upto_region 9 with (fail)
          clear y0 y1 y2 y3 y4
          have ha := below_alloc (Below.refl wr.heap.size wr) (.cells #[.string (rd_T52 x3 (i : Int)).f0, .string (rd_T52 x3 (i : Int)).f1, .slice B2 (rd_T52 x3 (i : Int)).f2.length e2, .slice B3 (rd_T52 x3 (i : Int)).f3.length e3, .int .i64 (rd_T52 x3 (i : Int)).f4] 52)
          have hn := heap_alloc_new wr (.cells #[.string (rd_T52 x3 (i : Int)).f0, .string (rd_T52 x3 (i : Int)).f1, .slice B2 (rd_T52 x3 (i : Int)).f2.length e2, .slice B3 (rd_T52 x3 (i : Int)).f3.length e3, .int .i64 (rd_T52 x3 (i : Int)).f4] 52)
          generalize wr.alloc (.cells #[.string (rd_T52 x3 (i : Int)).f0, .string (rd_T52 x3 (i : Int)).f1, .slice B2 (rd_T52 x3 (i : Int)).f2.length e2, .slice B3 (rd_T52 x3 (i : Int)).f3.length e3, .int .i64 (rd_T52 x3 (i : Int)).f4] 52) = w8 at ha hn ⊢
          have HA := Aside0.mk ha
          have BX := Aside0.mk (blk_below BQ.out ha)
          have HX := Aside0.mk (style_All.Went.below HW.out ha)
          have HZ := Aside0.mk (blk_lt BQ.out)
          have hd0 : w8.cell? ⟨Bd, 0, none⟩ = some (.func (.func 47) #[] #[.pointer (some ⟨Bp, 0, none⟩), .pointer (some ⟨Bl, 0, none⟩), .pointer (some ⟨Bo, 0, none⟩), .pointer (some ⟨Bd, 0, none⟩)]) := (blk_cell HX.out.s.d 0).trans rfl
          have hn0 : w8.cell? ⟨wr.heap.size, 0, none⟩ = some (.string (rd_T52 x3 (i : Int)).f0) := (blk_cell hn 0).trans rfl
          have hn1 : w8.cell? ⟨wr.heap.size, 1, none⟩ = some (.string (rd_T52 x3 (i : Int)).f1) := (blk_cell hn 1).trans rfl
          have hn2 : w8.cell? ⟨wr.heap.size, 2, none⟩ = some (.slice B2 (rd_T52 x3 (i : Int)).f2.length e2) := (blk_cell hn 2).trans rfl
          have hn3 : w8.cell? ⟨wr.heap.size, 3, none⟩ = some (.slice B3 (rd_T52 x3 (i : Int)).f3.length e3) := (blk_cell hn 3).trans rfl
          have hn4 : w8.cell? ⟨wr.heap.size, 4, none⟩ = some (.int .i64 (rd_T52 x3 (i : Int)).f4) := (blk_cell hn 4).trans rfl
          have hq0 : w8.cell? ⟨w.heap.size + 1, 0, none⟩ = some (.int .i64 q0) := (blk_cell BX.out 0).trans rfl
          have hq1 : w8.cell? ⟨w.heap.size + 1, 1, none⟩ = some (.int .i64 q1) := (blk_cell BX.out 1).trans rfl
          have hq2 : w8.cell? ⟨w.heap.size + 1, 2, none⟩ = some (.int .i64 q2) := (blk_cell BX.out 2).trans rfl
          have hq3 : w8.cell? ⟨w.heap.size + 1, 3, none⟩ = some (.int .i64 q3) := (blk_cell BX.out 3).trans rfl
          have hq4 : w8.cell? ⟨w.heap.size + 1, 4, none⟩ = some (.int .i64 q4) := (blk_cell BX.out 4).trans rfl
          have hq5 : w8.cell? ⟨w.heap.size + 1, 5, none⟩ = some (.int .i64 q5) := (blk_cell BX.out 5).trans rfl
          have hq6 : w8.cell? ⟨w.heap.size + 1, 6, none⟩ = some (.int .i64 q6) := (blk_cell BX.out 6).trans rfl
          have hq7 : w8.cell? ⟨w.heap.size + 1, 7, none⟩ = some (.int .i64 q7) := (blk_cell BX.out 7).trans rfl
          have hq8 : w8.cell? ⟨w.heap.size + 1, 8, none⟩ = some (.int .i64 q8) := (blk_cell BX.out 8).trans rfl
          clear ha hn HW BQ l2 g2 l3 g3 hi
          go_wp2_with (first | (go_at_call 47; (with_reducible refine (ih (rd_T52 x3 (i : Int)) B2 e2 B3 e3 ⟨q0, q1, q2, q3, q4, q5, q6, q7, q8⟩ np o o2 vq vr _ HX.out.s G2.out L2.out G3.out L3.out HD.out).mono ?_); rintro e w9 ⟨rfl, vq2, vr2, HW2⟩; have NQ := Aside0.mk (HW2.blk HX.out.s BX.out (by decide) (by decide) (by decide) NO.out); have NN := Aside0.mk (HW2.ho.old (blk_lt BX.out) NO.out); have NW := Aside0.mk (style_All.Went.next HX.out HW2); clear HX HW2))
          go_roundg q
          case measure => exact Nat.lt_succ_self q
          case rel => exact ⟨i + 1, o2, vq2, vr2, by go_num, HI2, HK2, NW, NQ, NN⟩
    · rw [if_neg hroom] at H1
      exact absurd H1.out (by simp)
set_option maxHeartbeats 8000000 in
set_option maxRecDepth 100000 in
theorem style_All.calls (k : Nat) (A0 : Option Addr) (c0 : Nat) (l : List S41) (n0 n1 : ByteArray) (A2 : Option Addr) (c2 : Nat) (n2 : List S82) (A3 : Option Addr) (c3 : Nat) (n3 : List S52) (n4 : Int) (r : List S33) (w : World) (hl : Kd.C k41 w A0 l.length l) (hlc : l.length ≤ c0) (h2 : Kd.C k82 w A2 n2.length n2) (hc2 : n2.length ≤ c2) (h3 : Kd.C k52 w A3 n3.length n3) (hc3 : n3.length ≤ c3) (h : style_All.f k l n0 n1 n2 n3 n4 = some r) :
    Calls Try.prog 28 #[.slice A0 l.length c0, .agg #[.string n0, .string n1, .slice A2 n2.length c2, .slice A3 n3.length c3, .int .i64 n4]] w fun e w' => ∃ v0_ : Value, e = .returned v0_ ∧ Kd.R k33 33 w' w.heap.size (fun _ => True) v0_ r ∧ Below w.heap.size w w' := by
  unfold style_All.f at h
  have HL := Aside0.mk hl
  have HLC := Aside0.mk hlc
  have H2 := Aside0.mk h2
  have HC2 := Aside0.mk hc2
  have H3 := Aside0.mk h3
  have HC3 := Aside0.mk hc3
  have H := Aside0.mk h
  clear hl hlc h2 hc2 h3 hc3 h
  have hmf : ∀ (fn : Fn) (first cap : Array Value) (w : World), (Instr.makeFunc fn first cap).run Try.prog w = .ok (.func fn first cap) w := fun _ _ _ _ => rfl
  have HS0 := Aside0.mk (style_All.first_st w A0 c0 l #[.string n0, .string n1, .slice A2 n2.length c2, .slice A3 n3.length c3, .int .i64 n4])
  have BN0 := Aside0.mk (style_All.first_bn w A0 c0 l #[.string n0, .string n1, .slice A2 n2.length c2, .slice A3 n3.length c3, .int .i64 n4])
  go_enter Try.func28, Try.ntmps28
  go_upto_region 5 with (fail)
  obtain ⟨w1, e1⟩ : ∃ z, ((((w.alloc (.cells #[.slice A0 l.length c0] 22)).alloc (.cells #[.string n0, .string n1, .slice A2 n2.length c2, .slice A3 n3.length c3, .int .i64 n4] 52)).alloc (.cells #[.slice none 0 0] 61)).alloc (.cells #[.slice none 0 0] 23)).alloc (.cells #[.func (.func 47) #[] #[.pointer (some ⟨w.heap.size + 3, 0, none⟩), .pointer (some ⟨w.heap.size, 0, none⟩), .pointer (some ⟨w.heap.size + 2, 0, none⟩), .pointer (some ⟨w.heap.size + 4, 0, none⟩)]] 88) = z := ⟨_, rfl⟩
  rw [e1] at HS0 BN0
  rw [e1]
  clear e1
  have HS := Aside0.mk (HS0.out.below (below_drew (Below.refl _ _)))
  have BN := Aside0.mk (blk_drew BN0.out)
  clear HS0 BN0
  refine start_ (n := 4) (S := fun w' => w'.cell? ⟨w.heap.size + 4, 0, none⟩ = some (.func (.func 47) #[] #[.pointer (some ⟨w.heap.size + 3, 0, none⟩), .pointer (some ⟨w.heap.size, 0, none⟩), .pointer (some ⟨w.heap.size + 2, 0, none⟩), .pointer (some ⟨w.heap.size + 4, 0, none⟩)]) ∧ w'.cell? ⟨w.heap.size + 1, 0, none⟩ = some (.string n0) ∧ w'.cell? ⟨w.heap.size + 1, 1, none⟩ = some (.string n1) ∧ w'.cell? ⟨w.heap.size + 1, 2, none⟩ = some (.slice A2 n2.length c2) ∧ w'.cell? ⟨w.heap.size + 1, 3, none⟩ = some (.slice A3 n3.length c3) ∧ w'.cell? ⟨w.heap.size + 1, 4, none⟩ = some (.int .i64 n4)) (ds := []) #[false, false, false, false] (by kernel_rfl) rfl rfl ⟨(blk_cell HS.out.d 0).trans rfl, (blk_cell BN.out 0).trans rfl, (blk_cell BN.out 1).trans rfl, (blk_cell BN.out 2).trans rfl, (blk_cell BN.out 3).trans rfl, (blk_cell BN.out 4).trans rfl⟩ (fun hHeld => ?_)
  generalize w1.drew = w2 at BN HS hHeld ⊢
  refine take_ (i := 0) (N := some 9) (v := ?_) (a' := ?_) #[true, false, false, false] rfl rfl (by kernel_rfl) (fun _ _ _ h => h) (Or.inl ⟨by rfl, ?_⟩) hHeld ?_ ?_
  rotate_left
  · rintro w' ⟨s0, s1, s2, s3, s4, s5⟩
    go_simp
    with_reducible rfl
  rotate_left
  · simp only [Act.put, List.setIfInBounds_toArray, List.set_cons_zero, List.set_cons_succ, i64_w, i32_w]
    rfl
  refine take_ (i := 1) (N := some 10) (v := ?_) (a' := ?_) #[true, true, false, false] rfl rfl (by kernel_rfl) (fun _ _ _ h => h) (Or.inl ⟨by rfl, ?_⟩) hHeld ?_ ?_
  rotate_left
  · rintro w' ⟨s0, s1, s2, s3, s4, s5⟩
    go_simp
    with_reducible rfl
  rotate_left
  · simp only [Act.put, List.setIfInBounds_toArray, List.set_cons_zero, List.set_cons_succ, i64_w, i32_w]
    rfl
  refine one_ (i := 2) (N := some 11) #[true, true, true, false] rfl rfl (by kernel_rfl) (by decide) (fun K hK => ?_)
  refine goes_ Try.func18 (by kernel_rfl) rfl #[] (by rfl) rfl rfl (by (try simp only [List.map_toArray, List.map_cons, List.map_nil]); first | done | rfl) ?_
  with_reducible refine (style_First.calls 0 655360 786432 0 0 0 0 0 1 _ rfl).mono ?_
  rintro e w3 ⟨rfl, hb⟩
  refine ⟨_, rfl, ?_⟩
  have n0_ := Aside0.mk (HS.out.below hb)
  have n1_ := Aside0.mk (blk_below BN.out hb)
  clear HS BN
  have HS := n0_
  have BN := n1_
  clear n0_ n1_ hb
  refine hK.out _ _ ⟨(blk_cell HS.out.d 0).trans rfl, (blk_cell BN.out 0).trans rfl, (blk_cell BN.out 1).trans rfl, (blk_cell BN.out 2).trans rfl, (blk_cell BN.out 3).trans rfl, (blk_cell BN.out 4).trans rfl⟩ (fun hHeld => ?_)
  clear hK K
  refine norm_ (a' := ?_) ?_ ?_
  rotate_left
  · show Act.put _ (some 11) _ = _
    simp only [Act.put, List.setIfInBounds_toArray, List.set_cons_zero, List.set_cons_succ, i64_w, i32_w]
    rfl
  refine one_ (i := 3) (N := some 12) #[true, true, true, true] rfl rfl (by kernel_rfl) (by decide) (fun K hK => ?_)
  refine call_ 47 #[.agg #[.string n0, .string n1, .slice A2 n2.length c2, .slice A3 n3.length c3, .int .i64 n4], .agg #[.int .i64 0, .int .i64 655360, .int .i64 786432, .int .i64 0, .int .i64 0, .int .i64 0, .int .i64 0, .int .i64 0, .int .i64 1], .pointer (some ⟨w.heap.size + 3, 0, none⟩), .pointer (some ⟨w.heap.size, 0, none⟩), .pointer (some ⟨w.heap.size + 2, 0, none⟩), .pointer (some ⟨w.heap.size + 4, 0, none⟩)] (by rfl) rfl ?_ ?_
  · go_simp
  with_reducible refine (style_All.downs l w (w.heap.size + 3) w.heap.size (w.heap.size + 2) (w.heap.size + 4) A0 c0 HL.out HLC.out k ⟨n0, n1, n2, n3, n4⟩ A2 c2 A3 c3 ⟨0, 655360, 786432, 0, 0, 0, 0, 0, 1⟩ [] [] r _ _ _ HS.out H2.out HC2.out H3.out HC3.out H.out).mono ?_
  rintro e w4 ⟨rfl, vp, vo, HW⟩
  refine ⟨_, rfl, ?_⟩
  have BN2 := Aside0.mk (HW.blk HS.out BN.out (by decide) (by decide) (by decide) (by simp [Value.ownBlock]))
  clear HS BN
  refine hK.out _ _ ⟨(blk_cell HW.s.d 0).trans rfl, (blk_cell BN2.out 0).trans rfl, (blk_cell BN2.out 1).trans rfl, (blk_cell BN2.out 2).trans rfl, (blk_cell BN2.out 3).trans rfl, (blk_cell BN2.out 4).trans rfl⟩ (fun hHeld => ?_)
  clear hK K
  refine norm_ (a' := ?_) ?_ ?_
  rotate_left
  · show Act.put _ (some 12) _ = _
    simp only [Act.put, List.setIfInBounds_toArray, List.set_cons_zero, List.set_cons_succ, i64_w, i32_w]
    rfl
  refine done_ (by kernel_rfl) ?_
  have ho4 : w4.cell? ⟨w.heap.size + 2, 0, none⟩ = some vo := (blk_cell HW.s.o 0).trans rfl
  obtain ⟨A9, c9, rfl⟩ := Kd.R_slice HW.s.ro
  have HW2 := Aside0.mk HW
  clear HW
  go_wp2
  go_ret
  exact ⟨_, rfl, HW2.out.s.ro, HW2.out.s.b⟩

end Go.Proofs.Ytpembifnjlekdaa.PStyleAll
