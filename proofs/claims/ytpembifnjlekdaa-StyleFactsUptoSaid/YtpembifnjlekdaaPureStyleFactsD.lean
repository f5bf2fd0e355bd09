/- For StyleFacts: how nodes are read, the pieces between blanks, copies, and what is large. -/
import Derived.Test.YtpembifnjlekdaaPStyleFactsx4
import Derived.Test.YtpembifnjlekdaaPStyleFactsx5
import Derived.Test.YtpembifnjlekdaaRdU
import Derived.Laws.RangeAny
namespace Go.Proofs.Ytpembifnjlekdaa.PureStyleFacts
open Go.RowKit Go.ChangeShapes Go.WideShapes Go.Proofs.Ytpembifnjlekdaa Go.Proofs.Ytpembifnjlekdaa.PStyleFacts Go.Proofs.YtpembifnjlekdaaW.PrintWords Go.Proofs.YtpembifnjlekdaaW.PrintLast Go.Proofs.YtpembifnjlekdaaW.PrintMore
/-- What the reader gives of a node. -/
inductive OKN : S52 → Prop
  | mk (x : S52) (h0 : x.f0.size ≤ 1048576) (h1 : x.f1.size ≤ 1048576) (h2 : x.f2.length ≤ 1048576 ∧ ∀ a ∈ x.f2, a.f0.size ≤ 1048576 ∧ a.f1.size ≤ 1048576) (h3 : x.f3.length ≤ 1048576) (h5 : ∀ k, k ∈ x.f3 → OKN k) (h4 : (Lit.int .i64 x.f4).wf = true) : OKN x
theorem reads_node0 : Rd.Reads Try.prog 0 k52 52 OKN := by
  intro H enc w fuel cs y hf hy _
  obtain ⟨n, hn⟩ := Rd.fuel_pos hy
  omega
theorem reads_node (m : Nat) : Rd.Reads Try.prog m k52 52 OKN := by
  induction m using Nat.strongRecOn with
  | ind m ih =>
    cases m with
    | zero => exact reads_node0
    | succ m =>
      have hk : Rd.Reads Try.prog (m - 1) k52 52 OKN := ih (m - 1) (by omega)
      have base := Rd.reads_iso (m := m + 1) (β := S52) (fun x : S52 => (x.f0, x.f1, x.f2, x.f3, x.f4)) (Rd.reads_struct Try.underlying52 (by kernel_rfl) (Rd.fs_cons rfl (by kernel_rfl) rfl (Rd.reads_string Try.underlying9) (Rd.fs_cons rfl (by kernel_rfl) rfl (Rd.reads_string Try.underlying9)
        (Rd.fs_cons rfl (by kernel_rfl) rfl (Rd.reads_slice (B := 32) (d := k82) Try.underlying49 (by kernel_rfl) (by decide) (Rd.reads_iso (β := S82) (fun x : S82 => (x.f0, x.f1)) (Rd.reads_struct Try.underlying82 (by kernel_rfl) (Rd.fs_cons rfl (by kernel_rfl) rfl (Rd.reads_string Try.underlying9) (Rd.fs_one rfl (by kernel_rfl) (Rd.reads_string Try.underlying9)))) (fun x => ⟨⟨x.1, x.2⟩, rfl⟩)))
        (Rd.fs_cons rfl (by kernel_rfl) rfl (Rd.reads_slice (B := 88) Try.underlying50 (by kernel_rfl) (by decide) hk) (Rd.fs_one rfl (by kernel_rfl) (Rd.reads_int Try.underlying3))))))) (fun x => ⟨⟨x.1, x.2.1, x.2.2.1, x.2.2.2.1, x.2.2.2.2⟩, rfl⟩)
      intro H enc w fuel cs y hf hy hw
      obtain ⟨x, hK, hok⟩ := base H enc w fuel cs y hf hy hw
      obtain ⟨_, _, rfl, rfl, ⟨_, _, rfl, rfl, ⟨_, _, rfl, ⟨A2, c2, rfl, l2, g2⟩, ⟨_, _, rfl, ⟨A3, c3, rfl, l3, g3⟩, rfl⟩⟩⟩⟩ := hK
      exact ⟨x, k52_mk w x l2 g2 l3 g3, .mk x hok.1 hok.2.1 ⟨hok.2.2.1.1.2, hok.2.2.1.2⟩ hok.2.2.2.1.1.2 hok.2.2.2.1.2 hok.2.2.2.2⟩

/-! ### strings.FieldsFunc at ' ', byte by byte -/
theorem cont_hi (s : ByteArray) (i k : Nat) (h : (decide (i + k < s.size) && (s.get! (i + k)).toNat / 64 == 2) = true) : i + k < s.size ∧ 128 ≤ (s.get! (i + k)).toNat := by
  simp only [Bool.and_eq_true, decide_eq_true_eq, beq_iff_eq] at h
  omega
/-- A byte from 128 on: the rune is none below 128, and every byte of it is one from 128 on. -/
theorem dec_hi (s : ByteArray) (i : Nat) (h : i < s.size) (hb : 128 ≤ (s.get! i).toNat) : 128 ≤ (Go.Utf8.decode s i).1 ∧ 1 ≤ (Go.Utf8.decode s i).2 ∧ i + (Go.Utf8.decode s i).2 ≤ s.size ∧ ∀ k, k < (Go.Utf8.decode s i).2 → 128 ≤ (s.get! (i + k)).toNat := by
  have h0 : 128 ≤ (s.get! (i + 0)).toNat := hb
  have one : ∀ k, k < 1 → 128 ≤ (s.get! (i + k)).toNat := fun k hk => by obtain rfl : k = 0 := by omega
                                                                         exact h0
  have hr : 128 ≤ Go.Utf8.runeError := by decide
  unfold Go.Utf8.decode
  dsimp only
  rw [if_neg (by omega)]
  split
  · rename_i c
    rw [Bool.and_eq_true] at c
    have c1 := cont_hi s i 1 c.2
    split
    · rename_i hc
      exact ⟨hc, by omega, by omega, fun k hk => by
        rcases (show k = 0 ∨ k = 1 by omega) with rfl | rfl
        · exact h0
        · exact c1.2⟩
    · exact ⟨hr, Nat.le_refl _, by omega, one⟩
  · split
    · rename_i _ c
      rw [Bool.and_eq_true, Bool.and_eq_true] at c
      have c1 := cont_hi s i 1 c.1.2
      have c2 := cont_hi s i 2 c.2
      split
      · rename_i hc
        rw [Bool.and_eq_true, decide_eq_true_eq] at hc
        exact ⟨by omega, by omega, by omega, fun k hk => by
          rcases (show k = 0 ∨ k = 1 ∨ k = 2 by omega) with rfl | rfl | rfl
          · exact h0
          · exact c1.2
          · exact c2.2⟩
      · exact ⟨hr, Nat.le_refl _, by omega, one⟩
    · split
      · rename_i _ _ c
        rw [Bool.and_eq_true, Bool.and_eq_true, Bool.and_eq_true] at c
        have c1 := cont_hi s i 1 c.1.1.2
        have c2 := cont_hi s i 2 c.1.2
        have c3 := cont_hi s i 3 c.2
        split
        · rename_i hc
          rw [Bool.and_eq_true, decide_eq_true_eq] at hc
          exact ⟨by omega, by omega, by omega, fun k hk => by
            rcases (show k = 0 ∨ k = 1 ∨ k = 2 ∨ k = 3 by omega) with rfl | rfl | rfl | rfl
            · exact h0
            · exact c1.2
            · exact c2.2
            · exact c3.2⟩
        · exact ⟨hr, Nat.le_refl _, by omega, one⟩
      · exact ⟨hr, Nat.le_refl _, by omega, one⟩
theorem dec_lo (s : ByteArray) (i : Nat) (hb : (s.get! i).toNat < 128) : Go.Utf8.decode s i = ((s.get! i).toNat, 1) := by
  have h0 : (s.get! (i + 0)).toNat < 128 := hb
  unfold Go.Utf8.decode
  dsimp only
  rw [if_pos h0]
  rfl
/-- The pieces, byte by byte: d bytes are left. -/
def spansB (s : ByteArray) : Nat → Nat → Option Nat → List (Nat × Nat) → List (Nat × Nat) × Option Nat
  | 0, _, st, acc => (acc, st)
  | d + 1, pos, st, acc => if (s.get! pos).toNat = 32 then spansB s d (pos + 1) none (match st with | some a => acc ++ [(a, pos)] | none => acc) else spansB s d (pos + 1) (match st with | some a => some a | none => some pos) acc
theorem spansB_run (s : ByteArray) (a : Nat) (acc : List (Nat × Nat)) : ∀ (n d pos : Nat), (∀ k, k < n → 128 ≤ (s.get! (pos + k)).toNat) → spansB s (n + d) pos (some a) acc = spansB s d (pos + n) (some a) acc
  | 0, d, pos, _ => by rw [Nat.zero_add, Nat.add_zero]
  | n + 1, d, pos, h => by
    have h0 := h 0 (by omega)
    rw [Nat.add_zero] at h0
    rw [show n + 1 + d = (n + d) + 1 by omega, spansB, if_neg (by omega)]
    rw [spansB_run s a acc n d (pos + 1) (fun k hk => by have := h (k + 1) (by omega); rw [show pos + 1 + k = pos + (k + 1) by omega]; exact this), show pos + 1 + n = pos + (n + 1) by omega]
theorem spansB_step (s : ByteArray) (d pos : Nat) (st : Option Nat) (acc : List (Nat × Nat)) : spansB s (d + 1) pos st acc = if (s.get! pos).toNat = 32 then spansB s d (pos + 1) none (match st with | some a => acc ++ [(a, pos)] | none => acc) else spansB s d (pos + 1) (match st with | some a => some a | none => some pos) acc := by
  cases st with
  | some a => rfl
  | none => rfl
theorem spansFromP_step (p : Nat → Bool) (s : ByteArray) (f pos : Nat) (st : Option Nat) (acc : List (Nat × Nat)) (h : pos < s.size) : Go.Lib.spansFromP p s (f + 1) pos st acc = if p (Go.Utf8.decode s pos).1 = true then Go.Lib.spansFromP p s f (pos + (Go.Utf8.decode s pos).2) none (match st with | some a => acc ++ [(a, pos)] | none => acc) else Go.Lib.spansFromP p s f (pos + (Go.Utf8.decode s pos).2) (match st with | some a => some a | none => some pos) acc := by
  rw [Go.Lib.spansFromP.eq_def]
  dsimp only
  rw [if_pos h]
  cases st with
  | some a => rfl
  | none => rfl
theorem spans_bytes (s : ByteArray) : ∀ (f d pos : Nat) (st : Option Nat) (acc : List (Nat × Nat)), pos + d = s.size → d ≤ f → Go.Lib.spansFromP spR s f pos st acc = spansB s d pos st acc := by
  intro f
  induction f with
  | zero =>
    intro d pos st acc h1 h2
    obtain rfl : d = 0 := by omega
    rfl
  | succ f ih =>
    intro d pos st acc h1 h2
    cases d with
    | zero =>
      rw [Go.Lib.spansFromP_end spR s (f + 1) pos st acc (by omega)]
      rfl
    | succ d =>
      rw [spansFromP_step spR s f pos st acc (by omega)]
      by_cases hb : (s.get! pos).toNat < 128
      · rw [dec_lo s pos hb, spansB_step]
        by_cases h32 : (s.get! pos).toNat = 32
        · rw [if_pos (show spR (s.get! pos).toNat = true by unfold spR; rw [h32]; rfl), if_pos h32]
          cases st with
          | some a => exact ih d (pos + 1) _ _ (by omega) (by omega)
          | none => exact ih d (pos + 1) _ _ (by omega) (by omega)
        · rw [if_neg (show ¬ spR (s.get! pos).toNat = true by unfold spR; rw [beq_iff_eq]; exact h32), if_neg h32]
          cases st with
          | some a => exact ih d (pos + 1) _ _ (by omega) (by omega)
          | none => exact ih d (pos + 1) _ _ (by omega) (by omega)
      · obtain ⟨e1, e2, e3, e4⟩ := dec_hi s pos (by omega) (by omega)
        generalize Go.Utf8.decode s pos = D at e1 e2 e3 e4
        rw [if_neg (show ¬ spR D.1 = true by unfold spR; rw [beq_iff_eq]; omega)]
        have key : ∀ a, Go.Lib.spansFromP spR s f (pos + D.2) (some a) acc = spansB s (d + 1) pos (some a) acc := fun a => by
          rw [ih (d + 1 - D.2) (pos + D.2) (some a) acc (by omega) (by omega)]
          have := spansB_run s a acc D.2 (d + 1 - D.2) pos e4
          rw [show D.2 + (d + 1 - D.2) = d + 1 by omega] at this
          exact this.symm
        cases st with
        | some a => exact key a
        | none =>
          have h2 := key pos
          rw [spansB_step, if_neg (by omega)] at h2 ⊢
          exact h2

/-! ### the reference's pieces -/
theorem w_in {e : Int} (h : -9223372036854775808 ≤ e ∧ e ≤ 9223372036854775807) : wrap64 e = e := by unfold wrap64; omega
theorem bt_get {c : ByteArray} {i : Nat} (h : i < c.size) : bt c (i : Int) = ((c.get! i).toNat : Int) := by
  have e : c.get! i = c[i] := by
    simp [ByteArray.get!, getElem!_pos, h]
    rfl
  rw [e, ← bt_at c (i : Int) (by rw [Int.toNat_natCast]; exact h)]
  rfl
def frm (st : Option Nat) (i : Nat) : Nat := match st with | some a => a | none => i
def ext (c : ByteArray) (x : Nat × Nat) : ByteArray := c.extract x.1 x.2
theorem ref_l0 (c : ByteArray) (hc : c.size ≤ 4294967296) (nm fid : ByteArray) : ∀ (d k i : Nat) (st : Option Nat) (acc : List (Nat × Nat)), i + d = c.size → 2 * d + 3 ≤ k → (∀ a, st = some a → a < i) → acc.length ≤ i →
    colophonref20_Facts.l0 k c ((frm st i : Nat) : Int) (i : Int) nm fid (acc.map (ext c)) = some (nm, fid, (Go.Lib.closeSpans c (spansB c d i st acc)).map (ext c)) := by
  intro d
  induction d with
  | zero =>
    intro k i st acc h1 h2 h3 h4
    obtain ⟨k, rfl⟩ : ∃ q, k = q + 3 := ⟨k - 3, by omega⟩
    rw [colophonref20_Facts.l0, if_pos (by omega), if_pos (by omega), colophonref20_Facts.j1, if_pos rfl]
    have e1 : wrap64 ((i : Int) + 1) = ((i + 1 : Nat) : Int) := by rw [w_in (by omega)]; omega
    rw [e1]
    cases st with
    | some a =>
      have ha := h3 a rfl
      show (if (i : Int) > (a : Int) then _ else _) = _
      rw [if_pos (by omega), if_pos (by omega), if_pos (show ((frm (some a) i : Nat) : Int) ≤ (i : Int) from by show (a : Int) ≤ i; omega), if_pos (by omega), if_pos (by rw [List.length_map]; omega), colophonref20_Facts.l0, if_neg (by omega)]
      rw [spansB, Go.Lib.closeSpans]
      dsimp only
      rw [List.map_append, ← h1, Nat.add_zero]
      rfl
    | none =>
      show (if (i : Int) > (i : Int) then _ else _) = _
      rw [if_neg (by omega), colophonref20_Facts.l0, if_neg (by omega)]
      rfl
  | succ d ih =>
    intro k i st acc h1 h2 h3 h4
    obtain ⟨k, rfl⟩ : ∃ q, k = q + 2 := ⟨k - 2, by omega⟩
    have e1 : wrap64 ((i : Int) + 1) = ((i + 1 : Nat) : Int) := by rw [w_in (by omega)]; omega
    rw [colophonref20_Facts.l0, if_pos (by omega), if_neg (by omega), if_pos (by omega), if_pos (by omega), colophonref20_Facts.j1, e1, spansB_step]
    by_cases hb : (c.get! i).toNat = 32
    · rw [if_pos (show (bt c (i : Int) == 32) = true by rw [beq_iff_eq, bt_get (by omega)]; omega), if_pos hb]
      cases st with
      | some a =>
        have ha := h3 a rfl
        show (if (i : Int) > (a : Int) then _ else _) = _
        rw [if_pos (by omega), if_pos (show (0 : Int) ≤ ((frm (some a) i : Nat) : Int) by omega), if_pos (show ((frm (some a) i : Nat) : Int) ≤ (i : Int) from by show (a : Int) ≤ i; omega), if_pos (by omega), if_pos (by rw [List.length_map]; omega)]
        have := ih k (i + 1) none (acc ++ [(a, i)]) (by omega) (by omega) (fun a h => by cases h) (by rw [List.length_append]; simp; omega)
        rw [List.map_append] at this
        exact this
      | none =>
        show (if (i : Int) > (i : Int) then _ else _) = _
        rw [if_neg (by omega)]
        exact ih k (i + 1) none acc (by omega) (by omega) (fun a h => by cases h) (by omega)
    · rw [if_neg (show ¬ (bt c (i : Int) == 32) = true by rw [beq_iff_eq, bt_get (by omega)]; omega), if_neg hb]
      cases st with
      | some a => exact ih k (i + 1) (some a) acc (by omega) (by omega) (fun b h => by obtain rfl := Option.some.inj h; have := h3 a rfl; omega) (by omega)
      | none => exact ih k (i + 1) (some i) acc (by omega) (by omega) (fun b h => by obtain rfl := Option.some.inj h; omega) (by omega)
theorem fields_eq (c : ByteArray) : Go.Lib.goFieldsP spR c = (Go.Lib.closeSpans c (spansB c c.size 0 none [])).map (ext c) := by
  unfold Go.Lib.goFieldsP Go.Lib.spansOfP
  rw [spans_bytes c c.size c.size 0 none [] (by omega) (Nat.le_refl _)]
  rfl
theorem ref_fields (c : ByteArray) (hc : c.size ≤ 4294967296) (nm fid : ByteArray) (k : Nat) (hk : 2 * c.size + 3 ≤ k) : colophonref20_Facts.l0 k c 0 0 nm fid [] = some (nm, fid, Go.Lib.goFieldsP spR c) := by
  rw [fields_eq]
  exact ref_l0 c hc nm fid c.size k 0 none [] (by omega) (by omega) (fun a h => by cases h) (Nat.le_refl _)
/-! ### an attribute's value; both sides' facts -/
def fst (nm : List UInt8) : List S82 → ByteArray × Bool
  | [] => (⟨#[]⟩, false)
  | a :: r => if a.f0.toList = nm then (a.f1, true) else fst nm r
theorem attr_l0 (nm a0 a1 : ByteArray) (l : List S82) (l3 : List S52) (a4 : Int) (hn : l.length ≤ 4611686018427387904) : ∀ (d k j : Nat), j + d = l.length → d + 1 ≤ k → colophonref18_Attr.l0 k nm (j : Int) a0 a1 l l3 a4 = some (fst nm.toList (l.drop j)) := by
  intro d
  induction d with
  | zero =>
    intro k j h1 h2
    obtain ⟨k, rfl⟩ : ∃ q, k = q + 1 := ⟨k - 1, by omega⟩
    rw [colophonref18_Attr.l0, if_neg (by omega), List.drop_eq_nil_of_le (by omega)]
    rfl
  | succ d ih =>
    intro k j h1 h2
    obtain ⟨k, rfl⟩ : ∃ q, k = q + 1 := ⟨k - 1, by omega⟩
    have hj : j < l.length := by omega
    have e1 : wrap64 ((j : Int) + 1) = ((j + 1 : Nat) : Int) := by rw [w_in (by omega)]; omega
    rw [colophonref18_Attr.l0, if_pos (by omega), if_pos (by omega), style_Facts.drop82 hj, fst, e1]
    by_cases e : (rd_T82 l (j : Int)).f0.toList = nm.toList
    · rw [if_pos e, if_pos e]
    · rw [if_neg e, if_neg e]
      exact ih k (j + 1) (by omega) (by omega)
theorem go_fst : ∀ (l : List S82) (i c : Bool) (fid : ByteArray) (cl : List ByteArray), style_Facts.go l i c fid cl =
    (if i = true then fid else if (fst [105, 100] l).2 = true then (fst [105, 100] l).1 else fid, if c = true then cl else if (fst [99, 108, 97, 115, 115] l).2 = true then Go.Lib.goFieldsP spR (fst [99, 108, 97, 115, 115] l).1 else cl)
  | [], i, c, fid, cl => by
    cases i <;> cases c <;> rfl
  | a :: r, i, c, fid, cl => by
    rw [style_Facts.go, fst, fst]
    by_cases e1 : a.f0.toList = [105, 100]
    · have e2 : ¬ a.f0.toList = [99, 108, 97, 115, 115] := fun h => by rw [e1] at h; simp at h
      rw [if_pos e1, if_neg e2]
      cases i with
      | false =>
        rw [if_pos ⟨e1, rfl⟩, go_fst r true c a.f1 cl, if_pos rfl, if_neg (show ¬ (false = true) by decide), if_pos rfl]
      | true =>
        rw [if_neg (fun h => Bool.noConfusion h.2), if_neg (fun h => e2 h.1), go_fst r true c fid cl, if_pos rfl, if_pos rfl]
    · rw [if_neg (fun h => e1 h.1), if_neg e1]
      by_cases e2 : a.f0.toList = [99, 108, 97, 115, 115]
      · rw [if_pos e2]
        cases c with
        | false =>
          rw [if_pos ⟨e2, rfl⟩, go_fst r i true fid _, if_pos rfl, if_neg (show ¬ (false = true) by decide), if_pos rfl]
        | true =>
          rw [if_neg (fun h => Bool.noConfusion h.2), go_fst r i true fid cl, if_pos rfl, if_pos rfl]
      · rw [if_neg (fun h => e2 h.1), if_neg e2, go_fst r i c fid cl]
theorem fst_none (nm : List UInt8) : ∀ (l : List S82), (fst nm l).2 = false → (fst nm l).1 = ⟨#[]⟩
  | [], _ => rfl
  | a :: r, h => by
    rw [fst] at h ⊢
    by_cases e : a.f0.toList = nm
    · rw [if_pos e] at h
      exact Bool.noConfusion h
    · rw [if_neg e] at h ⊢
      exact fst_none nm r h
theorem fst_size (nm : List UInt8) (B : Nat) : ∀ (l : List S82), (∀ a ∈ l, a.f1.size ≤ B) → (fst nm l).1.size ≤ B
  | [], _ => Nat.zero_le _
  | a :: r, h => by
    rw [fst]
    by_cases e : a.f0.toList = nm
    · rw [if_pos e]
      exact h a (List.mem_cons_self ..)
    · rw [if_neg e]
      exact fst_size nm B r (fun x hx => h x (List.mem_cons_of_mem _ hx))
theorem facts_both (k : Nat) (a0 a1 : ByteArray) (l : List S82) (l3 l3' : List S52) (a4 a4' : Int) (hn : l.length ≤ 4611686018427387904) (hs : ∀ a ∈ l, a.f1.size ≤ 4294967296) (hk : l.length + 8589934592 + 4 ≤ k) :
    ∃ r : ByteArray × ByteArray × List ByteArray, style_Facts.f a0 a1 l l3 a4 = some r ∧ colophonref20_Facts.f k a0 a1 l l3' a4' = some r := by
  have z : Go.Lib.goFieldsP spR ⟨#[]⟩ = [] := rfl
  refine ⟨(a0, (fst [105, 100] l).1, Go.Lib.goFieldsP spR (fst [99, 108, 97, 115, 115] l).1), ?_, ?_⟩
  · unfold style_Facts.f
    rw [if_pos (List.all_eq_true.mpr (fun a ha => decide_eq_true (hs a ha))), go_fst, if_neg (show ¬ (false = true) by decide), if_neg (show ¬ (false = true) by decide)]
    congr 3
    · cases h : (fst [105, 100] l).2 with
      | true => rw [if_pos rfl]
      | false => rw [if_neg (show ¬ (false = true) by decide), fst_none _ _ h]
    · cases h : (fst [99, 108, 97, 115, 115] l).2 with
      | true => rw [if_pos rfl]
      | false => rw [if_neg (show ¬ (false = true) by decide), fst_none _ _ h, z]
  · unfold colophonref20_Facts.f colophonref18_Attr.f
    have q1 := attr_l0 ⟨#[105, 100]⟩ a0 a1 l l3' a4' hn l.length k 0 (by omega) (by omega)
    have q2 := attr_l0 ⟨#[99, 108, 97, 115, 115]⟩ a0 a1 l l3' a4' hn l.length k 0 (by omega) (by omega)
    rw [show ((0 : Nat) : Int) = 0 from rfl, List.drop_zero] at q1 q2
    have t1 : (⟨#[105, 100]⟩ : ByteArray).toList = [105, 100] := by decide +kernel
    have t2 : (⟨#[99, 108, 97, 115, 115]⟩ : ByteArray).toList = [99, 108, 97, 115, 115] := by decide +kernel
    rw [t1] at q1
    rw [t2] at q2
    rw [q1, Option.bind_some, q2, Option.bind_some]
    have hz := fst_size [99, 108, 97, 115, 115] 4294967296 l hs
    exact ref_fields _ hz a0 _ k (by omega)

/-! ### nodes: copies, and what is large -/
theorem bnd {Q : Nat → S52 → Prop} (hm : ∀ k k' y, k ≤ k' → Q k y → Q k' y) : ∀ l : List S52, (∀ y, y ∈ l → ∃ K, Q K y) → ∃ K, ∀ y, y ∈ l → Q K y
  | [], _ => ⟨0, fun y h => by cases h⟩
  | a :: r, h => by
    obtain ⟨K1, h1⟩ := h a (List.mem_cons_self ..)
    obtain ⟨K2, h2⟩ := bnd hm r (fun y hy => h y (List.mem_cons_of_mem _ hy))
    refine ⟨max K1 K2, fun y hy => ?_⟩
    rcases List.mem_cons.mp hy with rfl | hy
    · exact hm _ _ _ (Nat.le_max_left _ _) h1
    · exact hm _ _ _ (Nat.le_max_right _ _) (h2 y hy)
theorem mem52 {l : List S52} {j : Nat} (h : j < l.length) : rd_T52 l (j : Int) ∈ l := by
  show l.getD j z52 ∈ l
  rw [List.getD_eq_getElem?_getD, List.getElem?_eq_getElem h]
  exact List.getElem_mem h
theorem drop52 {l : List S52} {j : Nat} (h : j < l.length) : l.drop j = rd_T52 l (j : Int) :: l.drop (j + 1) := by
  rw [List.drop_eq_getElem_cons h]
  congr 1
  show _ = l.getD j z52
  simp [List.getD_eq_getElem?_getD, h]
theorem eta52 (y : S52) : (⟨y.f0, y.f1, y.f2, y.f3, y.f4⟩ : S52) = y := by cases y; rfl
theorem casN (j : Nat) (h : j ≤ 4611686018427387904) : wrap64 ((j : Int) + 1) = ((j + 1 : Nat) : Int) := by rw [w_in (by omega)]; omega
theorem copy_l0 (a0 a1 : ByteArray) (l2 : List S82) (a4 : Int) (l : List S52) (hn : l.length ≤ 1599289640400) (K : Nat) (hK : ∀ y, y ∈ l → ∀ k, K ≤ k → colophonref18_Copy.f k y.f0 y.f1 y.f2 y.f3 y.f4 = some (y.f0, y.f1, y.f2, y.f3, y.f4)) : ∀ (d k i : Nat) (out : List S52), i + d = l.length → out.length = i → K + d + 1 ≤ k →
    colophonref18_Copy.l0 k out (i : Int) a0 a1 l2 l a4 = some (a0, a1, l2, out ++ l.drop i, a4) := by
  intro d
  induction d with
  | zero =>
    intro k i out h1 h2 h3
    obtain ⟨k, rfl⟩ : ∃ q, k = q + 1 := ⟨k - 1, by omega⟩
    rw [colophonref18_Copy.l0, if_neg (by omega), List.drop_eq_nil_of_le (by omega), List.append_nil]
  | succ d ih =>
    intro k i out h1 h2 h3
    obtain ⟨k, rfl⟩ : ∃ q, k = q + 1 := ⟨k - 1, by omega⟩
    have hi : i < l.length := by omega
    rw [colophonref18_Copy.l0, if_pos (by omega), if_pos (by omega), hK _ (mem52 hi) k (by omega), Option.bind_some, if_pos (by omega), casN i (by omega), ih k (i + 1) _ (by omega) (by rw [List.length_append]; simp; omega) (by omega), drop52 hi, List.append_assoc]
    show some (a0, a1, l2, out ++ ((⟨(rd_T52 l (i : Int)).f0, (rd_T52 l (i : Int)).f1, (rd_T52 l (i : Int)).f2, (rd_T52 l (i : Int)).f3, (rd_T52 l (i : Int)).f4⟩ : S52) :: l.drop (i + 1)), a4) = _
    rw [eta52]
theorem copy_node (x : S52) (h : OKN x) : ∃ K, ∀ k, K ≤ k → colophonref18_Copy.f k x.f0 x.f1 x.f2 x.f3 x.f4 = some (x.f0, x.f1, x.f2, x.f3, x.f4) := by
  induction h with
  | mk x h0 h1 h2 h3 h5 h4 ih =>
    obtain ⟨K, hK⟩ := bnd (Q := fun K y => ∀ k, K ≤ k → colophonref18_Copy.f k y.f0 y.f1 y.f2 y.f3 y.f4 = some (y.f0, y.f1, y.f2, y.f3, y.f4)) (fun k k' y hk hq q hq2 => hq q (by omega)) x.f3 (fun y hy => ih y hy)
    refine ⟨K + x.f3.length + 2, fun k hk => ?_⟩
    obtain ⟨k, rfl⟩ : ∃ q, k = q + 1 := ⟨k - 1, by omega⟩
    have := copy_l0 x.f0 x.f1 x.f2 x.f4 x.f3 (by omega) K hK x.f3.length k 0 [] (by omega) rfl (by omega)
    rw [colophonref18_Copy.f, Option.bind_some, if_pos (by rw [List.length_nil]; have := h2.1; omega), List.nil_append]
    exact this
theorem large_l1 (x1 : Int) (a0 a1 : ByteArray) (l2 : List S82) (a4 : Int) (l : List S52) (hn : l.length ≤ 1599289640400) (K : Nat) (hK : ∀ y, y ∈ l → ∀ k, K ≤ k → ∀ p q, ∃ t, colophonlaw18_large.f k y.f0 y.f1 y.f2 y.f3 y.f4 p q = some t) : ∀ (d k i : Nat) (n : Int), i + d = l.length → K + d + 1 ≤ k →
    ∃ t, colophonlaw18_large.l1 k x1 n (i : Int) a0 a1 l2 l a4 = some t := by
  intro d
  induction d with
  | zero =>
    intro k i n h1 h2
    obtain ⟨k, rfl⟩ : ∃ q, k = q + 1 := ⟨k - 1, by omega⟩
    exact ⟨n, by rw [colophonlaw18_large.l1, if_neg (by omega)]⟩
  | succ d ih =>
    intro k i n h1 h2
    obtain ⟨k, rfl⟩ : ∃ q, k = q + 1 := ⟨k - 1, by omega⟩
    have hi : i < l.length := by omega
    rw [colophonlaw18_large.l1, if_pos (by omega)]
    by_cases c : n ≥ 0
    · obtain ⟨t, ht⟩ := hK _ (mem52 hi) k (by omega) (wrap64 (x1 + 1)) n
      rw [if_pos c, if_pos (by omega), ht, Option.bind_some, casN i (by omega)]
      exact ih k (i + 1) t (by omega) (by omega)
    · rw [if_neg c]
      exact ⟨n, rfl⟩
theorem large_l0 (x1 : Int) (a0 a1 : ByteArray) (l2 : List S82) (hl : l2.length ≤ 4398046511103) (a4 : Int) (l : List S52) (hn : l.length ≤ 1599289640400) (K : Nat) (hK : ∀ y, y ∈ l → ∀ k, K ≤ k → ∀ p q, ∃ t, colophonlaw18_large.f k y.f0 y.f1 y.f2 y.f3 y.f4 p q = some t) : ∀ (d k i : Nat) (n : Int), i + d = l2.length → K + l.length + d + 2 ≤ k →
    ∃ t, colophonlaw18_large.l0 k x1 n (i : Int) a0 a1 l2 l a4 = some t := by
  intro d
  induction d with
  | zero =>
    intro k i n h1 h2
    obtain ⟨k, rfl⟩ : ∃ q, k = q + 1 := ⟨k - 1, by omega⟩
    rw [colophonlaw18_large.l0, if_neg (by omega)]
    exact large_l1 x1 a0 a1 l2 a4 l hn K hK l.length k 0 n (by omega) (by omega)
  | succ d ih =>
    intro k i n h1 h2
    obtain ⟨k, rfl⟩ : ∃ q, k = q + 1 := ⟨k - 1, by omega⟩
    rw [colophonlaw18_large.l0, if_pos (by omega), if_pos (by omega), casN i (by omega)]
    exact ih k (i + 1) _ (by omega) (by omega)
theorem large_node (x : S52) (h : OKN x) : ∃ K, ∀ k, K ≤ k → ∀ p q, ∃ t, colophonlaw18_large.f k x.f0 x.f1 x.f2 x.f3 x.f4 p q = some t := by
  induction h with
  | mk x h0 h1 h2 h3 h5 h4 ih =>
    obtain ⟨K, hK⟩ := bnd (Q := fun K y => ∀ k, K ≤ k → ∀ p q, ∃ t, colophonlaw18_large.f k y.f0 y.f1 y.f2 y.f3 y.f4 p q = some t) (fun k k' y hk hq q hq2 => hq q (by omega)) x.f3 (fun y hy => ih y hy)
    refine ⟨K + x.f3.length + x.f2.length + 4, fun k hk p q => ?_⟩
    obtain ⟨k, rfl⟩ : ∃ z, k = z + 2 := ⟨k - 2, by omega⟩
    have l0 := fun n => large_l0 p x.f0 x.f1 x.f2 (by have := h2.1; omega) x.f4 x.f3 (by omega) K hK x.f2.length k 0 n (by omega) (by omega)
    have j : ∀ n b, ∃ t, colophonlaw18_large.j0 (k + 1) p n b x.f0 x.f1 x.f2 x.f3 x.f4 = some t := by
      intro n b
      rw [colophonlaw18_large.j0]
      cases b with
      | true => exact ⟨-1, by rw [if_pos rfl]⟩
      | false =>
        rw [if_neg (by decide)]
        exact l0 n
    rw [colophonlaw18_large.f]
    split
    · exact j _ _
    · exact j _ _

end Go.Proofs.Ytpembifnjlekdaa.PureStyleFacts
