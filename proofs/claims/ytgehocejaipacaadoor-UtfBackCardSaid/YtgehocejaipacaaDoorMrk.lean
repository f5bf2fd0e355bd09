/- A row of bytes of the call's own that may bear the mark of a constant's conversion: what it is over each step, and an append to it. Under the bounds that the theorems state. -/
import Derived.Test.YtgehocejaipacaaDoorWWords
import Derived.Test.YtgehocejaipacaaDoorWLast
import Derived.ArgAppend
import Derived.Lib.SlBytesConst
namespace Go.Proofs.YtgehocejaipacaaDoorW.PrintWords.Kd
open Go.RowKit
/-- A row of one's own, or one that bears the mark: then its capacity is its length. -/
def B (e : Nat) (w : World) (base : Nat) (ok : Nat → Prop) (v : Value) (xs : List Int) : Prop :=
  (Kd.int .u8).R e w base ok v xs ∨ ∃ b, v = .slice (some ⟨b, 0, none⟩) xs.length xs.length ∧ base ≤ b ∧ ok b ∧ ∃ z, w.heap[b]? = some (.cells (nums .u8 xs).toArray e z)
section
variable {e : Nat} {w w1 W : World} {base : Nat} {ok ok' : Nat → Prop} {v u : Value} {xs : List Int}
theorem B_of (h : (Kd.int .u8).R e w base ok v xs) : B e w base ok v xs := .inl h
theorem B_below (h : B e w base ok v xs) (hb : Below w.heap.size w w1) : B e w1 base ok v xs := by
  rcases h with h | ⟨b, h1, h2, h3, z, h4⟩
  · exact .inl (R_below h hb)
  · exact .inr ⟨b, h1, h2, h3, z, blk_below h4 hb⟩
theorem B_alloc (h : B e w base ok v xs) (o : Obj) : B e (w.alloc o) base ok v xs := B_below h (below_alloc (Below.refl _ _) o)
theorem B_drew (h : B e w base ok v xs) : B e w.drew base ok v xs := B_below h (below_drew (Below.refl _ _))
theorem B_drewN (h : B e w base ok v xs) (m : Nat) : B e (w.drewN m) base ok v xs := B_below h (pw_below_drewN (Below.refl _ _) m)
theorem B_mono (h : B e w base ok v xs) (hok : ∀ k, ok k → ok' k) : B e w base ok' v xs := by
  rcases h with h | ⟨b, h1, h2, h3, z, h4⟩
  · exact .inl (R_mono h hok)
  · exact .inr ⟨b, h1, h2, hok b h3, z, h4⟩
theorem B_lt (h : B e w base ok v xs) : ∀ k, v.ownBlock = some k → k < w.heap.size := by
  rcases h with h | ⟨b, rfl, h2, h3, z, h4⟩
  · exact R_lt h
  · intro k hk
    have : b = k := by simpa [Value.ownBlock] using hk
    subst this
    exact blk_lt h4
theorem B_elder' (h : B e W base ok u xs) (hbase : ∀ k, v.ownBlock = some k → W.heap.size ≤ k) (hb : Below W.heap.size W w1) : B e w1 base (fun k => ok k ∧ some k ≠ v.ownBlock) u xs := by
  rcases h with h | ⟨b, h1, h2, h3, z, h4⟩
  · exact .inl (R_elder' h hbase hb)
  · exact .inr ⟨b, h1, h2, ⟨h3, fun q => by have := hbase b q.symm; have := blk_lt h4; omega⟩, z, blk_below h4 hb⟩
theorem B_marked (w : World) (base : Nat) (hb : base ≤ w.heap.size) (xs : List Int) (e : Nat) (z : Nat × Nat) : B e (w.alloc (.cells (nums .u8 xs).toArray e z)) base (fun _ => True) (.slice (some ⟨w.heap.size, 0, none⟩) xs.length xs.length) xs :=
  .inr ⟨w.heap.size, rfl, hb, trivial, z, heap_alloc_new _ _⟩
theorem B_string {P : Program} {src dst e0 : TypeId} (hs : P.underlying src = some (.slice e0)) (he : P.underlying e0 = some (.int .u8)) (hd : P.underlying dst = some .string) (h : B e w base ok v xs) :
    (convert src dst v).run P w = .ok (.string (strOfNums xs)) w := by
  rcases h with h | ⟨b, rfl, h2, h3, z, h4⟩
  · exact own_string hs he hd (Kd.own_of_R h)
  · refine run_convert_bytes_arg w src e0 hs he b 0 _ _ xs rfl (fun i hi => ?_) dst hd
    rw [Nat.zero_add, cell_of_row w b i _ e z h4]
    simp [nums, List.getElem?_eq_getElem hi, List.getD_eq_getElem?_getD]
end
section
variable {P : Program} {ops : Array Oper} {rest : List Oper} {o : Oper} {a : Act} {Q : Exit → Act → World → Prop}
/-- append(b, ..) of at least one byte. -/
theorem B_append_rows {w0 W : World} (base : Nat) (hgd : o.guard = none) (s x : Operand) (t e : TypeId) (z : Value) (bytes : Nat)
    (ho : o.op = .call { callee := .builtin .append, args := #[s, x], argTypes := #[t, t] })
    (ht : P.underlying t = some (.slice e)) (hinfo : (P.info? e).map (fun i => (i.zero, i.size, i.bytes)) = some (some z, 1, bytes)) (hz : z.cells.size = 1) (hb0 : 0 < bytes)
    (v : Value) (xs ys : List Int) (A : Option Addr) (m c : Nat) (ok okp : Nat → Prop) (hm0 : 0 < ys.length) (hs : a.eval s = v) (hx : a.eval x = .slice A m c)
    (HO : B e W base ok v xs) (HR : (Kd.int .u8).C W A m ys) (hokp : ∀ k, okp k → ok k ∧ some k ≠ v.ownBlock) (hfresh : ∀ k, W.heap.size ≤ k → ok k)
    (HB : Below base w0 W) (hbase : base ≤ W.heap.size) (hl : (xs.length + m) * bytes ≤ 140737488355328)
    (h : ∀ v1 w1, (Kd.int .u8).R e w1 base ok v1 (xs ++ ys) → Below base w0 w1 → W.grownBy w1 v.ownBlock → (v1.ownBlock = v.ownBlock ∨ ∃ b, v1.ownBlock = some b ∧ W.heap.size ≤ b) → wpList P ops Q rest (a.put o.dst v1) w1) :
    wpList P ops Q (o :: rest) a W := by
  rcases HO with HO | ⟨b, rfl, h2, h3, fr, h4⟩
  · exact R_append_rows (Kd.int .u8) base hgd s x t e z bytes ho ht hinfo hz (show 0 < (Kd.int .u8).sz from Nat.one_pos) hb0 v xs ys A m c ok okp hs hx HO HR (fun _ _ hk => hk) hokp hfresh HB hbase hl h
  · obtain ⟨i0, hi, hzz⟩ := Option.map_eq_some_iff.1 hinfo
    simp only [Prod.mk.injEq] at hzz
    obtain ⟨hz0, hz1, hz2⟩ := hzz
    have hR := reads_of_C (enc := Value.int .u8) (d := (0 : Int)) (h1 := fun _ => rfl) HR
    have hm : ys.length = m := hR.1
    have hlen : xs.length + m ≤ 140737488355328 := Nat.le_trans (Nat.le_mul_of_pos_right _ hb0) hl
    obtain ⟨ad, rfl, hc⟩ := hR.2.2 (by omega)
    refine wpList_append_grows W hgd s x t ho e i0 z 1 bytes ht hi hz0 hz1 hz2 hz Nat.one_pos (some ⟨b, 0, none⟩) xs.length xs.length (nums .u8 xs) hs (fun q => by cases q) (by rw [nums_length, Nat.mul_one]) (fun b' hb' j u hu => ?_) ad m c (nums .u8 ys) hx (by rw [nums_length, Nat.mul_one, hm]) (fun j u hu => ?_) (fun u hu => ?_) (by omega) (by simp only [maxLen]; omega) hl ?_
    · injection hb' with hb'
      subst hb'
      have ha : (⟨b, 0, none⟩ : Addr).add j = ⟨b, j, none⟩ := by unfold Addr.add; split <;> simp_all
      rw [ha, cell_of_row W b j _ e fr h4]
      simpa using hu
    · have hj : j < ys.length := by
        have := (List.getElem?_eq_some_iff.1 hu).1
        rwa [nums_length] at this
      have h5 := hc j (by omega)
      rw [h5]
      rw [← hu]
      simp [nums, List.getElem?_eq_getElem hj, List.getD_eq_getElem?_getD]
    · obtain ⟨y, _, rfl⟩ := List.mem_map.1 hu
      rfl
    · intro v1 w1 hown hg
      have hat : ∃ g, v1.ownBlock = some g ∧ W.heap.size ≤ g := by
        obtain ⟨g, cap, h5, h6, _⟩ := hown.form (by omega)
        exact ⟨g, by rw [h5]; rfl, h6⟩
      have hgv : W.grownBy w1 (Value.slice (some ⟨b, 0, none⟩) xs.length xs.length).ownBlock := ⟨hg.os, hg.tape, hg.output, hg.size, fun k hk _ => hg.block k hk (by simp)⟩
      refine h v1 w1 ?_ (HB.grown hg hbase (by intro k hk; cases hk)) hgv (.inr hat)
      refine Kd.R_of_own (h1 := fun _ => rfl) ?_ (fun k hk => hfresh k (by obtain ⟨g, h5, h6⟩ := hat; rw [h5] at hk; injection hk with hk; omega))
      rw [← nums_append] at hown
      have hx2 : (xs ++ ys).length = xs.length + m := by rw [List.length_append, hm]
      rw [hx2]
      exact own_weaken hown hbase
end
end Go.Proofs.YtgehocejaipacaaDoorW.PrintWords.Kd
