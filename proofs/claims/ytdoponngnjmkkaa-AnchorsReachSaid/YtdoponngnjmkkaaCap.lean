/- An append to a slice that was cut with a capacity (x[:k:k]) out of a row of the call's own: it must grow, so the new row is a new block. Under the bounds that the theorem states. -/
import Derived.Test.YtdoponngnjmkkaaWWords
import Derived.Test.YtdoponngnjmkkaaWLast
import Derived.ArgAppend
namespace Go.Proofs.Ytdoponngnjmkkaa.Cap
open Go.RowKit Go.Proofs.YtdoponngnjmkkaaW.PrintWords
section
variable {P : Program} {ops : Array Oper} {rest : List Oper} {o : Oper} {a : Act} {Q : Exit → Act → World → Prop} {α : Type}
theorem own_up {w : World} {base base' : Nat} {e : TypeId} {size n : Nat} {v : Value} {xs : List Value} (h : w.ownsRow base' e size v n xs) (hb : base ≤ base') : w.ownsRow base e size v n xs := by
  refine ⟨h.1, ?_⟩
  rcases h.2 with h2 | ⟨g, cap, cur, h3, h4, r⟩
  · exact .inl h2
  · exact .inr ⟨g, cap, cur, h3, Nat.le_trans hb h4, r⟩
theorem R_append_cut (d : Kd α) {w0 W : World} (base : Nat) (hgd : o.guard = none) (s x : Operand) (t e : TypeId) (z : Value) (bytes : Nat)
    (ho : o.op = .call { callee := .builtin .append, args := #[s, x], argTypes := #[t, t] })
    (ht : P.underlying t = some (.slice e)) (hinfo : (P.info? e).map (fun i => (i.zero, i.size, i.bytes)) = some (some z, d.sz, bytes)) (hz : z.cells.size = d.sz) (hs0 : 0 < d.sz) (hb0 : 0 < bytes)
    (A : Option Addr) (c : Nat) (xs : List α) (p : α) (cs : List Value) (ok okp : Nat → Prop) (hs : a.eval s = .slice A xs.length xs.length) (hx : a.eval x = .slice (some ⟨W.heap.size, 0, none⟩) 1 1) (hp : d.M W base okp p cs) (hokp : ∀ k, okp k → ok k ∧ some k ≠ (Value.slice A xs.length c).ownBlock) (hfresh : ∀ k, W.heap.size ≤ k → ok k)
    (HO : d.R e W base ok (.slice A xs.length c) xs) (HB : Below base w0 W) (hbase : base ≤ W.heap.size) (hl : (xs.length + 1) * bytes ≤ 140737488355328)
    (h : ∀ v1 w1, d.R e w1 base ok v1 (xs ++ [p]) → Below base w0 w1 → W.grownBy w1 (Value.slice A xs.length c).ownBlock → (v1.ownBlock = (Value.slice A xs.length c).ownBlock ∨ ∃ b, v1.ownBlock = some b ∧ W.heap.size ≤ b) → wpList P ops Q rest (a.put o.dst v1) w1) :
    wpList P ops Q (o :: rest) a (W.alloc (.cells cs.toArray e)) := by
  obtain ⟨h0, inner, hown, hr⟩ := HO
  obtain ⟨i0, hi, hzz⟩ := Option.map_eq_some_iff.1 hinfo
  simp only [Prod.mk.injEq] at hzz
  obtain ⟨hz0, hz1, hz2⟩ := hzz
  have hlen : xs.length + 1 ≤ 140737488355328 := Nat.le_trans (Nat.le_mul_of_pos_right _ hb0) hl
  have hcs := d.K_len (d.K_of_M hp)
  have h1 := d.K_one (d.K_of_M hp)
  have hold := hown.1
  have hnone : A = none → xs.length = 0 ∧ xs.length = 0 := by
    intro hA
    subst hA
    rcases hown.2 with ⟨_, h2⟩ | ⟨g, cap, cur, h2, _⟩
    · exact ⟨h2, h2⟩
    · cases h2
  have hcells : ∀ b, A = some b → ∀ j u, inner[j]? = some u → (W.alloc (.cells cs.toArray e)).cell? (b.add j) = some u := by
    intro b hA j u hu
    subst hA
    rcases hown.2 with ⟨h2, _⟩ | ⟨g, cap, cur, h2, _⟩
    · cases h2
    · injection h2 with h2 _ _
      injection h2 with h2
      subst h2
      exact (hown.alloc (.cells cs.toArray e)).cells (g := g) rfl j u hu
  refine wpList_append_grows (W.alloc (.cells cs.toArray e)) hgd s x t ho e i0 z d.sz bytes ht hi hz0 hz1 hz2 hz hs0 A xs.length xs.length inner hs hnone hold hcells ⟨W.heap.size, 0, none⟩ 1 1 cs hx (by rw [hcs]; simp)
    (by simpa using World.news_of_block (cs := cs.toArray) (t := e) (fr := (0, 0)) (heap_alloc_new W (.cells cs.toArray e))) h1 (by omega) (by simp only [maxLen]; omega) hl ?_
  intro v1 w1 hown1 hg
  have hsz : (W.alloc (.cells cs.toArray e)).heap.size = W.heap.size + 1 := by simp
  rw [hsz] at hown1
  have hat : ∃ b, v1.ownBlock = some b ∧ W.heap.size ≤ b := by
    obtain ⟨g, cap, h3, h4, _⟩ := hown1.form (by omega)
    exact ⟨g, by rw [h3]; rfl, by omega⟩
  have hgW : W.grownBy w1 none := World.grownBy.trans (World.grownBy_alloc W _ _) hg
  have hgv : W.grownBy w1 (Value.slice A xs.length c).ownBlock := ⟨hgW.os, hgW.tape, hgW.output, hgW.size, fun k hk _ => hgW.block k hk (by simp)⟩
  refine h v1 w1 (Kd.R_appended h0 hr hp hokp hfresh (own_up hown1 (by omega)) hgv (.inr hat)) ((HB.alloc hbase _).grown hg (by simp; omega) (by intro k hk; cases hk)) hgv (.inr hat)
end
theorem cut_to3 {P : Program} (t e : TypeId) (kh km : IntKind) {i : TypeInfo} (ht : P.underlying t = some (.slice e)) (hi : P.info? e = some i) (A : Option Addr) (n c : Nat) (j : Int) (h0 : 0 ≤ j) (hm : j ≤ n) (hc : n ≤ c) :
    ∀ W : World, (Instr.slice t (.slice A n c) none (some (.int kh j)) (some (.int km j))).run P W = .ok (.slice A j.toNat j.toNat) W := by
  intro W
  have hel : P.elem t = e := by simp [Program.elem, ht]
  have hu : P.underlying t = some (.slice (P.elem t)) := by rw [hel]; exact ht
  have ha : (A.map fun x => x.add 0) = A := by cases A <;> simp [Addr.add]
  rw [run_slice_hm W t A n c hu kh km j j h0 (Int.le_refl j) (by omega), hel]
  simp [sizeOf, typeInfo, hi, sliced, Result.andThen, ha]
end Go.Proofs.Ytdoponngnjmkkaa.Cap
