/- Whatever argument can be read as data, within the reach, is a row of the print's kinds: integers, bools, strings, slices, records and arrays of these. No condition beyond what each theorem states. -/
import Derived.Test.YtenhfmlkdcfbbaaDoorWAll
import Derived.ChangeArms
import Derived.OpenShut
import Derived.Carry
import Derived.SizedLaws
import Derived.DataElems
import Derived.ProofKit
namespace Go.Proofs.YtenhfmlkdcfbbaaDoor.Rd
open Go.RowKit Go.ChangeShapes Go.WideShapes Go.Proofs.YtenhfmlkdcfbbaaDoorW.PrintWords
def Reads {α : Type} (P : Program) (m : Nat) (d : Kd α) (t : TypeId) (ok : α → Prop) : Prop :=
 ∀ (H : Type) (enc : TypeId × Value → H) (w : World) (fuel : Nat) (cs : List Value) (y : DataW H × List MemPlace),
  fuel ≤ m → DataW.trod enc P w 0 (fun _ => true) true fuel t cs = some y → (DataW.weights P t y.1).all (· ≤ reachBytes) = true → ∃ x, d.K w x cs ∧ ok x
section
variable {α β : Type} {P : Program} {m : Nat} {t e : TypeId}
theorem reads_int {k : IntKind} (ht : P.underlying t = some (.int k)) : Reads P m (Kd.int k) t (fun n => (Lit.int k n).wf = true) := by
 intro H enc w fuel cs y _ h _
 obtain ⟨n, rfl, _, hw⟩ := DataW.trod_int ht h
 exact ⟨n, rfl, hw⟩
theorem reads_string (ht : P.underlying t = some .string) : Reads P m Kd.string t (fun s => s.size ≤ 140737488351232) := by
 intro H enc w fuel cs y _ h hw
 obtain ⟨s, rfl, rfl, _⟩ := DataW.trod_string ht h
 refine ⟨s, rfl, ?_⟩
 have h0 : s.data.toList.length ≤ reachBytes := by simpa [DataW.weights] using hw
 rw [Array.length_toList] at h0
 exact h0
theorem Reads.mono {d : Kd α} {ok ok' : α → Prop} (h : Reads P m d t ok) (hk : ∀ x, ok x → ok' x) : Reads P m d t ok' := by
 intro H enc w fuel cs y hf hy hw
 obtain ⟨x, h1, h2⟩ := h H enc w fuel cs y hf hy hw
 exact ⟨x, h1, hk _ h2⟩
theorem cells_mapM {w : World} {a : Addr} : ∀ (l : List Nat) (cs : List Value), l.mapM (fun i => w.cell? (a.add i)) = some cs → cs.length = l.length ∧ ∀ (j i : Nat), l[j]? = some i → w.cell? (a.add i) = cs[j]?
 | [], cs, h => by
  simp at h
  subst h
  exact ⟨rfl, fun j i hj => by simp at hj⟩
 | x :: l, cs, h => by
  simp only [List.mapM_cons, Option.bind_eq_bind, Option.bind_eq_some_iff, Option.pure_def] at h
  obtain ⟨u, hu, us, hus, hcs⟩ := h
  obtain ⟨h1, h2⟩ := cells_mapM l us hus
  have hcs : cs = u :: us := by injection hcs with hcs; exact hcs.symm
  subst hcs
  refine ⟨by simp [h1], fun j i hj => ?_⟩
  cases j with
  | zero => simp at hj; subst hj; simpa using hu
  | succ j => simp at hj; simpa using h2 j i hj
theorem cells_at {w : World} {a : Addr} {n : Nat} {cs : List Value} (h : w.cells? 0 a n = some cs) : cs.length = n ∧ ∀ i u, cs[i]? = some u → w.cell? (a.add i) = some u := by
 unfold World.cells? at h
 rw [if_pos (Nat.zero_le _)] at h
 obtain ⟨h1, h2⟩ := cells_mapM _ _ h
 refine ⟨by simpa using h1, fun i u hu => ?_⟩
 have hi : i < n := by
  have := (List.getElem?_eq_some_iff.1 hu).1
  simp at h1
  omega
 rw [h2 i i (by rw [List.getElem?_range hi]), hu]
theorem weightsAll_mem {H : Type} {P : Program} {e : TypeId} {l : List (DataW H)} (h : (DataW.weightsAll P e l).all (· ≤ reachBytes) = true) {x : DataW H} (hx : x ∈ l) : (DataW.weights P e x).all (· ≤ reachBytes) = true := by
 induction l with
 | nil => simp at hx
 | cons z r ih =>
  rw [DataW.weightsAll, List.all_append, Bool.and_eq_true] at h
  rcases List.mem_cons.1 hx with rfl | hx
  ·exact h.1
  ·exact ih h.2 hx
theorem pick {α : Type} {Q : Nat → α → Prop} : ∀ (n : Nat), (∀ i, i < n → ∃ x, Q i x) → ∃ l : List α, l.length = n ∧ ∀ i x, l[i]? = some x → Q i x
 | 0, _ => ⟨[], rfl, fun i x h => by simp at h⟩
 | n + 1, h => by
  obtain ⟨l, hl, hq⟩ := pick n (fun i hi => h i (by omega))
  obtain ⟨x, hx⟩ := h n (by omega)
  refine ⟨l ++ [x], by simp [hl], fun i y hy => ?_⟩
  by_cases hi : i < l.length
  ·rw [List.getElem?_append_left hi] at hy
   exact hq i y hy
  ·have hi2 := (List.getElem?_eq_some_iff.1 hy).1
   simp at hi2
   obtain rfl : i = n := by omega
   rw [List.getElem?_append_right (by omega)] at hy
   simp [hl] at hy
   subst hy
   exact hx
theorem reads_slice {d : Kd α} {ok : α → Prop} {B : Nat} (ht : P.underlying t = some (.slice e)) (hc : P.cellsOf e = d.sz) (hB : P.bytesOf e = B) (h : Reads P (m - 1) d e ok) :
  Reads P m (Kd.slice e d) t (fun xs => xs.length * B ≤ 140737488351232 ∧ ∀ x ∈ xs, ok x) := by
 intro H enc w fuel cs y hf hy hw
 rcases DataW.trod_slice ht hy with ⟨rfl, rfl⟩ | ⟨a, len, cap, elems, rest, n, rfl, rfl, rfl, _, hlc, hcap, hel, hcell, _⟩
 ·exact ⟨[], ⟨none, 0, rfl, Nat.le_refl _, rfl, by simp, fun h0 => absurd h0 (by simp)⟩, by simp, by simp⟩
 ·simp only [DataW.weights, ht, List.all_cons, List.all_append, Bool.and_eq_true] at hw
  obtain ⟨hw0, hw1, _⟩ := hw
  have hn : n ≤ m - 1 := by omega
  have each : ∀ i, i < len → ∃ x, ok x ∧ ∃ c, c.length = d.sz ∧ d.K w x c ∧ ∀ j u, c[j]? = some u → w.cell? (a.add (i * d.sz + j)) = some u := by
   intro i hi
   have h1 := hcell i hi
   rw [List.getElem?_eq_getElem (by omega)] at h1
   obtain ⟨c, hcs, hrd⟩ := Option.bind_eq_some_iff.1 h1
   obtain ⟨hcl, hcc⟩ := cells_at hcs
   obtain ⟨x, hx, hok⟩ := h H enc w n c _ hn hrd (weightsAll_mem hw1 (List.mem_map.2 ⟨_, List.getElem_mem (by omega), rfl⟩))
   refine ⟨x, hok, c, by rw [hcl, hc], hx, fun j u hu => ?_⟩
   have h2 := hcc j u hu
   rw [Addr.add_add, hc] at h2
   exact h2
  obtain ⟨l, hl, hq⟩ := pick len each
  refine ⟨l, ⟨some a, cap, by rw [hl], by omega, rfl, ?_, fun _ => ⟨a, rfl, fun j p hj => ?_⟩⟩, ?_, fun x hx => ?_⟩
  ·unfold maxLen at hcap
   omega
  ·obtain ⟨_, c, h1, h2, h3⟩ := hq j p hj
   exact ⟨c, h1, h2, h3⟩
  ·have h0 : ((elems.map (·.1)).length + (rest.map (·.1)).length) * P.bytesOf e ≤ reachBytes := by simpa using hw0
   simp only [List.length_map, hel, hB] at h0
   rw [hl]
   have h3 : len * B ≤ (len + rest.length) * B := Nat.mul_le_mul_right _ (by omega)
   unfold reachBytes at h0
   omega
  ·obtain ⟨i, hi⟩ := List.getElem?_of_mem hx
   exact (hq i x hi).1
def ReadsFs {α : Type} (P : Program) (m : Nat) (off : Nat) (d : Kd α) (fs : List Field) (ok : α → Prop) : Prop :=
 ∀ (H : Type) (enc : TypeId × Value → H) (w : World) (n : Nat) (cs : List Value) (xs : List (DataW H × List MemPlace)),
  n ≤ m → cs.length = off + d.sz → xs.length = fs.length → (∀ (i : Nat) (f : Field), fs[i]? = some f → DataW.trod enc P w 0 (fun _ => true) true n f.type ((cs.drop f.offset).take (P.cellsOf f.type)) = xs[i]?) →
  (DataW.weightsEach P (fs.map (·.type)) (xs.map (·.1))).all (· ≤ reachBytes) = true → ∃ x, d.K w x (cs.drop off) ∧ ok x
theorem fs_one {d : Kd α} {ok : α → Prop} {off : Nat} {f : Field} (ho : f.offset = off) (hc : P.cellsOf f.type = d.sz) (h : Reads P m d f.type ok) : ReadsFs P m off d [f] ok := by
 intro H enc w n cs xs hn hl hx hr hw
 have h0 := hr 0 f rfl
 rw [ho, hc] at h0
 match xs, hx with
 | [y], _ =>
  have h1 : (cs.drop off).take d.sz = cs.drop off := List.take_of_length_le (by simp; omega)
  rw [h1] at h0
  refine h H enc w n _ y hn h0 ?_
  simpa [DataW.weightsEach] using hw
theorem fs_cons {a : Kd α} {b : Kd β} {oka : α → Prop} {okb : β → Prop} {off off' : Nat} {f : Field} {fs : List Field} (ho : f.offset = off) (hc : P.cellsOf f.type = a.sz) (he : off' = off + a.sz) (h : Reads P m a f.type oka) (hs : ReadsFs P m off' b fs okb) :
  ReadsFs P m off (Kd.pair a b) (f :: fs) (fun x => oka x.1 ∧ okb x.2) := by
 intro H enc w n cs xs hn hl hx hr hw
 subst he
 have hl' : cs.length = off + (a.sz + b.sz) := hl
 match xs, hx with
 | y :: ys, hx =>
  have h0 := hr 0 f rfl
  rw [ho, hc] at h0
  simp only [List.map_cons, DataW.weightsEach, List.all_append, Bool.and_eq_true] at hw
  obtain ⟨x1, hx1, ok1⟩ := h H enc w n _ y hn h0 hw.1
  obtain ⟨x2, hx2, ok2⟩ := hs H enc w n cs ys hn (by omega) (by simpa using hx) (fun i g hg => by simpa using hr (i + 1) g (by simpa using hg)) hw.2
  refine ⟨(x1, x2), ⟨_, _, ?_, hx1, hx2⟩, ok1, ok2⟩
  have e1 : cs.drop (off + a.sz) = (cs.drop off).drop a.sz := by rw [List.drop_drop]
  rw [e1, List.take_append_drop]
theorem reads_struct {d : Kd α} {ok : α → Prop} {fs : List Field} (ht : P.underlying t = some (.struct fs.toArray)) (hc : P.cellsOf t = d.sz) (h : ReadsFs P (m - 1) 0 d fs ok) : Reads P m d t ok := by
 intro H enc w fuel cs y hf hy hw
 obtain ⟨xs, n, rfl, rfl, hl, hx, hr⟩ := DataW.trod_struct ht hy
 obtain ⟨x, h1, h2⟩ := h H enc w n cs xs (by omega) (by omega) (by simpa using hx) (fun i f hi => hr i f (by simpa using hi)) (by simpa [DataW.weights, ht] using hw)
 exact ⟨x, by simpa using h1, h2⟩
def ReadsAr {α : Type} (P : Program) (m : Nat) (e : TypeId) (n : Nat) (i : Nat) (d : Kd α) (ok : α → Prop) : Prop :=
 ∀ (H : Type) (enc : TypeId × Value → H) (w : World) (k : Nat) (cs : List Value) (xs : List (DataW H × List MemPlace)),
  k ≤ m → cs.length = i * P.cellsOf e + d.sz → xs.length = n → (∀ (j : Nat), j < n → DataW.trod enc P w 0 (fun _ => true) true k e ((cs.drop (j * P.cellsOf e)).take (P.cellsOf e)) = xs[j]?) →
  (DataW.weightsAll P e (xs.map (·.1))).all (· ≤ reachBytes) = true → ∃ x, d.K w x (cs.drop (i * P.cellsOf e)) ∧ ok x
end
theorem arg {α : Type} {P : Program} {H : Type} {enc : TypeId × Value → H} {W : World} {t : TypeId} {v : Value} {d : DataW H} {p : List MemPlace} {k : Kd α} {ok : α → Prop} (hr : ∀ m, Reads P m k t ok)
  (h : DataW.Trod enc P W 0 (fun _ => true) true t v d p) (hw : (DataW.weights P t d).all (· ≤ reachBytes) = true) : ∃ x, k.K W x v.cells.toList ∧ ok x := by
 obtain ⟨fuel, hf⟩ := h
 exact hr fuel H enc W fuel _ _ (Nat.le_refl _) hf hw
theorem weights_cons {H : Type} {P : Program} {t : TypeId} {ts : List TypeId} {d : DataW H} {ds : List (DataW H)} (h : (DataW.weightsEach P (t :: ts) (d :: ds)).all (· ≤ reachBytes) = true) :
  (DataW.weights P t d).all (· ≤ reachBytes) = true ∧ (DataW.weightsEach P ts ds).all (· ≤ reachBytes) = true := by
 rw [DataW.weightsEach, List.all_append, Bool.and_eq_true] at h
 exact h
theorem form_agg {P : Program} {w : World} {r : Reach} {base : Nat} {t : TypeId} {v : Value} (ht : (∃ fs, P.underlying t = some (.struct fs)) ∨ ∃ n e, P.underlying t = some (.array n e)) (h : Value.okWide P w r base t v) : ∃ cs : List Value, v = .agg cs.toArray ∧ v.cells.toList = cs := by
 rcases ht with ⟨fs, ht⟩ | ⟨n, e, ht⟩ <;> (simp only [Value.okWide, ht] at h; obtain ⟨cs, rfl, _⟩ := h; exact ⟨cs.toList, by simp, by simp [Value.cells]⟩)
end Go.Proofs.YtenhfmlkdcfbbaaDoor.Rd
