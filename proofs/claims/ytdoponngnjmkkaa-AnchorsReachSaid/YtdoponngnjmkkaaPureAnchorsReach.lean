/- The plain law of AnchorsReach: each heading is reached once, in order, and the counts of the roots add up, for all lists. -/
import Derived.Test.YtdoponngnjmkkaaPAnchorsReachx5
namespace Go.Proofs.Ytdoponngnjmkkaa.PureAnchorsReach
open Go.RowKit Go.Proofs.Ytdoponngnjmkkaa.PAnchorsReach Go.Proofs.YtdoponngnjmkkaaW.PrintWords Go.Proofs.YtdoponngnjmkkaaW.PrintLast Go.Proofs.YtdoponngnjmkkaaW.PrintMore
theorem w_in {e : Int} (h : -9223372036854775808 ≤ e ∧ e ≤ 9223372036854775807) : wrap64 e = e := by unfold wrap64; omega
theorem wakes_f : colophonlaw29_wakes.f 40 = some true := by decide +kernel
theorem wakes_k (k : Nat) (hk : 40 ≤ k) : colophonlaw29_wakes.f k = some true := at_rounds (g := fun k => colophonlaw29_wakes.f k) colophonlaw29_wakes.mono hk wakes_f

theorem ints_f (l : List Int) (hl : l.length < 17592186044416) : colophonkeep_Ints.f l 60 = some (l.take 60) := by
  unfold colophonkeep_Ints.f
  have e : ((60 : Int)).toNat = 60 := rfl
  by_cases h : (l.length : Int) > 60
  · rw [if_pos h, if_pos (by omega), if_pos (by omega), Option.bind_some, e, List.nil_append]
    rw [if_pos (by rw [List.length_nil, List.length_take]; omega)]
  · rw [if_neg h, Option.bind_some, List.nil_append, if_pos (by rw [List.length_nil]; omega), List.take_of_length_le (by omega)]
theorem same_l0 (x : List Int) (hx : x.length ≤ 60) : ∀ (d k : Nat) (n : Int), 0 ≤ n → n + d = (x.length : Int) → d + 1 ≤ k → colophonkeep_Same.l0 k x x n = some true := by
  intro d
  induction d with
  | zero =>
    intro k n h0 hd hk
    obtain ⟨k, rfl⟩ : ∃ m, k = m + 1 := ⟨k - 1, by omega⟩
    rw [colophonkeep_Same.l0, if_neg (by omega)]
  | succ d ih =>
    intro k n h0 hd hk
    obtain ⟨k, rfl⟩ : ∃ m, k = m + 1 := ⟨k - 1, by omega⟩
    have hn1 : wrap64 (n + 1) = n + 1 := w_in (by omega)
    rw [colophonkeep_Same.l0, if_pos (show n < (x.length : Int) by omega), if_pos h0, if_pos (show n < (x.length : Int) by omega), if_pos rfl, hn1]
    exact ih k (n + 1) (by omega) (by omega) (by omega)
theorem same_f (K : Nat) (x : List Int) (hx : x.length ≤ 60) (hK : 100 ≤ K) : colophonkeep_Same.f K x x = some true := by
  unfold colophonkeep_Same.f
  rw [if_pos rfl]
  exact same_l0 x hx x.length K 0 (by omega) (by omega) (by omega)

/-- The last place below n whose level is less than v, or -1. -/
def up (l : List Int) (v : Int) : Nat → Int
  | 0 => -1
  | n + 1 => if rd l (n : Int) < v then (n : Int) else up l v n
def par (l : List Int) (i : Nat) : Int := up l (rd l (i : Int)) i
def mk {α : Type} (f : Nat → α) (n : Nat) : List α := (List.range n).map f
theorem mk_len {α : Type} (f : Nat → α) (n : Nat) : (mk f n).length = n := by simp [mk]
theorem mk_snoc {α : Type} (f : Nat → α) (n : Nat) : mk f n ++ [f n] = mk f (n + 1) := by simp [mk, List.range_succ]
theorem mk_congr {α : Type} {f g : Nat → α} {n : Nat} (h : ∀ i, i < n → f i = g i) : mk f n = mk g n := by
  unfold mk
  exact List.map_congr_left (fun i hi => h i (List.mem_range.1 hi))
theorem mk_get {α : Type} (f : Nat → α) (n : Nat) (z : α) {i : Nat} (h : i < n) : (mk f n).getD i z = f i := by simp [mk, List.getD, h]
theorem mk_set {α : Type} (f : Nat → α) (n : Nat) (a : α) (j : Nat) : (mk f n).set j a = mk (fun i => if i = j then a else f i) n := by
  apply List.ext_getElem
  · simp [mk]
  · intro i h1 h2
    simp only [mk, List.getElem_set, List.getElem_map, List.getElem_range]
    by_cases e : j = i
    · rw [if_pos e, if_pos e.symm]
    · rw [if_neg e, if_neg (fun h => e h.symm)]
theorem rd_mk (f : Nat → Int) (n : Nat) {i : Nat} (h : i < n) : rd (mk f n) (i : Int) = f i := by
  unfold rd
  rw [Int.toNat_natCast]
  exact mk_get f n 0 h
theorem up_range (l : List Int) (v : Int) : ∀ n : Nat, -1 ≤ up l v n ∧ up l v n < n
  | 0 => by rw [up]; omega
  | n + 1 => by
    have := up_range l v n
    rw [up]
    split <;> omega
theorem up_low (l : List Int) (v : Int) : ∀ n : Nat, 0 ≤ up l v n → rd l (up l v n) < v
  | 0 => by rw [up]; omega
  | n + 1 => by
    have := up_low l v n
    rw [up]
    split
    · intro _; assumption
    · exact this
theorem up_high (l : List Int) (v : Int) : ∀ (n m : Nat), up l v n < m → m < n → v ≤ rd l (m : Int)
  | 0, m => by omega
  | n + 1, m => by
    have := up_high l v n m
    rw [up]
    split
    · omega
    · intro h1 h2
      by_cases e : m = n
      · subst e; omega
      · exact this h1 (by omega)
theorem par_range (l : List Int) (i : Nat) : -1 ≤ par l i ∧ par l i < i := up_range l _ i
/-- The stack's topmost entry of a level less than v, among the first c. -/
def scan (l st : List Int) (v : Int) : Nat → Int
  | 0 => -1
  | c + 1 => if rd l (rd st (c : Int)) < v then rd st (c : Int) else scan l st v c
theorem scan_congr (l : List Int) {st st' : List Int} (v : Int) : ∀ c : Nat, (∀ j : Nat, j < c → rd st (j : Int) = rd st' (j : Int)) → scan l st v c = scan l st' v c
  | 0, _ => rfl
  | c + 1, h => by
    rw [scan, scan, scan_congr l v c (fun j hj => h j (by omega)), h c (by omega)]
theorem rd_take {st : List Int} {c j : Nat} (h : j < c) : rd (st.take c) (j : Int) = rd st (j : Int) := by
  unfold rd
  simp [List.getD, h]
theorem rd_take_snoc {st : List Int} {c j : Nat} (a : Int) (h : j < c) (hc : c ≤ st.length) : rd (st.take c ++ [a]) (j : Int) = rd st (j : Int) := by
  unfold rd
  have h2 : j < (st.take c).length := by rw [List.length_take]; omega
  rw [Int.toNat_natCast, List.getD_eq_getElem?_getD, List.getElem?_append_left h2, List.getElem?_take, if_pos h, ← List.getD_eq_getElem?_getD]
theorem rd_snoc_end {st : List Int} {c : Nat} (a : Int) (hc : c ≤ st.length) : rd (st.take c ++ [a]) (c : Int) = a := by
  unfold rd
  have h2 : (st.take c).length = c := by rw [List.length_take]; omega
  rw [Int.toNat_natCast, List.getD_eq_getElem?_getD, List.getElem?_append_right (by omega), h2]
  simp
def Inv (l st : List Int) (i : Nat) : Prop := (∀ v, scan l st v st.length = up l v i) ∧ ∀ j : Nat, j < st.length → 0 ≤ rd st (j : Int) ∧ rd st (j : Int) < i
theorem inv_step {l st : List Int} {i c : Nat} (h : Inv l st i) (hc : c ≤ st.length) (hs : ∀ v, v ≤ rd l (i : Int) → scan l st v c = scan l st v st.length) : Inv l (st.take c ++ [(i : Int)]) (i + 1) := by
  have hlen : (st.take c ++ [(i : Int)]).length = c + 1 := by simp; omega
  refine ⟨fun v => ?_, fun j hj => ?_⟩
  · rw [hlen, scan, rd_snoc_end _ hc, up, scan_congr l (st' := st) v c (fun j hj => rd_take_snoc _ hj hc)]
    by_cases e : rd l (i : Int) < v
    · rw [if_pos e, if_pos e]
    · rw [if_neg e, if_neg e, hs v (by omega), h.1]
  · rw [hlen] at hj
    by_cases e : j = c
    · subst e
      rw [rd_snoc_end _ hc]
      omega
    · rw [rd_take_snoc _ (by omega) hc]
      have := h.2 j (by omega)
      omega
theorem parents_l1 (l st x : List Int) (i : Nat) (hi : i < l.length) (hl : l.length ≤ 60) (h : Inv l st i) (hst : st.length ≤ i) (hx : x.length = i) : ∀ (c k : Nat), c ≤ st.length → (∀ v, v ≤ rd l (i : Int) → scan l st v c = scan l st v st.length) → c + 1 ≤ k →
    ∃ k' st', k ≤ k' + c + 1 ∧ Inv l st' (i + 1) ∧ st'.length ≤ i + 1 ∧ anchors_Parents.l1 k l x st (i : Int) (rd l (i : Int)) (c : Int) l (l.length : Int) (i : Int) = anchors_Parents.l0 k' l (x ++ [par l i]) st' l (l.length : Int) ((i + 1 : Nat) : Int) := by
  have hi1 : wrap64 ((i : Int) + 1) = ((i + 1 : Nat) : Int) := by rw [w_in (by omega)]; omega
  intro c
  induction c with
  | zero =>
    intro k hc hs hk
    obtain ⟨k, rfl⟩ : ∃ m, k = m + 1 := ⟨k - 1, by omega⟩
    have hp : par l i = -1 := by
      unfold par
      rw [← h.1, ← hs _ (Int.le_refl _), scan]
    refine ⟨k, st.take 0 ++ [(i : Int)], by omega, inv_step h (by omega) hs, by simp, ?_⟩
    have e0 : (((0 : Nat) : Int)).toNat = 0 := rfl
    rw [anchors_Parents.l1, if_neg (by omega), if_pos (by omega), if_pos (by omega), e0, Option.bind_some, if_pos (by omega), if_pos (by simp), hi1, hp]
  | succ c ih =>
    intro k hc hs hk
    obtain ⟨k, rfl⟩ : ∃ m, k = m + 1 := ⟨k - 1, by omega⟩
    have hc0 : wrap64 (((c + 1 : Nat) : Int) - 1) = (c : Int) := by rw [w_in (by omega)]; omega
    have hb := h.2 c (by omega)
    by_cases e : rd l (rd st (c : Int)) ≥ rd l (i : Int)
    · have hs' : ∀ v, v ≤ rd l (i : Int) → scan l st v c = scan l st v st.length := by
        intro v hv
        rw [← hs v hv, scan, if_neg (by omega)]
      obtain ⟨k', st', h1, h2, h3, h4⟩ := ih k (by omega) hs' (by omega)
      refine ⟨k', st', by omega, h2, h3, ?_⟩
      rw [← h4, anchors_Parents.l1, if_pos (by omega), hc0, if_pos (by omega), if_pos (by omega), if_pos hb.1, if_pos (by omega), if_pos e]
    · have hp : par l i = rd st (c : Int) := by
        unfold par
        rw [← h.1, ← hs _ (Int.le_refl _), scan, if_pos (by omega)]
      refine ⟨k, st.take (c + 1) ++ [(i : Int)], by omega, inv_step h hc hs, by simp; omega, ?_⟩
      have ht : (st.take (c + 1)).length = c + 1 := by rw [List.length_take]; omega
      have e0 : (((c + 1 : Nat) : Int)).toNat = c + 1 := by omega
      have hxs : (x ++ [(-1 : Int)]).set ((i : Int)).toNat (rd st (c : Int)) = x ++ [rd st (c : Int)] := by
        rw [Int.toNat_natCast, ← hx]
        simp
      rw [anchors_Parents.l1, if_pos (by omega), hc0, if_pos (by omega), if_pos (by omega), if_pos hb.1, if_pos (by omega), if_neg e, if_pos (by omega), if_pos (by omega), e0, Option.bind_some, if_pos (by omega), Option.bind_some, if_pos (by omega), if_pos (by omega), if_pos (by simp; omega), if_pos (by omega), rd_take (by omega), hxs, hi1, hp]
theorem parents_l0 (l : List Int) (hl : l.length ≤ 60) : ∀ (d k : Nat) (st : List Int) (i : Nat), i + d = l.length → Inv l st i → st.length ≤ i → 64 * d + 1 ≤ k → anchors_Parents.l0 k l (mk (par l) i) st l (l.length : Int) (i : Int) = some (mk (par l) l.length) := by
  intro d
  induction d with
  | zero =>
    intro k st i hd h hst hk
    obtain ⟨k, rfl⟩ : ∃ m, k = m + 1 := ⟨k - 1, by omega⟩
    rw [anchors_Parents.l0, if_neg (by omega), show i = l.length by omega]
  | succ d ih =>
    intro k st i hd h hst hk
    obtain ⟨k, rfl⟩ : ∃ m, k = m + 1 := ⟨k - 1, by omega⟩
    obtain ⟨k', st', h1, h2, h3, h4⟩ := parents_l1 l st (mk (par l) i) i (by omega) hl h hst (mk_len _ _) st.length k (Nat.le_refl _) (fun _ _ => rfl) (by omega)
    rw [anchors_Parents.l0, if_pos (by omega), if_pos (by omega), if_pos (by omega), h4, mk_snoc]
    exact ih k' st' (i + 1) (by omega) h2 h3 (by omega)
theorem parents_f (K : Nat) (hK : 4000 ≤ K) (l : List Int) (hl : l.length ≤ 60) : anchors_Parents.f K l = some (mk (par l) l.length) := by
  unfold anchors_Parents.f
  exact parents_l0 l hl l.length K [] 0 (by omega) ⟨fun v => rfl, fun j hj => absurd hj (by simp)⟩ (by simp) (by omega)

/-- The first and the last root among the first n. -/
def ro (p : Nat → Int) : Nat → Int × Int
  | 0 => (-1, -1)
  | n + 1 => if p n < 0 then (if (ro p n).1 < 0 then (n : Int) else (ro p n).1, (n : Int)) else ro p n
theorem roots_l0 (l : List Int) (hl : l.length ≤ 60) : ∀ (d k i : Nat), i + d = l.length → d + 1 ≤ k → anchors_Roots.l0 k l (ro (par l) i).1 (ro (par l) i).2 (mk (par l) l.length) (l.length : Int) (i : Int) = some ((ro (par l) l.length).1, (ro (par l) l.length).2, (l.length : Int)) := by
  intro d
  induction d with
  | zero =>
    intro k i hd hk
    obtain ⟨k, rfl⟩ : ∃ m, k = m + 1 := ⟨k - 1, by omega⟩
    obtain rfl : i = l.length := by omega
    rw [anchors_Roots.l0, if_neg (by omega)]
  | succ d ih =>
    intro k i hd hk
    obtain ⟨k, rfl⟩ : ∃ m, k = m + 1 := ⟨k - 1, by omega⟩
    have hi1 : wrap64 ((i : Int) + 1) = ((i + 1 : Nat) : Int) := by rw [w_in (by omega)]; omega
    rw [← ih k (i + 1) (by omega) (by omega), anchors_Roots.l0, if_pos (by omega), if_pos (by omega), if_pos (by rw [mk_len]; omega), rd_mk _ _ (by omega), hi1, ro]
    by_cases h : par l i < 0
    · rw [if_pos h, if_pos h]
      by_cases h2 : (ro (par l) i).1 < 0
      · rw [if_pos h2, if_pos h2]
      · rw [if_neg h2, if_neg h2]
    · rw [if_neg h, if_neg h]
theorem roots_f (K : Nat) (hK : 4000 ≤ K) (l : List Int) (hl : l.length ≤ 60) : anchors_Roots.f K l = some ((ro (par l) l.length).1, (ro (par l) l.length).2, (l.length : Int)) := by
  unfold anchors_Roots.f
  rw [parents_f K hK l hl, Option.bind_some, mk_len]
  exact roots_l0 l hl l.length K 0 (by omega) (by omega)

/-- The last one below n whose parent is q, or -1. -/
def lst (p : Nat → Int) (q : Int) : Nat → Int
  | 0 => -1
  | n + 1 => if p n = q then (n : Int) else lst p q n
/-- The first one behind i, below n, that has i's parent, or -1. -/
def nxt (p : Nat → Int) (i : Nat) : Nat → Int
  | 0 => -1
  | n + 1 => if 0 ≤ nxt p i n then nxt p i n else if i < n ∧ p n = p i then (n : Int) else -1
/-- The first one below n whose parent is i, or -1. -/
def fst (p : Nat → Int) (i : Int) : Nat → Int
  | 0 => -1
  | n + 1 => if 0 ≤ fst p i n then fst p i n else if p n = i then (n : Int) else -1
theorem lst_range (p : Nat → Int) (q : Int) : ∀ n : Nat, -1 ≤ lst p q n ∧ lst p q n < n
  | 0 => by rw [lst]; omega
  | n + 1 => by
    have := lst_range p q n
    rw [lst]
    split <;> omega
theorem lst_neg (p : Nat → Int) (q : Int) : ∀ n : Nat, lst p q n < 0 ↔ ∀ j, j < n → p j ≠ q
  | 0 => by rw [lst]; exact ⟨fun _ j h => by omega, fun _ => by omega⟩
  | n + 1 => by
    have ih := lst_neg p q n
    rw [lst]
    by_cases e : p n = q
    · rw [if_pos e]
      exact ⟨fun h => by omega, fun h => absurd e (h n (by omega))⟩
    · rw [if_neg e, ih]
      refine ⟨fun h j hj => ?_, fun h j hj => h j (by omega)⟩
      by_cases ej : j = n
      · rw [ej]; exact e
      · exact h j (by omega)
theorem lst_some (p : Nat → Int) (q : Int) : ∀ (n j : Nat), lst p q n = j → p j = q ∧ j < n ∧ ∀ m, j < m → m < n → p m ≠ q
  | 0, j, h => by rw [lst] at h; omega
  | n + 1, j, h => by
    rw [lst] at h
    by_cases e : p n = q
    · rw [if_pos e] at h
      obtain rfl : n = j := by omega
      exact ⟨e, by omega, fun m h1 h2 => by omega⟩
    · rw [if_neg e] at h
      obtain ⟨h1, h2, h3⟩ := lst_some p q n j h
      refine ⟨h1, by omega, fun m h4 h5 => ?_⟩
      by_cases em : m = n
      · rw [em]; exact e
      · exact h3 m h4 (by omega)
theorem nxt_range (p : Nat → Int) (i : Nat) : ∀ n : Nat, -1 ≤ nxt p i n ∧ nxt p i n < n
  | 0 => by rw [nxt]; omega
  | n + 1 => by
    have := nxt_range p i n
    rw [nxt]
    split
    · omega
    · split <;> omega
theorem nxt_neg (p : Nat → Int) (i : Nat) : ∀ n : Nat, nxt p i n < 0 ↔ ∀ j, i < j → j < n → p j ≠ p i
  | 0 => by rw [nxt]; exact ⟨fun _ j _ h => by omega, fun _ => by omega⟩
  | n + 1 => by
    have ih := nxt_neg p i n
    rw [nxt]
    by_cases z : 0 ≤ nxt p i n
    · rw [if_pos z]
      refine ⟨fun h => by omega, fun h => ?_⟩
      have := ih.2 (fun j h1 h2 => h j h1 (by omega))
      omega
    · rw [if_neg z]
      have h0 := ih.1 (by omega)
      by_cases e : i < n ∧ p n = p i
      · rw [if_pos e]
        exact ⟨fun h => by omega, fun h => absurd e.2 (h n e.1 (by omega))⟩
      · rw [if_neg e]
        refine ⟨fun _ j h1 h2 => ?_, fun _ => by omega⟩
        by_cases ej : j = n
        · subst ej
          exact fun h => e ⟨h1, h⟩
        · exact h0 j h1 (by omega)
theorem nxt_some (p : Nat → Int) (i : Nat) : ∀ (n j : Nat), nxt p i n = j → i < j ∧ j < n ∧ p j = p i ∧ ∀ m, i < m → m < j → p m ≠ p i
  | 0, j, h => by rw [nxt] at h; omega
  | n + 1, j, h => by
    rw [nxt] at h
    by_cases z : 0 ≤ nxt p i n
    · rw [if_pos z] at h
      obtain ⟨h1, h2, h3⟩ := nxt_some p i n j h
      exact ⟨h1, by omega, h3⟩
    · rw [if_neg z] at h
      by_cases e : i < n ∧ p n = p i
      · rw [if_pos e] at h
        obtain rfl : n = j := by omega
        exact ⟨e.1, by omega, e.2, fun m h1 h2 => (nxt_neg p i n).1 (by omega) m h1 h2⟩
      · rw [if_neg e] at h
        omega
theorem fst_range (p : Nat → Int) (i : Int) : ∀ n : Nat, -1 ≤ fst p i n ∧ fst p i n < n
  | 0 => by rw [fst]; omega
  | n + 1 => by
    have := fst_range p i n
    rw [fst]
    split
    · omega
    · split <;> omega
theorem fst_neg (p : Nat → Int) (i : Int) : ∀ n : Nat, fst p i n < 0 ↔ ∀ j, j < n → p j ≠ i
  | 0 => by rw [fst]; exact ⟨fun _ j h => by omega, fun _ => by omega⟩
  | n + 1 => by
    have ih := fst_neg p i n
    rw [fst]
    by_cases z : 0 ≤ fst p i n
    · rw [if_pos z]
      refine ⟨fun h => by omega, fun h => ?_⟩
      have := ih.2 (fun j h1 => h j (by omega))
      omega
    · rw [if_neg z]
      have h0 := ih.1 (by omega)
      by_cases e : p n = i
      · rw [if_pos e]
        exact ⟨fun h => by omega, fun h => absurd e (h n (by omega))⟩
      · rw [if_neg e]
        refine ⟨fun _ j h1 => ?_, fun _ => by omega⟩
        by_cases ej : j = n
        · rw [ej]; exact e
        · exact h0 j (by omega)
theorem fst_some (p : Nat → Int) (i : Int) : ∀ (n j : Nat), fst p i n = j → j < n ∧ p j = i ∧ ∀ m, m < j → p m ≠ i
  | 0, j, h => by rw [fst] at h; omega
  | n + 1, j, h => by
    rw [fst] at h
    by_cases z : 0 ≤ fst p i n
    · rw [if_pos z] at h
      obtain ⟨h1, h2⟩ := fst_some p i n j h
      exact ⟨by omega, h2⟩
    · rw [if_neg z] at h
      by_cases e : p n = i
      · rw [if_pos e] at h
        obtain rfl : n = j := by omega
        exact ⟨by omega, e, fun m h1 => (fst_neg p i n).1 (by omega) m h1⟩
      · rw [if_neg e] at h
        omega
/-- An entry, as n headings make it. -/
def ent (p : Nat → Int) (n i : Nat) : S27 := ⟨p i, lst p (p i) i, nxt p i n, fst p (i : Int) n, lst p (i : Int) n, 0⟩
section
variable {p : Nat → Int} (hp : ∀ i, -1 ≤ p i ∧ p i < i)
include hp
theorem ent_new (n : Nat) : ent p (n + 1) n = ⟨p n, lst p (p n) n, -1, -1, -1, 0⟩ := by
  have h1 : nxt p n (n + 1) = -1 := by
    have := nxt_range p n (n + 1)
    have := (nxt_neg p n (n + 1)).2 (fun j h1 h2 => by omega)
    omega
  have h2 : fst p (n : Int) (n + 1) = -1 := by
    have := fst_range p (n : Int) (n + 1)
    have := (fst_neg p (n : Int) (n + 1)).2 (fun j h1 => by have := hp j; omega)
    omega
  have h3 : lst p (n : Int) (n + 1) = -1 := by
    have := lst_range p (n : Int) (n + 1)
    have := (lst_neg p (n : Int) (n + 1)).2 (fun j h1 => by have := hp j; omega)
    omega
  unfold ent
  rw [h1, h2, h3]
omit hp in
theorem ent_succ (n i : Nat) (hi : i < n) : ent p (n + 1) i = ⟨p i, lst p (p i) i, if (i : Int) = lst p (p n) n then (n : Int) else nxt p i n, if (i : Int) = p n ∧ lst p (p n) n < 0 then (n : Int) else fst p (i : Int) n, if (i : Int) = p n then (n : Int) else lst p (i : Int) n, 0⟩ := by
  have h1 : nxt p i (n + 1) = if (i : Int) = lst p (p n) n then (n : Int) else nxt p i n := by
    rw [nxt]
    by_cases e : (i : Int) = lst p (p n) n
    · obtain ⟨a1, a2, a3⟩ := lst_some p (p n) n i e.symm
      have := (nxt_neg p i n).2 (fun j b1 b2 => by rw [a1]; exact a3 j b1 b2)
      rw [if_neg (by omega), if_pos ⟨hi, a1.symm⟩, if_pos e]
    · rw [if_neg e]
      by_cases z : 0 ≤ nxt p i n
      · rw [if_pos z]
      · rw [if_neg z]
        have hr := nxt_range p i n
        rw [if_neg, show nxt p i n = -1 by omega]
        rintro ⟨_, b2⟩
        have hz := (nxt_neg p i n).1 (by omega)
        have hr2 := lst_range p (p n) n
        have hne : ¬ lst p (p n) n < 0 := fun h => (lst_neg p (p n) n).1 h i hi b2.symm
        obtain ⟨j, hj⟩ := Int.eq_ofNat_of_zero_le (show 0 ≤ lst p (p n) n by omega)
        obtain ⟨a1, a2, a3⟩ := lst_some p (p n) n j hj
        rw [hj] at e
        by_cases c : i < j
        · exact hz j c a2 (a1.trans b2)
        · exact a3 i (by omega) hi b2.symm
  have h2 : fst p (i : Int) (n + 1) = if (i : Int) = p n ∧ lst p (p n) n < 0 then (n : Int) else fst p (i : Int) n := by
    rw [fst]
    have hr := fst_range p (i : Int) n
    by_cases e : (i : Int) = p n
    · have hiff : lst p (p n) n < 0 ↔ fst p (i : Int) n < 0 := by rw [lst_neg, fst_neg, e]
      by_cases z : lst p (p n) n < 0
      · have := hiff.1 z
        rw [if_neg (by omega), if_pos e.symm, if_pos ⟨e, z⟩]
      · have : ¬ fst p (i : Int) n < 0 := fun h => z (hiff.2 h)
        rw [if_pos (by omega), if_neg (fun h => z h.2)]
    · rw [if_neg (show ¬ ((i : Int) = p n ∧ lst p (p n) n < 0) from fun h => e h.1)]
      by_cases z : 0 ≤ fst p (i : Int) n
      · rw [if_pos z]
      · rw [if_neg z, if_neg (fun h => e h.symm)]
        omega
  have h3 : lst p (i : Int) (n + 1) = if (i : Int) = p n then (n : Int) else lst p (i : Int) n := by
    rw [lst]
    by_cases e : (i : Int) = p n
    · rw [if_pos e, if_pos e.symm]
    · rw [if_neg e, if_neg (fun h => e h.symm)]
  unfold ent
  rw [h1, h2, h3]
end
theorem mk_snoc2 {α : Type} (f : Nat → α) (n : Nat) (a : α) : mk f n ++ [a] = mk (fun i => if i = n then a else f i) (n + 1) := by
  rw [← mk_snoc]
  rw [if_pos rfl]
  congr 1
  exact mk_congr (fun i hi => by rw [if_neg (by omega)])
theorem rdT_mk (f : Nat → S27) (n : Nat) {j : Nat} (h : j < n) : rd_T27 (mk f n) (j : Int) = f j := by
  unfold rd_T27
  rw [Int.toNat_natCast]
  exact mk_get f n z27 h
theorem mget_put (m : List S71) (s c t : Int) : mget71 ((⟨s, c⟩ : S71) :: m) t = if s = t then c else mget71 m t := by
  unfold mget71
  rw [List.map_cons, Go.Proofs.YtdoponngnjmkkaaM.mget]
theorem knots_l0 (p : Nat → Int) (hp : ∀ i, -1 ≤ p i ∧ p i < i) (N : Nat) (hN : N ≤ 60) : ∀ (d k : Nat) (m : List S71) (n : Nat), n + d = N → m.length ≤ n → (∀ q, mget71 m q = lst p q n + 1) → d + 1 ≤ k →
    ∃ k', k ≤ k' + d + 1 ∧ anchors_Knots.l0 k (mk (ent p n) n) m (mk p N) (N : Int) (n : Int) = anchors_Knots.l1 k' (mk (ent p N) N) ((N : Int) - 1) := by
  intro d
  induction d with
  | zero =>
    intro k m n hd hm hg hk
    obtain ⟨k, rfl⟩ : ∃ m, k = m + 1 := ⟨k - 1, by omega⟩
    obtain rfl : n = N := by omega
    refine ⟨k, by omega, ?_⟩
    rw [anchors_Knots.l0, if_neg (by omega), mk_len, w_in (by omega)]
  | succ d ih =>
    intro k m n hd hm hg hk
    obtain ⟨k, rfl⟩ : ∃ m, k = m + 1 := ⟨k - 1, by omega⟩
    have hn1 : wrap64 ((n : Int) + 1) = ((n + 1 : Nat) : Int) := by rw [w_in (by omega)]; omega
    have hP := hp n
    have hq := lst_range p (p n) n
    have hw : wrap64 (lst p (p n) n + 1 - 1) = lst p (p n) n := by rw [w_in (by omega)]; omega
    have hg' : ∀ q, mget71 ((⟨p n, ((n + 1 : Nat) : Int)⟩ : S71) :: m) q = lst p q (n + 1) + 1 := by
      intro q
      rw [mget_put, lst, hg]
      by_cases e : p n = q
      · rw [if_pos e, if_pos e]; omega
      · rw [if_neg e, if_neg e]
    have hne := ent_new hp n
    have hes := ent_succ (p := p) n
    obtain ⟨k', h1, h2⟩ := ih k _ (n + 1) (by omega) (by simp; omega) hg' (by omega)
    refine ⟨k', by omega, ?_⟩
    rw [← h2, anchors_Knots.l0, if_pos (by omega), if_pos (by omega), if_pos (by rw [mk_len]; omega), rd_mk _ _ (by omega), if_pos (by omega), if_pos (by omega), if_pos (by rw [mk_len]; omega), Option.bind_some, hg, hw, hn1, mk_snoc2]
    by_cases hq0 : lst p (p n) n ≥ 0
    · obtain ⟨b, hb⟩ := Int.eq_ofNat_of_zero_le hq0
      have hb' : lst p (p n) n = (b : Int) := hb
      obtain ⟨b1, b2, b3⟩ := lst_some p (p n) n b hb'
      rw [hb', if_pos (by omega), if_pos (by omega), if_pos (by rw [mk_len]; omega), Option.bind_some, rdT_mk _ _ (by omega), if_neg (show ¬ b = n by omega), Int.toNat_natCast, mk_set]
      by_cases hP0 : p n ≥ 0
      · obtain ⟨a, ha⟩ := Int.eq_ofNat_of_zero_le hP0
        have ha' : p n = (a : Int) := ha
        have hab : a < b := by have := hp b; omega
        rw [ha', if_pos (by omega), if_pos (by omega), if_pos (by rw [mk_len]; omega), if_pos (by omega), rdT_mk _ _ (by omega), if_neg (show ¬ a = b by omega), if_neg (show ¬ a = n by omega), Int.toNat_natCast, mk_set]
        congr 1
        refine mk_congr (fun i hi => ?_)
        by_cases e : i = n
        · subst e
          rw [if_neg (by omega), if_neg (by omega), if_pos rfl, hne, hb', ha']
        · rw [if_neg e, hes i (by omega), hb', ha']
          by_cases ea : i = a
          · subst ea
            rw [if_pos rfl, if_neg (by omega), if_neg (by omega), if_pos rfl]
            rfl
          · rw [if_neg ea]
            by_cases eb : i = b
            · subst eb
              rw [if_pos rfl, if_pos rfl, if_neg (by omega), if_neg (by omega)]
              rfl
            · rw [if_neg eb, if_neg (by omega), if_neg (by omega), if_neg (by omega)]
              rfl
      · rw [if_neg hP0, if_pos (by omega)]
        congr 1
        refine mk_congr (fun i hi => ?_)
        by_cases e : i = n
        · subst e
          rw [if_neg (by omega), if_pos rfl, hne, hb']
        · rw [if_neg e, hes i (by omega), hb']
          by_cases eb : i = b
          · subst eb
            rw [if_pos rfl, if_pos rfl, if_neg (by omega), if_neg (by omega)]
            rfl
          · rw [if_neg eb, if_neg (by omega), if_neg (by omega), if_neg (by omega)]
            rfl
    · rw [if_neg hq0]
      by_cases hP0 : p n ≥ 0
      · obtain ⟨a, ha⟩ := Int.eq_ofNat_of_zero_le hP0
        have ha' : p n = (a : Int) := ha
        rw [ha'] at hq0 hq hne hes ⊢
        rw [if_pos (by omega), if_pos (by omega), if_pos (by rw [mk_len]; omega), Option.bind_some, if_pos (by omega), rdT_mk _ _ (by omega), if_neg (show ¬ a = n by omega), Int.toNat_natCast, mk_set, rdT_mk _ _ (by omega), if_pos rfl, mk_set]
        congr 1
        refine mk_congr (fun i hi => ?_)
        by_cases e : i = n
        · subst e
          rw [if_neg (by omega), if_neg (by omega), if_pos rfl, hne]
        · rw [if_neg e, hes i (by omega)]
          by_cases ea : i = a
          · subst ea
            rw [if_pos rfl, if_neg (by omega), if_pos ⟨rfl, by omega⟩, if_pos rfl]
            rfl
          · rw [if_neg ea, if_neg ea, if_neg (by omega), if_neg (by omega), if_neg (by omega)]
            rfl
      · rw [if_neg hP0, if_pos (by omega)]
        congr 1
        refine mk_congr (fun i hi => ?_)
        by_cases e : i = n
        · subst e
          rw [if_pos rfl, hne]
        · rw [if_neg e, hes i (by omega), if_neg (by omega), if_neg (by omega), if_neg (by omega)]
          rfl

def sumc (f : Nat → Int) : Nat → Int
  | 0 => 0
  | n + 1 => sumc f n + f n
theorem sumc_congr {f g : Nat → Int} : ∀ n : Nat, (∀ i, i < n → f i = g i) → sumc f n = sumc g n
  | 0, _ => rfl
  | n + 1, h => by rw [sumc, sumc, sumc_congr n (fun i hi => h i (by omega)), h n (by omega)]
theorem sumc_add (f g : Nat → Int) : ∀ n : Nat, sumc (fun i => f i + g i) n = sumc f n + sumc g n
  | 0 => rfl
  | n + 1 => by rw [sumc, sumc, sumc, sumc_add f g n]; omega
theorem sumc_zero : ∀ (f : Nat → Int) (n : Nat), (∀ i, i < n → f i = 0) → sumc f n = 0
  | _, 0, _ => rfl
  | f, n + 1, h => by rw [sumc, sumc_zero f n (fun i hi => h i (by omega)), h n (by omega)]; rfl
theorem sumc_one (a : Int) (j : Nat) : ∀ n : Nat, sumc (fun i => if i = j then a else 0) n = if j < n then a else 0
  | 0 => by rw [sumc, if_neg (by omega)]
  | n + 1 => by
    rw [sumc, sumc_one a j n]
    by_cases e : n = j
    · rw [if_neg (by omega), if_pos e, if_pos (by omega)]; omega
    · rw [if_neg e]
      by_cases h : j < n
      · rw [if_pos h, if_pos (by omega)]; omega
      · rw [if_neg h, if_neg (by omega)]; rfl
theorem sumc_swap (f : Nat → Nat → Int) (m : Nat) : ∀ n : Nat, sumc (fun i => sumc (fun j => f i j) m) n = sumc (fun j => sumc (fun i => f i j) n) m
  | 0 => by rw [sumc]; exact (sumc_zero _ m (fun i _ => rfl)).symm
  | n + 1 => by
    rw [sumc, sumc_swap f m n, ← sumc_add]
    exact sumc_congr m (fun j _ => rfl)
theorem sumc_if (c : Prop) [Decidable c] (f : Nat → Int) (n : Nat) : sumc (fun i => if c then f i else 0) n = if c then sumc f n else 0 := by
  by_cases h : c
  · rw [if_pos h]; exact sumc_congr n (fun i _ => by rw [if_pos h])
  · rw [if_neg h]; exact sumc_zero _ n (fun i _ => by rw [if_neg h])
/-- How often i stands above j: among its parent, its parent's parent, and so on (-1 counts as above all). -/
def above (p : Nat → Int) (i : Int) : Nat → Nat → Int
  | 0, _ => 0
  | f + 1, j => (if p j = i then 1 else 0) + (if 0 ≤ p j then above p i f (p j).toNat else 0)
section
variable {p : Nat → Int} (hp : ∀ i, -1 ≤ p i ∧ p i < i)
include hp
theorem above_fuel (i : Int) : ∀ (f g j : Nat), j < f → j < g → above p i f j = above p i g j
  | 0, _, _, h, _ => by omega
  | _ + 1, 0, _, _, h => by omega
  | f + 1, g + 1, j, h1, h2 => by
    rw [above, above]
    by_cases z : 0 ≤ p j
    · have := hp j
      rw [if_pos z, if_pos z, above_fuel i f g _ (by omega) (by omega)]
    · rw [if_neg z, if_neg z]
theorem above_step (N : Nat) (i : Int) (j : Nat) (h : j < N) : above p i N j = (if p j = i then 1 else 0) + (if 0 ≤ p j then above p i N (p j).toNat else 0) := by
  obtain ⟨m, rfl⟩ : ∃ m, N = m + 1 := ⟨N - 1, by omega⟩
  rw [above]
  by_cases z : 0 ≤ p j
  · have := hp j
    rw [if_pos z, if_pos z, above_fuel hp i m (m + 1) _ (by omega) (by omega)]
  · rw [if_neg z, if_neg z]
theorem above_children (N : Nat) (i : Int) : ∀ (b j : Nat), j < b → j < N → above p i N j = sumc (fun c => if p c = i then (if c = j then 1 else 0) + above p (c : Int) N j else 0) N := by
  intro b
  induction b with
  | zero => intro j h; omega
  | succ b ih =>
    intro j hb hj
    have hone : sumc (fun c => if c = j then (if p c = i then (1 : Int) else 0) else 0) N = if p j = i then 1 else 0 := by
      rw [sumc_congr (g := fun c => if c = j then (if p j = i then (1 : Int) else 0) else 0) N (fun c _ => by
        by_cases e : c = j
        · rw [if_pos e, if_pos e, e]
        · rw [if_neg e, if_neg e]), sumc_one, if_pos hj]
    have hsplit : sumc (fun c => if p c = i then (if c = j then 1 else 0) + above p (c : Int) N j else 0) N = (if p j = i then 1 else 0) + sumc (fun c => if p c = i then above p (c : Int) N j else 0) N := by
      rw [← hone, ← sumc_add]
      refine sumc_congr N (fun c _ => ?_)
      by_cases e : p c = i <;> by_cases e2 : c = j <;> simp only [e, e2, if_true, if_false, Int.zero_add, Int.add_zero] <;> simp_all
    rw [hsplit, above_step hp N i j hj]
    congr 1
    have := hp j
    by_cases z : 0 ≤ p j
    · rw [if_pos z, ih (p j).toNat (by omega) (by omega)]
      refine sumc_congr N (fun c hc => ?_)
      by_cases e : p c = i
      · rw [if_pos e, if_pos e, above_step hp N (c : Int) j hj, if_pos z]
        congr 1
        by_cases e2 : c = (p j).toNat
        · rw [if_pos e2, if_pos (by omega)]
        · rw [if_neg e2, if_neg (by omega)]
      · rw [if_neg e, if_neg e]
    · rw [if_neg z]
      symm
      refine sumc_zero _ N (fun c hc => ?_)
      by_cases e : p c = i
      · rw [if_pos e, above_step hp N (c : Int) j hj, if_neg z, if_neg (by omega)]; rfl
      · rw [if_neg e]
/-- How many stand below i. -/
def desc (p : Nat → Int) (N : Nat) (i : Int) : Int := sumc (fun j => above p i N j) N
theorem desc_children (N : Nat) (i : Int) : desc p N i = sumc (fun c => if p c = i then 1 + desc p N (c : Int) else 0) N := by
  unfold desc
  rw [sumc_congr N (fun j hj => above_children hp N i N j hj hj), sumc_swap (fun j c => if p c = i then (if c = j then 1 else 0) + above p (c : Int) N j else 0)]
  refine sumc_congr N (fun c hc => ?_)
  rw [sumc_if (p c = i)]
  by_cases e : p c = i
  · rw [if_pos e, if_pos e, sumc_add]
    congr 1
    rw [sumc_congr (g := fun j => if j = c then (1 : Int) else 0) N (fun j _ => by
      by_cases e2 : c = j
      · rw [if_pos e2, if_pos e2.symm]
      · rw [if_neg e2, if_neg (fun h => e2 h.symm)]), sumc_one, if_pos hc]
  · rw [if_neg e, if_neg e]
theorem desc_from (N m : Nat) : desc p N (m : Int) = sumc (fun c => if p c = (m : Int) then 1 + desc p N (c : Int) else 0) N - sumc (fun c => if p c = (m : Int) then 1 + desc p N (c : Int) else 0) (m + 1) := by
  rw [sumc_zero (fun c => if p c = (m : Int) then 1 + desc p N (c : Int) else 0) (m + 1) (fun c hc => by have := hp c; rw [if_neg (by omega)]), ← desc_children hp]
  omega
theorem desc_all (N : Nat) : desc p N (-1) = N := by
  have h1 : ∀ b j : Nat, j < b → j < N → above p (-1) N j = 1 := by
    intro b
    induction b with
    | zero => intro j h; omega
    | succ b ih =>
      intro j hb hj
      have := hp j
      rw [above_step hp N (-1) j hj]
      by_cases z : 0 ≤ p j
      · rw [if_pos z, if_neg (by omega), ih _ (by omega) (by omega)]; rfl
      · rw [if_neg z, if_pos (by omega)]; rfl
  have h2 : ∀ n : Nat, n ≤ N → sumc (fun j => above p (-1) N j) n = n := by
    intro n
    induction n with
    | zero => intro _; rfl
    | succ n ih =>
      intro hn
      rw [sumc, ih (by omega), h1 N n (by omega) (by omega)]
      omega
  exact h2 N (Nat.le_refl _)
end
/-- An entry, with all headings. -/
def kn (p : Nat → Int) (N i : Nat) : S27 := ⟨p i, lst p (p i) i, nxt p i N, fst p (i : Int) N, lst p (i : Int) N, desc p N (i : Int)⟩
/-- An entry while the counts are made, from the last one down to m. -/
def cur (p : Nat → Int) (N m i : Nat) : S27 := ⟨p i, lst p (p i) i, nxt p i N, fst p (i : Int) N, lst p (i : Int) N, sumc (fun c => if p c = (i : Int) then 1 + desc p N (c : Int) else 0) N - sumc (fun c => if p c = (i : Int) then 1 + desc p N (c : Int) else 0) m⟩
theorem above_range {p : Nat → Int} (hp : ∀ i, -1 ≤ p i ∧ p i < i) (N : Nat) (i : Int) (hi : 0 ≤ i) : ∀ (b j : Nat), j < b → j < N → 0 ≤ above p i N j ∧ above p i N j ≤ 1 ∧ (j ≤ i → above p i N j = 0) := by
  intro b
  induction b with
  | zero => intro j h; omega
  | succ b ih =>
    intro j hb hj
    have := hp j
    rw [above_step hp N i j hj]
    by_cases z : 0 ≤ p j
    · have h1 := ih (p j).toNat (by omega) (by omega)
      rw [if_pos z]
      by_cases e : p j = i
      · rw [if_pos e]
        have := h1.2.2 (by omega)
        omega
      · rw [if_neg e]
        refine ⟨by omega, by omega, fun h => ?_⟩
        have := h1.2.2 (by omega)
        omega
    · rw [if_neg z, if_neg (by omega)]
      omega
theorem desc_range {p : Nat → Int} (hp : ∀ i, -1 ≤ p i ∧ p i < i) (N : Nat) (i : Int) (hi : 0 ≤ i) : 0 ≤ desc p N i ∧ desc p N i ≤ N := by
  have h : ∀ n : Nat, n ≤ N → 0 ≤ sumc (fun j => above p i N j) n ∧ sumc (fun j => above p i N j) n ≤ n := by
    intro n
    induction n with
    | zero => intro _; exact ⟨Int.le_refl _, Int.le_refl _⟩
    | succ n ih =>
      intro hn
      have h1 := ih (by omega)
      have h2 := above_range hp N i hi N n (by omega) (by omega)
      rw [sumc]
      omega
  exact h N (Nat.le_refl _)
theorem sumc_part {p : Nat → Int} (hp : ∀ i, -1 ≤ p i ∧ p i < i) (N : Nat) (i : Int) : ∀ n : Nat, n ≤ N → 0 ≤ sumc (fun c => if p c = i then 1 + desc p N (c : Int) else 0) n ∧ sumc (fun c => if p c = i then 1 + desc p N (c : Int) else 0) n ≤ sumc (fun c => if p c = i then 1 + desc p N (c : Int) else 0) N := by
  have h0 : ∀ c : Nat, 0 ≤ (if p c = i then 1 + desc p N (c : Int) else 0) := by
    intro c
    have := desc_range hp N (c : Int) (by omega)
    split <;> omega
  have h1 : ∀ n : Nat, 0 ≤ sumc (fun c => if p c = i then 1 + desc p N (c : Int) else 0) n := by
    intro n
    induction n with
    | zero => exact Int.le_refl _
    | succ n ih => rw [sumc]; have := h0 n; omega
  have h2 : ∀ d n : Nat, n + d = N → sumc (fun c => if p c = i then 1 + desc p N (c : Int) else 0) n ≤ sumc (fun c => if p c = i then 1 + desc p N (c : Int) else 0) N := by
    intro d
    induction d with
    | zero => intro n h; rw [show n = N by omega]; exact Int.le_refl _
    | succ d ih =>
      intro n h
      have a := ih (n + 1) (by omega)
      have b := h0 n
      rw [sumc] at a
      omega
  exact fun n hn => ⟨h1 n, h2 (N - n) n (by omega)⟩
theorem knots_l1 (p : Nat → Int) (hp : ∀ i, -1 ≤ p i ∧ p i < i) (N : Nat) (hN : N ≤ 60) : ∀ (m k : Nat), m ≤ N → m + 1 ≤ k → anchors_Knots.l1 k (mk (cur p N m) N) ((m : Int) - 1) = some (mk (kn p N) N) := by
  intro m
  induction m with
  | zero =>
    intro k _ hk
    obtain ⟨k, rfl⟩ : ∃ m, k = m + 1 := ⟨k - 1, by omega⟩
    rw [anchors_Knots.l1, if_neg (by omega)]
    congr 1
    refine mk_congr (fun i hi => ?_)
    unfold cur kn
    rw [desc_children hp, sumc]
    congr 1
    omega
  | succ m ih =>
    intro k hm hk
    obtain ⟨k, rfl⟩ : ∃ n, k = n + 1 := ⟨k - 1, by omega⟩
    have e1 : ((m + 1 : Nat) : Int) - 1 = (m : Int) := by omega
    have hm1 : wrap64 ((m : Int) - 1) = (m : Int) - 1 := w_in (by omega)
    have hP := hp m
    rw [← ih k (by omega) (by omega), anchors_Knots.l1, e1, if_pos (by omega), if_pos (by omega), if_pos (by rw [mk_len]; omega), hm1, rdT_mk _ _ (by omega)]
    have hf0 : (cur p N (m + 1) m).f0 = p m := rfl
    have hf5 : (cur p N (m + 1) m).f5 = desc p N (m : Int) := (desc_from hp N m).symm
    have hd := desc_range hp N (m : Int) (by omega)
    rw [hf0, hf5]
    by_cases hP0 : p m ≥ 0
    · obtain ⟨a, ha⟩ := Int.eq_ofNat_of_zero_le hP0
      have ha' : p m = (a : Int) := ha
      have hs := sumc_part hp N (a : Int) (m + 1) (by omega)
      have hda := desc_range hp N (a : Int) (by omega)
      have hdc := desc_children hp N (a : Int)
      have hw1 : wrap64 (desc p N (m : Int) + 1) = desc p N (m : Int) + 1 := w_in (by omega)
      have hw2 : wrap64 ((cur p N (m + 1) a).f5 + (desc p N (m : Int) + 1)) = (cur p N (m + 1) a).f5 + (desc p N (m : Int) + 1) := by
        apply w_in
        have : (cur p N (m + 1) a).f5 = sumc (fun c => if p c = (a : Int) then 1 + desc p N (c : Int) else 0) N - sumc (fun c => if p c = (a : Int) then 1 + desc p N (c : Int) else 0) (m + 1) := rfl
        omega
      rw [if_pos hP0, ha', if_pos (by omega), if_pos (by rw [mk_len]; omega), rdT_mk _ _ (by omega), hw1, hw2, Int.toNat_natCast, mk_set]
      congr 1
      refine mk_congr (fun i hi => ?_)
      by_cases e : i = a
      · subst e
        rw [if_pos rfl]
        unfold cur
        rw [sumc, if_pos ha']
        congr 1
        simp only []
        omega
      · rw [if_neg e]
        unfold cur
        rw [sumc, if_neg (by omega)]
        congr 1
        omega
    · rw [if_neg hP0]
      congr 1
      refine mk_congr (fun i hi => ?_)
      unfold cur
      rw [sumc, if_neg (by omega)]
      congr 1
      omega
theorem knots_f (K : Nat) (hK : 4000 ≤ K) (l : List Int) (hl : l.length ≤ 60) : anchors_Knots.f K l = some (mk (kn (par l) l.length) l.length) := by
  have hp := par_range l
  unfold anchors_Knots.f
  rw [parents_f K hK l hl, Option.bind_some, mk_len]
  obtain ⟨k', h1, h2⟩ := knots_l0 (par l) hp l.length hl l.length K [] 0 (by omega) (by simp) (fun q => rfl) (by omega)
  have e : mk (ent (par l) l.length) l.length = mk (cur (par l) l.length l.length) l.length := mk_congr (fun i hi => by
    unfold ent cur
    congr 1
    omega)
  refine Eq.trans h2 ?_
  rw [e]
  exact knots_l1 (par l) hp l.length hl l.length k' (Nat.le_refl _) (by omega)

theorem lst_eq {p : Nat → Int} {q : Int} {n i : Nat} (h1 : p i = q) (h2 : i < n) (h3 : ∀ m, i < m → m < n → p m ≠ q) : lst p q n = i := by
  have hr := lst_range p q n
  have hn : ¬ lst p q n < 0 := fun h => (lst_neg p q n).1 h i h2 h1
  obtain ⟨j, hj⟩ := Int.eq_ofNat_of_zero_le (show 0 ≤ lst p q n by omega)
  have hj' : lst p q n = (j : Int) := hj
  obtain ⟨a1, a2, a3⟩ := lst_some p q n j hj'
  rw [hj']
  by_cases c : i < j
  · exact absurd a1 (h3 j c a2)
  · by_cases c2 : j < i
    · exact absurd h1 (a3 i c2 h2)
    · omega
theorem fst_eq {p : Nat → Int} {q : Int} {n i : Nat} (h1 : p i = q) (h2 : i < n) : fst p q n = i ↔ ∀ m, m < i → p m ≠ q := by
  refine ⟨fun h => (fst_some p q n i h).2.2, fun h3 => ?_⟩
  have hr := fst_range p q n
  have hn : ¬ fst p q n < 0 := fun h => (fst_neg p q n).1 h i h2 h1
  obtain ⟨j, hj⟩ := Int.eq_ofNat_of_zero_le (show 0 ≤ fst p q n by omega)
  have hj' : fst p q n = (j : Int) := hj
  obtain ⟨a1, a2, a3⟩ := fst_some p q n j hj'
  rw [hj']
  by_cases c : i < j
  · exact absurd h1 (a3 i c)
  · by_cases c2 : j < i
    · exact absurd a2 (h3 j c2)
    · omega
theorem ro_eq {p : Nat → Int} (hp : ∀ i, -1 ≤ p i ∧ p i < i) : ∀ n : Nat, ro p n = (fst p (-1) n, lst p (-1) n)
  | 0 => rfl
  | n + 1 => by
    have := hp n
    rw [ro, ro_eq hp n, fst, lst]
    have hr := fst_range p (-1) n
    by_cases e : p n < 0
    · rw [if_pos e, if_pos (show p n = -1 by omega), if_pos (show p n = -1 by omega)]
      by_cases z : fst p (-1) n < 0
      · rw [if_pos z, if_neg (by omega)]
      · rw [if_neg z, if_pos (by omega)]
    · rw [if_neg e, if_neg (show ¬ p n = -1 by omega), if_neg (show ¬ p n = -1 by omega)]
      by_cases z : 0 ≤ fst p (-1) n
      · rw [if_pos z]
      · rw [if_neg z, show fst p (-1) n = -1 by omega]
theorem bne_same {a b c d : Int} (h : a = b ↔ c = d) : ((a == b) != (c == d)) = false := by
  by_cases e : a = b
  · rw [beq_iff_eq.2 e, beq_iff_eq.2 (h.1 e)]; rfl
  · rw [beq_eq_false_iff_ne.2 e, beq_eq_false_iff_ne.2 (fun q => e (h.2 q))]; rfl

theorem up_eq {l : List Int} {v q : Int} {n : Nat} (h0 : -1 ≤ q) (h1 : q < n) (h2 : 0 ≤ q → rd l q < v) (h3 : ∀ m : Nat, q < m → m < n → v ≤ rd l (m : Int)) : up l v n = q := by
  have hr := up_range l v n
  have hl := up_low l v n
  by_cases a : up l v n < q
  · obtain ⟨b, hb⟩ := Int.eq_ofNat_of_zero_le (show 0 ≤ q by omega)
    have hb' : q = (b : Int) := hb
    have := up_high l v n b (by omega) (by omega)
    have := h2 (by omega)
    rw [hb'] at this
    omega
  · by_cases c : q < up l v n
    · obtain ⟨b, hb⟩ := Int.eq_ofNat_of_zero_le (show 0 ≤ up l v n by omega)
      have hb' : up l v n = (b : Int) := hb
      have h5 := hl (by omega)
      rw [hb'] at h5
      have := h3 b (by omega) (by omega)
      omega
    · omega
theorem par_ge {l : List Int} {u m : Nat} (h : u < m) (hv : rd l (u : Int) < rd l (m : Int)) : (u : Int) ≤ par l m := by
  by_cases c : par l m < u
  · have := up_high l (rd l (m : Int)) m u c h
    omega
  · omega
theorem par_lower {l : List Int} {m : Nat} (h : 0 ≤ par l m) : rd l (par l m) < rd l (m : Int) := up_low l _ m h
theorem fst_next {l : List Int} {N i : Nat} (h : 0 ≤ fst (par l) (i : Int) N) : fst (par l) (i : Int) N = ((i + 1 : Nat) : Int) ∧ i + 1 < N := by
  obtain ⟨c, hc⟩ := Int.eq_ofNat_of_zero_le h
  have hc' : fst (par l) (i : Int) N = (c : Int) := hc
  obtain ⟨a1, a2, a3⟩ := fst_some (par l) (i : Int) N c hc'
  have hr := par_range l c
  have hlow := par_lower (l := l) (m := c) (by omega)
  rw [a2] at hlow
  by_cases e : c = i + 1
  · subst e
    exact ⟨hc', a1⟩
  · have hh := up_high l (rd l (c : Int)) c (i + 1) (show par l c < ((i + 1 : Nat) : Int) by omega) (by omega)
    have := par_ge (l := l) (u := i) (m := i + 1) (by omega) (by omega)
    have hr2 := par_range l (i + 1)
    exact absurd (show par l (i + 1) = (i : Int) by omega) (a3 (i + 1) (by omega))
theorem leaf_low {l : List Int} {N i : Nat} (h : fst (par l) (i : Int) N < 0) (hi : i + 1 < N) : rd l ((i + 1 : Nat) : Int) ≤ rd l (i : Int) := by
  by_cases c : rd l (i : Int) < rd l ((i + 1 : Nat) : Int)
  · have := par_ge (l := l) (u := i) (m := i + 1) (by omega) c
    have hr2 := par_range l (i + 1)
    exact absurd (show par l (i + 1) = (i : Int) by omega) ((fst_neg (par l) (i : Int) N).1 h (i + 1) hi)
  · omega
/-- Where the reader goes behind i. -/
def tgt (N i : Nat) : Int := if i + 1 < N then ((i + 1 : Nat) : Int) else -1
section
variable (l : List Int) (hl : l.length ≤ 60) (i : Nat) (hi : i < l.length) (tot : Int)
include hl hi
theorem out_l0 (k : Nat) (up s : Int) : colophonlaw29_AnchorsReach.j4 (k + 1) (mk (kn (par l) l.length) l.length) (l.length : Int) tot (i : Int) (tgt l.length i) up s false = colophonlaw29_AnchorsReach.l0 k (mk (kn (par l) l.length) l.length) (l.length : Int) (tgt l.length i) tot ((i + 1 : Nat) : Int) := by
  have hi1 : wrap64 ((i : Int) + 1) = ((i + 1 : Nat) : Int) := by rw [w_in (by omega)]; omega
  have ht : -1 ≤ tgt l.length i ∧ tgt l.length i < l.length := by unfold tgt; split <;> omega
  rw [colophonlaw29_AnchorsReach.j4, if_neg (by decide), if_neg (by omega), if_neg (by omega), hi1]
theorem climb : ∀ (b k : Nat) (u s : Int), u < b → -1 ≤ u → u ≤ i → (∀ m : Nat, 0 ≤ u → u < m → m ≤ i → rd l u < rd l (m : Int)) → (u = -1 → i + 1 = l.length) → (0 ≤ u → i + 1 < l.length → rd l ((i + 1 : Nat) : Int) ≤ rd l u) → 0 ≤ s → s + u ≤ i → 2 * b + 4 ≤ k →
    ∃ k', k ≤ k' + 2 * b + 4 ∧ colophonlaw29_AnchorsReach.l1 k (mk (kn (par l) l.length) l.length) (l.length : Int) tot (i : Int) (-1) u s = colophonlaw29_AnchorsReach.l0 k' (mk (kn (par l) l.length) l.length) (l.length : Int) (tgt l.length i) tot ((i + 1 : Nat) : Int) := by
  have hp := par_range l
  have top : ∀ (k : Nat) (s : Int), i + 1 = l.length → colophonlaw29_AnchorsReach.l1 (k + 2) (mk (kn (par l) l.length) l.length) (l.length : Int) tot (i : Int) (-1) (-1) s = colophonlaw29_AnchorsReach.l0 k (mk (kn (par l) l.length) l.length) (l.length : Int) (tgt l.length i) tot ((i + 1 : Nat) : Int) := by
    intro k s h
    have ht : tgt l.length i = -1 := by unfold tgt; rw [if_neg (by omega)]
    have := out_l0 l hl i hi tot k (-1) s
    rw [ht] at this ⊢
    rw [colophonlaw29_AnchorsReach.l1, if_pos rfl, if_pos rfl, this]
  intro b
  induction b with
  | zero =>
    intro k u s hu h0 _ _ h1 _ _ _ hk
    obtain ⟨k, rfl⟩ : ∃ m, k = m + 2 := ⟨k - 2, by omega⟩
    obtain rfl : u = -1 := by omega
    exact ⟨k, by omega, top k s (h1 rfl)⟩
  | succ b ih =>
    intro k u s hu h0 hui hC h1 hL hs hsu hk
    by_cases z : u = -1
    · subst z
      obtain ⟨k, rfl⟩ : ∃ m, k = m + 2 := ⟨k - 2, by omega⟩
      exact ⟨k, by omega, top k s (h1 rfl)⟩
    · obtain ⟨a, ha⟩ := Int.eq_ofNat_of_zero_le (show 0 ≤ u by omega)
      obtain rfl : u = (a : Int) := ha
      obtain ⟨k, rfl⟩ : ∃ m, k = m + 2 := ⟨k - 2, by omega⟩
      have hpa := hp a
      have hs1 : wrap64 (s + 1) = s + 1 := w_in (by omega)
      have hva : rd_T27 (mk (kn (par l) l.length) l.length) (a : Int) = kn (par l) l.length a := rdT_mk _ _ (by omega)
      have e0 : (kn (par l) l.length a).f0 = par l a := rfl
      have e2 : (kn (par l) l.length a).f2 = nxt (par l) a l.length := rfl
      have hgo : colophonlaw29_AnchorsReach.l1 (k + 2) (mk (kn (par l) l.length) l.length) (l.length : Int) tot (i : Int) (-1) (a : Int) s = colophonlaw29_AnchorsReach.l1 k (mk (kn (par l) l.length) l.length) (l.length : Int) tot (i : Int) (nxt (par l) a l.length) (par l a) (s + 1) := by
        rw [colophonlaw29_AnchorsReach.l1, if_pos rfl, if_neg (by omega), decide_eq_true (show s ≤ (l.length : Int) by omega), colophonlaw29_AnchorsReach.j4, if_pos rfl, if_pos (by omega), if_pos (by rw [mk_len]; omega), hva, e0, e2, if_neg (by omega), if_neg (by omega), hs1]
      have hnr := nxt_range (par l) a l.length
      have hC' : ∀ m : Nat, 0 ≤ par l a → par l a < m → m ≤ i → rd l (par l a) < rd l (m : Int) := by
        intro m g0 g1 g2
        have hlow := par_lower g0
        by_cases c1 : m < a
        · have := up_high l (rd l (a : Int)) a m g1 c1
          omega
        · by_cases c2 : m = a
          · rw [c2]; exact hlow
          · have := hC m (by omega) (by omega) g2
            omega
      have hmid : ∀ m : Nat, a < m → m ≤ i → par l m ≠ par l a := by
        intro m g1 g2
        have := hC m (by omega) (by omega) g2
        have := par_ge g1 this
        omega
      by_cases q : i + 1 < l.length
      · have hLa := hL (by omega) q
        by_cases c : 0 ≤ par l a ∧ rd l ((i + 1 : Nat) : Int) ≤ rd l (par l a)
        · have hn : nxt (par l) a l.length = -1 := by
            have := (nxt_neg (par l) a l.length).2 (fun m g1 g2 => by
              by_cases d1 : m ≤ i
              · exact hmid m g1 d1
              · intro e
                by_cases d2 : m = i + 1
                · subst d2
                  have := par_lower (l := l) (m := i + 1) (by omega)
                  rw [e] at this
                  omega
                · have h5 := par_lower (l := l) (m := m) (by omega)
                  rw [e] at h5
                  have := par_ge (l := l) (u := i + 1) (m := m) (by omega) (by omega)
                  omega)
            omega
          obtain ⟨k', g1, g2⟩ := ih k (par l a) (s + 1) (by omega) hpa.1 (by omega) hC' (by omega) (fun _ _ => c.2) (by omega) (by omega) (by omega)
          refine ⟨k', by omega, ?_⟩
          rw [hgo, hn, g2]
        · have hpe : par l (i + 1) = par l a := by
            refine up_eq hpa.1 (by omega) (fun g0 => ?_) (fun m g1 g2 => ?_)
            · by_cases d : rd l ((i + 1 : Nat) : Int) ≤ rd l (par l a)
              · exact absurd ⟨g0, d⟩ c
              · omega
            · by_cases c1 : m < a
              · have := up_high l (rd l (a : Int)) a m g1 c1
                omega
              · by_cases c2 : m = a
                · rw [c2]; exact hLa
                · have := hC m (by omega) (by omega) (by omega)
                  omega
          have hn : nxt (par l) a l.length = ((i + 1 : Nat) : Int) := by
            have hne : ¬ nxt (par l) a l.length < 0 := fun h => (nxt_neg (par l) a l.length).1 h (i + 1) (by omega) q hpe
            obtain ⟨j, hj⟩ := Int.eq_ofNat_of_zero_le (show 0 ≤ nxt (par l) a l.length by omega)
            have hj' : nxt (par l) a l.length = (j : Int) := hj
            obtain ⟨b1, b2, b3, b4⟩ := nxt_some (par l) a l.length j hj'
            rw [hj']
            by_cases d : j ≤ i
            · exact absurd b3 (hmid j b1 d)
            · by_cases d2 : i + 1 < j
              · exact absurd hpe (b4 (i + 1) (by omega) d2)
              · omega
          have ht : tgt l.length i = ((i + 1 : Nat) : Int) := by unfold tgt; rw [if_pos q]
          obtain ⟨k, rfl⟩ : ∃ m, k = m + 2 := ⟨k - 2, by omega⟩
          refine ⟨k, by omega, ?_⟩
          have := out_l0 l hl i hi tot k (par l a) (s + 1)
          rw [ht] at this ⊢
          rw [hgo, hn, colophonlaw29_AnchorsReach.l1, if_neg (by omega), this]
      · have hn : nxt (par l) a l.length = -1 := by
          have := (nxt_neg (par l) a l.length).2 (fun m g1 g2 => hmid m g1 (by omega))
          omega
        obtain ⟨k', g1, g2⟩ := ih k (par l a) (s + 1) (by omega) hpa.1 (by omega) hC' (by omega) (fun _ h => absurd h q) (by omega) (by omega) (by omega)
        refine ⟨k', by omega, ?_⟩
        rw [hgo, hn, g2]
theorem from_first (k : Nat) (hk : 200 ≤ k) : ∃ k', k ≤ k' + 200 ∧ colophonlaw29_AnchorsReach.j2 k (mk (kn (par l) l.length) l.length) (l.length : Int) (i : Int) tot (i : Int) = colophonlaw29_AnchorsReach.l0 k' (mk (kn (par l) l.length) l.length) (l.length : Int) (tgt l.length i) tot ((i + 1 : Nat) : Int) := by
  obtain ⟨k, rfl⟩ : ∃ m, k = m + 3 := ⟨k - 3, by omega⟩
  have hv : rd_T27 (mk (kn (par l) l.length) l.length) (i : Int) = kn (par l) l.length i := rdT_mk _ _ hi
  have e3 : (kn (par l) l.length i).f3 = fst (par l) (i : Int) l.length := rfl
  have hfr := fst_range (par l) (i : Int) l.length
  have hstep : colophonlaw29_AnchorsReach.j2 (k + 3) (mk (kn (par l) l.length) l.length) (l.length : Int) (i : Int) tot (i : Int) = colophonlaw29_AnchorsReach.l1 (k + 2) (mk (kn (par l) l.length) l.length) (l.length : Int) tot (i : Int) (fst (par l) (i : Int) l.length) (i : Int) 0 := by
    rw [colophonlaw29_AnchorsReach.j2, if_pos (by omega), if_pos (by rw [mk_len]; omega), hv, e3]
  by_cases z : 0 ≤ fst (par l) (i : Int) l.length
  · obtain ⟨f1, f2⟩ := fst_next z
    have ht : tgt l.length i = ((i + 1 : Nat) : Int) := by unfold tgt; rw [if_pos f2]
    refine ⟨k, by omega, ?_⟩
    have := out_l0 l hl i hi tot k (i : Int) 0
    rw [ht] at this ⊢
    rw [hstep, f1, colophonlaw29_AnchorsReach.l1, if_neg (by omega), this]
  · have hf : fst (par l) (i : Int) l.length = -1 := by omega
    obtain ⟨k', g1, g2⟩ := climb l hl i hi tot (i + 1) (k + 2) (i : Int) 0 (by omega) (by omega) (by omega) (fun m _ h2 h3 => by omega) (by omega) (fun _ h => leaf_low (by omega) h) (by omega) (by omega) (by omega)
    refine ⟨k', by omega, ?_⟩
    rw [hstep, hf, g2]
end
theorem reach_l0 (l : List Int) (hl : l.length ≤ 60) : ∀ (d k i : Nat), i + d = l.length → 0 < l.length → 300 * d + 100 ≤ k → colophonlaw29_AnchorsReach.l0 k (mk (kn (par l) l.length) l.length) (l.length : Int) (if i < l.length then (i : Int) else -1) (sumc (fun c => if par l c = -1 then 1 + desc (par l) l.length (c : Int) else 0) i) (i : Int) = some true := by
  have hp := par_range l
  intro d
  induction d with
  | zero =>
    intro k i hd hN hk
    obtain ⟨k, rfl⟩ : ∃ m, k = m + 1 := ⟨k - 1, by omega⟩
    obtain rfl : i = l.length := by omega
    rw [← desc_children hp, desc_all hp, if_neg (Nat.lt_irrefl _), colophonlaw29_AnchorsReach.l0, if_neg (by omega), if_pos rfl, if_pos rfl, wakes_k k (by omega)]
    rfl
  | succ d ih =>
    intro k i hd hN hk
    obtain ⟨k, rfl⟩ : ∃ m, k = m + 1 := ⟨k - 1, by omega⟩
    have hi : i < l.length := by omega
    have hv : rd_T27 (mk (kn (par l) l.length) l.length) (i : Int) = kn (par l) l.length i := rdT_mk _ _ hi
    have e0 : (kn (par l) l.length i).f0 = par l i := rfl
    have e5 : (kn (par l) l.length i).f5 = desc (par l) l.length (i : Int) := rfl
    have hd1 := desc_range hp l.length (i : Int) (by omega)
    have hpart := sumc_part hp l.length (-1) i (by omega)
    rw [← desc_children hp, desc_all hp] at hpart
    have hw1 : wrap64 (desc (par l) l.length (i : Int) + 1) = desc (par l) l.length (i : Int) + 1 := w_in (by omega)
    have hw2 : wrap64 (sumc (fun c => if par l c = -1 then 1 + desc (par l) l.length (c : Int) else 0) i + (desc (par l) l.length (i : Int) + 1)) = sumc (fun c => if par l c = -1 then 1 + desc (par l) l.length (c : Int) else 0) i + (desc (par l) l.length (i : Int) + 1) := w_in (by omega)
    have ht : tgt l.length i = if i + 1 < l.length then ((i + 1 : Nat) : Int) else -1 := rfl
    have hstep : colophonlaw29_AnchorsReach.l0 (k + 1) (mk (kn (par l) l.length) l.length) (l.length : Int) (if i < l.length then (i : Int) else -1) (sumc (fun c => if par l c = -1 then 1 + desc (par l) l.length (c : Int) else 0) i) (i : Int) = colophonlaw29_AnchorsReach.j2 k (mk (kn (par l) l.length) l.length) (l.length : Int) (i : Int) (sumc (fun c => if par l c = -1 then 1 + desc (par l) l.length (c : Int) else 0) (i + 1)) (i : Int) := by
      rw [if_pos hi, colophonlaw29_AnchorsReach.l0, if_pos (by omega), if_pos rfl, if_pos (by omega), if_pos (by rw [mk_len]; omega), hv, e0, e5, hw1, hw2, sumc]
      by_cases e : par l i = -1
      · rw [if_pos e, if_pos e, Int.add_comm (desc (par l) l.length (i : Int)) 1]
      · rw [if_neg e, if_neg e, Int.add_zero]
    obtain ⟨k', g1, g2⟩ := from_first l hl i hi (sumc (fun c => if par l c = -1 then 1 + desc (par l) l.length (c : Int) else 0) (i + 1)) k (by omega)
    rw [hstep, g2, ht]
    exact ih k' (i + 1) (by omega) hN (by omega)
theorem pureK (K : Nat) (hK : 600000 ≤ K) (l : List Int) (hl : l.length * 8 ≤ 140737488351232) : colophonlaw29_AnchorsReach.f K l = some true := by
  have h60 : (l.take 60).length ≤ 60 := by rw [List.length_take]; omega
  unfold colophonlaw29_AnchorsReach.f
  rw [ints_f l (by omega), Option.bind_some, knots_f K (by omega) _ h60, Option.bind_some, roots_f K (by omega) _ h60, Option.bind_some, if_pos (by rw [mk_len]), ro_eq (par_range _), if_pos rfl]
  generalize l.take 60 = a at h60
  obtain ⟨K, rfl⟩ : ∃ m, K = m + 1 := ⟨K - 1, by omega⟩
  have hp := par_range a
  simp only []
  by_cases z : a.length = 0
  · have h1 := fst_range (par a) (-1) a.length
    have h2 := lst_range (par a) (-1) a.length
    have hA : (((a.length : Int) == 0) != (fst (par a) (-1) a.length == -1)) = false := bne_same (by omega)
    have hB : (((a.length : Int) == 0) != (lst (par a) (-1) a.length == -1)) = false := bne_same (by omega)
    rw [hA, hB, if_neg (by decide), colophonlaw29_AnchorsReach.j0, if_neg (by decide), if_pos (by omega), wakes_k K (by omega)]
    rfl
  · have hp0 : par a 0 = -1 := by have := hp 0; omega
    have hf : fst (par a) (-1) a.length = 0 := (fst_eq (i := 0) hp0 (by omega)).2 (fun m h => by omega)
    have hl2 : ¬ lst (par a) (-1) a.length < 0 := fun h => (lst_neg (par a) (-1) a.length).1 h 0 (by omega) hp0
    have hA : (((a.length : Int) == 0) != (fst (par a) (-1) a.length == -1)) = false := bne_same (by omega)
    have hB : (((a.length : Int) == 0) != (lst (par a) (-1) a.length == -1)) = false := bne_same (by omega)
    rw [hA, hB, if_neg (by decide), colophonlaw29_AnchorsReach.j0, if_neg (by decide), if_neg (by omega), hf]
    have := reach_l0 a h60 a.length K 0 (by omega) (by omega) (by omega)
    rw [if_pos (by omega)] at this
    exact this
theorem pure (l : List Int) (hl : l.length * 8 ≤ 140737488351232) : ∃ k, colophonlaw29_AnchorsReach.f k l = some true := ⟨600000, pureK 600000 (Nat.le_refl _) l hl⟩

end Go.Proofs.Ytdoponngnjmkkaa.PureAnchorsReach
