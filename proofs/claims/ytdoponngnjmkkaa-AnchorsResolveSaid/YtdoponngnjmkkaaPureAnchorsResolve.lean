/- The plain law of AnchorsResolve: what links lead to is what the reference says, for all lists of names. -/
import Derived.Test.YtdoponngnjmkkaaPAnchorsResolvex5
namespace Go.Proofs.Ytdoponngnjmkkaa.PureAnchorsResolve
open Go.RowKit Go.Proofs.Ytdoponngnjmkkaa.PAnchorsResolve Go.Proofs.YtdoponngnjmkkaaW.PrintWords Go.Proofs.YtdoponngnjmkkaaW.PrintLast Go.Proofs.YtdoponngnjmkkaaW.PrintMore
theorem w_in {e : Int} (h : -9223372036854775808 ≤ e ∧ e ≤ 9223372036854775807) : wrap64 e = e := by unfold wrap64; omega
theorem wakes_f : colophonlaw29_wakes.f 40 = some true := by decide +kernel
theorem wakes_k (k : Nat) (hk : 40 ≤ k) : colophonlaw29_wakes.f k = some true := at_rounds (g := fun k => colophonlaw29_wakes.f k) colophonlaw29_wakes.mono hk wakes_f

abbrev nm (l : List ByteArray) (i : Int) : ByteArray := rdOf ByteArray.empty l i
theorem list_inj {a b : ByteArray} : a.toList = b.toList ↔ a = b := by
  rw [Go.ByteArray.toList_eq, Go.ByteArray.toList_eq]
  exact ⟨fun h => ByteArray.ext (Array.toList_inj.1 h), fun h => by rw [h]⟩
/-- One more than the first place of s among the first i, or 0. -/
def pos (l : List ByteArray) (s : ByteArray) : Nat → Int
  | 0 => 0
  | i + 1 => if pos l s i ≠ 0 then pos l s i else if nm l i = s then (i : Int) + 1 else 0
theorem pos_range (l : List ByteArray) (s : ByteArray) : ∀ i : Nat, 0 ≤ pos l s i ∧ pos l s i ≤ i
  | 0 => ⟨Int.le_refl _, Int.le_refl _⟩
  | i + 1 => by
    have := pos_range l s i
    rw [pos]
    split
    · omega
    · split <;> omega
theorem pos_stay (l : List ByteArray) (s : ByteArray) (i : Nat) (h : pos l s i ≠ 0) : ∀ d, pos l s (i + d) = pos l s i
  | 0 => rfl
  | d + 1 => by
    have := pos_stay l s i h d
    rw [← Nat.add_assoc, pos, this, if_pos h]
theorem nm_mem {l : List ByteArray} {i : Int} (h0 : 0 ≤ i) (h1 : i < l.length) : nm l i ∈ l := by
  unfold nm rdOf
  have h : i.toNat < l.length := by omega
  simp [List.getD, h]
theorem mget_put (m : List S72) (s : ByteArray) (c : Int) (t : ByteArray) : mget72 ((⟨s, c⟩ : S72) :: m) t = if s = t then c else mget72 m t := by
  unfold mget72
  rw [List.map_cons, Go.Proofs.YtdoponngnjmkkaaM.mget]
theorem resolve_l0 (l : List ByteArray) (hl : l.length ≤ 300) (hs : ∀ x ∈ l, x.size ≤ 140737488351232) (ws : List ByteArray) : ∀ (d k : Nat) (m : List S72) (i : Nat), i + d = l.length → m.length ≤ i → (∀ s, mget72 m s = pos l s i) → d + 1 ≤ k →
    ∃ (m' : List S72) (k' : Nat), k ≤ k' + d + 1 ∧ (∀ s, mget72 m' s = pos l s l.length) ∧ anchors_Resolve.l0 k ws m l (l.length : Int) (i : Int) = anchors_Resolve.l1 k' m' [] ws (ws.length : Int) 0 := by
  intro d
  induction d with
  | zero =>
    intro k m i hd hm hg hk
    obtain ⟨k, rfl⟩ : ∃ n, k = n + 1 := ⟨k - 1, by omega⟩
    obtain rfl : i = l.length := by omega
    refine ⟨m, k, by omega, hg, ?_⟩
    rw [anchors_Resolve.l0, if_neg (by omega)]
  | succ d ih =>
    intro k m i hd hm hg hk
    obtain ⟨k, rfl⟩ : ∃ n, k = n + 1 := ⟨k - 1, by omega⟩
    have hi1 : wrap64 ((i : Int) + 1) = ((i + 1 : Nat) : Int) := by rw [w_in (by omega)]; omega
    have hsz : (nm l i).size ≤ 9223372036854775807 := by
      have := hs _ (nm_mem (l := l) (i := i) (by omega) (by omega))
      omega
    by_cases hz : mget72 m (nm l i) = 0
    · have hu : anchors_Resolve.l0 (k + 1) ws m l (l.length : Int) (i : Int) = anchors_Resolve.l0 k ws ((⟨nm l i, ((i + 1 : Nat) : Int)⟩ : S72) :: m) l (l.length : Int) ((i + 1 : Nat) : Int) := by
        rw [anchors_Resolve.l0, if_pos (show (i : Int) < (l.length : Int) by omega), if_pos (show 0 ≤ (i : Int) by omega), if_pos (show (i : Int) < (l.length : Int) by omega), if_pos hsz, if_pos hz, if_pos (show m.length < 9223372036854775807 by omega), hi1]
      have hnext : ∀ s, mget72 ((⟨nm l i, ((i + 1 : Nat) : Int)⟩ : S72) :: m) s = pos l s (i + 1) := by
        intro s
        rw [mget_put, pos, ← hg]
        by_cases e : nm l i = s
        · subst e
          rw [if_pos rfl, hz, if_neg (by simp), if_pos rfl]
          omega
        · rw [if_neg e]
          by_cases z : mget72 m s = 0
          · rw [if_neg (by simpa using z), if_neg e, z]
          · rw [if_pos z]
      obtain ⟨m', k', h1, h2, h3⟩ := ih k _ (i + 1) (by omega) (by simp; omega) hnext (by omega)
      exact ⟨m', k', by omega, h2, hu.trans h3⟩
    · have hu : anchors_Resolve.l0 (k + 1) ws m l (l.length : Int) (i : Int) = anchors_Resolve.l0 k ws m l (l.length : Int) ((i + 1 : Nat) : Int) := by
        rw [anchors_Resolve.l0, if_pos (show (i : Int) < (l.length : Int) by omega), if_pos (show 0 ≤ (i : Int) by omega), if_pos (show (i : Int) < (l.length : Int) by omega), if_pos hsz, if_neg hz, hi1]
      have hnext : ∀ s, mget72 m s = pos l s (i + 1) := by
        intro s
        rw [pos, ← hg]
        by_cases z : mget72 m s = 0
        · rw [if_neg (by simpa using z), if_neg (fun e => hz (by rw [e]; exact z)), z]
        · rw [if_pos z]
      obtain ⟨m', k', h1, h2, h3⟩ := ih k _ (i + 1) (by omega) (by omega) hnext (by omega)
      exact ⟨m', k', by omega, h2, hu.trans h3⟩
/-- The reference's search. -/
theorem ref_l1 (l : List ByteArray) (hl : l.length ≤ 300) (ws : List ByteArray) (w : Int) (h0 : 0 ≤ w) (hw : w < ws.length) (x : List Int) (hx : x.length < 17592186044416) : ∀ (d k j : Nat), j + d = l.length → pos l (nm ws w) j = 0 → d + 1 ≤ k →
    ∃ k', k ≤ k' + d + 1 ∧ colophonref29_Resolve.l1 k l ws x w (j : Int) = if pos l (nm ws w) l.length = 0 then some (([] : List Int), w, 290) else colophonref29_Resolve.l0 k' l ws (x ++ [pos l (nm ws w) l.length - 1]) (wrap64 (w + 1)) := by
  intro d
  induction d with
  | zero =>
    intro k j hd hp hk
    obtain ⟨k, rfl⟩ : ∃ n, k = n + 1 := ⟨k - 1, by omega⟩
    obtain rfl : j = l.length := by omega
    refine ⟨k, by omega, ?_⟩
    rw [colophonref29_Resolve.l1, if_neg (by omega), if_pos rfl, if_pos hp]
  | succ d ih =>
    intro k j hd hp hk
    obtain ⟨k, rfl⟩ : ∃ n, k = n + 1 := ⟨k - 1, by omega⟩
    have hj1 : wrap64 ((j : Int) + 1) = ((j + 1 : Nat) : Int) := by rw [w_in (by omega)]; omega
    by_cases e : nm l j = nm ws w
    · have hq : pos l (nm ws w) (j + 1) = (j : Int) + 1 := by rw [pos, if_neg (by simpa using hp), if_pos e]
      have hn : pos l (nm ws w) l.length = (j : Int) + 1 := by
        have := pos_stay l (nm ws w) (j + 1) (by rw [hq]; omega) d
        rw [show j + 1 + d = l.length by omega] at this
        rw [this, hq]
      refine ⟨k, by omega, ?_⟩
      rw [colophonref29_Resolve.l1, if_pos (by omega), if_pos (by omega), if_pos h0, if_pos hw, if_pos (list_inj.2 e), if_neg (by omega), if_pos hx, hn, if_neg (by omega)]
      rw [show (j : Int) + 1 - 1 = j by omega]
    · have hq : pos l (nm ws w) (j + 1) = 0 := by rw [pos, if_neg (by simpa using hp), if_neg e]
      obtain ⟨k', h1, h2⟩ := ih k (j + 1) (by omega) hq (by omega)
      refine ⟨k', by omega, ?_⟩
      rw [← h2, colophonref29_Resolve.l1, if_pos (by omega), if_pos (by omega), if_pos h0, if_pos hw, if_neg (fun h => e (list_inj.1 h)), hj1]
theorem wants (l : List ByteArray) (hl : l.length ≤ 300) (ws : List ByteArray) (hws : ws.length ≤ 300) (hs : ∀ x ∈ ws, x.size ≤ 140737488351232) (m : List S72) (hm : ∀ s, mget72 m s = pos l s l.length) :
    ∀ (d ka kr : Nat) (x : List Int) (w : Int), 0 ≤ w → w + d = (ws.length : Int) → (x.length : Int) = w → d + 1 ≤ ka → 303 * d + 1 ≤ kr →
    ∃ r, anchors_Resolve.l1 ka m x ws (ws.length : Int) w = some r ∧ colophonref29_Resolve.l0 kr l ws x w = some r ∧ r.1.length ≤ 300 := by
  intro d
  induction d with
  | zero =>
    intro ka kr x w h0 hd hx hka hkr
    obtain ⟨ka, rfl⟩ : ∃ n, ka = n + 1 := ⟨ka - 1, by omega⟩
    obtain ⟨kr, rfl⟩ : ∃ n, kr = n + 1 := ⟨kr - 1, by omega⟩
    refine ⟨(x, 0, 0), ?_, ?_, by show x.length ≤ 300; omega⟩
    · rw [anchors_Resolve.l1, if_neg (by omega)]
    · rw [colophonref29_Resolve.l0, if_neg (by omega)]
  | succ d ih =>
    intro ka kr x w h0 hd hx hka hkr
    obtain ⟨ka, rfl⟩ : ∃ n, ka = n + 1 := ⟨ka - 1, by omega⟩
    obtain ⟨kr, rfl⟩ : ∃ n, kr = n + 1 := ⟨kr - 1, by omega⟩
    have hw1 : wrap64 (w + 1) = w + 1 := w_in (by omega)
    have hsz : (nm ws w).size ≤ 9223372036854775807 := by
      have := hs _ (nm_mem (l := ws) (i := w) (by omega) (by omega))
      omega
    have hpr := pos_range l (nm ws w) l.length
    have hp1 : wrap64 (pos l (nm ws w) l.length - 1) = pos l (nm ws w) l.length - 1 := w_in (by omega)
    have hlt : w < (ws.length : Int) := by omega
    obtain ⟨k', h1, h2⟩ := ref_l1 l hl ws w h0 hlt x (by omega) l.length kr 0 (by omega) rfl (by omega)
    have hr : colophonref29_Resolve.l0 (kr + 1) l ws x w = if pos l (nm ws w) l.length = 0 then some (([] : List Int), w, 290) else colophonref29_Resolve.l0 k' l ws (x ++ [pos l (nm ws w) l.length - 1]) (wrap64 (w + 1)) := by
      rw [colophonref29_Resolve.l0, if_pos hlt]
      exact h2
    have hu : anchors_Resolve.l1 (ka + 1) m x ws (ws.length : Int) w = if pos l (nm ws w) l.length = 0 then some (([] : List Int), w, 290) else anchors_Resolve.l1 ka m (x ++ [pos l (nm ws w) l.length - 1]) ws (ws.length : Int) (w + 1) := by
      have hmg : mget72 m (rdOf ByteArray.empty ws w) = pos l (nm ws w) l.length := hm _
      rw [anchors_Resolve.l1, if_pos hlt, if_pos h0, if_pos hlt, if_pos hsz, hmg, hp1, hw1, if_pos (show x.length < 17592186044416 by omega)]
    rw [hr, hu]
    by_cases z : pos l (nm ws w) l.length = 0
    · rw [if_pos z, if_pos z]
      exact ⟨_, rfl, rfl, by show (0 : Nat) ≤ 300; omega⟩
    · rw [if_neg z, if_neg z, hw1]
      exact ih ka k' _ (w + 1) (by omega) (by omega) (by simp; omega) (by omega) (by omega)
theorem same_l0 (x : List Int) (hx : x.length ≤ 300) : ∀ (d k : Nat) (n : Int), 0 ≤ n → n + d = (x.length : Int) → d + 1 ≤ k → colophonkeep_Same.l0 k x x n = some true := by
  intro d
  induction d with
  | zero =>
    intro k n h0 hd hk
    obtain ⟨k, rfl⟩ : ∃ m, k = m + 1 := ⟨k - 1, by omega⟩
    rw [colophonkeep_Same.l0, if_neg (by omega)]
  | succ d ih =>
    intro k n h0 hd hk
    obtain ⟨k, rfl⟩ : ∃ m, k = m + 1 := ⟨k - 1, by omega⟩
    have hn1 : wrap64 (n + 1) = n + 1 := w_in (by omega)
    rw [colophonkeep_Same.l0, if_pos (show n < (x.length : Int) by omega), if_pos h0, if_pos (show n < (x.length : Int) by omega), if_pos rfl, hn1]
    exact ih k (n + 1) (by omega) (by omega) (by omega)
theorem texts_l0 (x : List ByteArray) (hx : x.length ≤ 300) : ∀ (d k : Nat) (n : Int), 0 ≤ n → n + d = (x.length : Int) → d + 1 ≤ k → colophonkeep_Texts.l0 k x x n = some true := by
  intro d
  induction d with
  | zero =>
    intro k n h0 hd hk
    obtain ⟨k, rfl⟩ : ∃ m, k = m + 1 := ⟨k - 1, by omega⟩
    rw [colophonkeep_Texts.l0, if_neg (by omega)]
  | succ d ih =>
    intro k n h0 hd hk
    obtain ⟨k, rfl⟩ : ∃ m, k = m + 1 := ⟨k - 1, by omega⟩
    have hn1 : wrap64 (n + 1) = n + 1 := w_in (by omega)
    rw [colophonkeep_Texts.l0, if_pos (show n < (x.length : Int) by omega), if_pos h0, if_pos (show n < (x.length : Int) by omega), if_pos rfl, hn1]
    exact ih k (n + 1) (by omega) (by omega) (by omega)
theorem copies_f (l : List ByteArray) (hl : l.length < 8796093022208) : colophonkeep_Copies.f l 300 = some (l.take 300) := by
  unfold colophonkeep_Copies.f
  have e : ((300 : Int)).toNat = 300 := rfl
  by_cases h : (l.length : Int) > 300
  · rw [if_pos h, if_pos (by omega), if_pos (by omega), Option.bind_some, e, List.nil_append]
    rw [if_pos (by rw [List.length_nil, List.length_take]; omega)]
  · rw [if_neg h, Option.bind_some, List.nil_append, if_pos (by rw [List.length_nil]; omega), List.take_of_length_le (by omega)]
theorem pureK (K : Nat) (hK : 100000 ≤ K) (l ws : List ByteArray) (hl : l.length * 16 ≤ 140737488351232) (hw : ws.length * 16 ≤ 140737488351232) (hs : ∀ x ∈ l, x.size ≤ 140737488351232) (hs2 : ∀ x ∈ ws, x.size ≤ 140737488351232) : colophonlaw29_AnchorsResolve.f K l ws = some true := by
  unfold colophonlaw29_AnchorsResolve.f
  rw [copies_f l (by omega), copies_f ws (by omega)]
  simp only [Option.bind_some]
  have ha : (l.take 300).length ≤ 300 := by rw [List.length_take]; omega
  have hb : (ws.take 300).length ≤ 300 := by rw [List.length_take]; omega
  have hsa : ∀ x ∈ l.take 300, x.size ≤ 140737488351232 := fun x hx => hs x (List.mem_of_mem_take hx)
  have hsb : ∀ x ∈ ws.take 300, x.size ≤ 140737488351232 := fun x hx => hs2 x (List.mem_of_mem_take hx)
  generalize l.take 300 = a at ha hsa
  generalize ws.take 300 = b at hb hsb
  obtain ⟨m, k', h1, h2, h3⟩ := resolve_l0 a ha hsa b a.length K [] 0 (by omega) (by simp) (fun s => rfl) (by omega)
  obtain ⟨r, h4, h5, h6⟩ := wants a ha b hb hsb m h2 b.length k' K [] 0 (by omega) (by omega) (by simp) (by omega) (by omega)
  have e1 : anchors_Resolve.f K a b = some r := h3.trans h4
  have e2 : colophonref29_Resolve.f K a b = some r := h5
  have e3 : colophonkeep_Same.f K r.1 r.1 = some true := by
    unfold colophonkeep_Same.f
    rw [if_pos rfl]
    exact same_l0 r.1 h6 r.1.length K 0 (by omega) (by omega) (by omega)
  have e4 : colophonkeep_Texts.f K a a = some true := by
    unfold colophonkeep_Texts.f
    rw [if_pos rfl]
    exact texts_l0 a ha a.length K 0 (by omega) (by omega) (by omega)
  simp only [e1, e2, e3, e4, Option.bind_some, if_true, wakes_k K (by omega)]
theorem pure (l ws : List ByteArray) (hl : l.length * 16 ≤ 140737488351232) (hw : ws.length * 16 ≤ 140737488351232) (hs : ∀ x ∈ l, x.size ≤ 140737488351232) (hs2 : ∀ x ∈ ws, x.size ≤ 140737488351232) : ∃ k, colophonlaw29_AnchorsResolve.f k l ws = some true :=
  ⟨100000, pureK 100000 (Nat.le_refl _) l ws hl hw hs hs2⟩

end Go.Proofs.Ytdoponngnjmkkaa.PureAnchorsResolve
