/- The plain law of AnchorsFrags: what a line shows of links is what the reference says, for all lines. -/
import Derived.Test.YtdoponngnjmkkaaPAnchorsFragsx7
namespace Go.Proofs.Ytdoponngnjmkkaa.PureAnchorsFrags
open Go.RowKit Go.Proofs.Ytdoponngnjmkkaa.PAnchorsFrags Go.Proofs.YtdoponngnjmkkaaW.PrintWords Go.Proofs.YtdoponngnjmkkaaW.PrintLast Go.Proofs.YtdoponngnjmkkaaW.PrintMore
theorem w_in {e : Int} (h : -9223372036854775808 ≤ e ∧ e ≤ 9223372036854775807) : wrap64 e = e := by unfold wrap64; omega
theorem wakes_f : colophonlaw29_wakes.f 40 = some true := by decide +kernel
theorem wakes_k (k : Nat) (hk : 40 ≤ k) : colophonlaw29_wakes.f k = some true := at_rounds (g := fun k => colophonlaw29_wakes.f k) colophonlaw29_wakes.mono hk wakes_f

theorem set_end {α : Type} (x : List α) (a b : α) : (x ++ [a]).set x.length b = x ++ [b] := by simp
theorem rd_end (x : List S42) (a : S42) : rd_T42 (x ++ [a]) (x.length : Int) = a := by
  unfold rd_T42
  simp
theorem frags_l0 (l : List S38) (hl : l.length ≤ 500) (a : Int) (b : Bool) : ∀ (d k : Nat) (x : List S42) (n ahead : Int), 0 ≤ n → n + d = (l.length : Int) → (x.length : Int) ≤ n → ahead = (if n = 0 then 0 else (rd_T38 l (n - 1)).f4) → (ahead ≠ 0 → 0 < x.length) → d + 1 ≤ k →
    ∃ r, anchors_Frags.l0 k x ahead l (l.length : Int) n = some r ∧ colophonref29_Frags.l0 k x n a b l = some r ∧ r.length ≤ 500 := by
  intro d
  induction d with
  | zero =>
    intro k x n ahead h0 hd hx ha hne hk
    obtain ⟨k, rfl⟩ : ∃ m, k = m + 1 := ⟨k - 1, by omega⟩
    refine ⟨x, ?_, ?_, by omega⟩
    · rw [anchors_Frags.l0, if_neg (by omega)]
    · rw [colophonref29_Frags.l0, if_neg (by omega)]
  | succ d ih =>
    intro k x n ahead h0 hd hx ha hne hk
    obtain ⟨k, rfl⟩ : ∃ m, k = m + 1 := ⟨k - 1, by omega⟩
    have hn1 : wrap64 (n + 1) = n + 1 := w_in (by omega)
    have hn0 : wrap64 (n - 1) = n - 1 := w_in (by omega)
    have hx1 : wrap64 ((x.length : Int) - 1) = (x.length : Int) - 1 := w_in (by omega)
    have hnext : (rd_T38 l n).f4 = (if n + 1 = 0 then 0 else (rd_T38 l (n + 1 - 1)).f4) := by
      rw [if_neg (by omega), Int.add_sub_cancel]
    by_cases hz : (rd_T38 l n).f4 = 0
    · have hu : anchors_Frags.l0 (k + 1) x ahead l (l.length : Int) n = anchors_Frags.l0 k x (rd_T38 l n).f4 l (l.length : Int) (n + 1) := by
        rw [anchors_Frags.l0, if_pos (show n < (l.length : Int) by omega), if_pos h0, if_pos (show n < (l.length : Int) by omega), if_pos hz, hn1]
      have hr : colophonref29_Frags.l0 (k + 1) x n a b l = colophonref29_Frags.l0 k x (n + 1) a b l := by
        rw [colophonref29_Frags.l0, if_pos (show n < (l.length : Int) by omega), if_pos h0, if_pos hz, hn1]
      rw [hu, hr]
      exact ih k x (n + 1) _ (by omega) (by omega) (by omega) hnext (fun h => absurd hz h) (by omega)
    · by_cases hs : (rd_T38 l n).f4 = ahead
      · have hn : n ≠ 0 := by
          intro e
          rw [e, if_pos rfl] at ha
          exact hz (hs.trans ha)
        have hxp : 0 < x.length := hne (fun e => hz (hs.trans e))
        have hpr : (rd_T38 l (n - 1)).f4 = (rd_T38 l n).f4 := by
          rw [hs, ha, if_neg hn]
        have hu : anchors_Frags.l0 (k + 1) x ahead l (l.length : Int) n = anchors_Frags.l0 k (x.set ((x.length : Int) - 1).toNat (⟨(rd_T42 x ((x.length : Int) - 1)).f0, (rd_T42 x ((x.length : Int) - 1)).f1, wrap64 ((rd_T38 l n).f0 + (rd_T38 l n).f1)⟩ : S42)) (rd_T38 l n).f4 l (l.length : Int) (n + 1) := by
          rw [anchors_Frags.l0, if_pos (show n < (l.length : Int) by omega), if_pos h0, if_pos (show n < (l.length : Int) by omega), if_neg hz, if_pos hs, hx1, hn1, if_pos (show 0 ≤ (x.length : Int) - 1 by omega), if_pos (show (x.length : Int) - 1 < (x.length : Int) by omega)]
        have hr : colophonref29_Frags.l0 (k + 1) x n a b l = colophonref29_Frags.l0 k (x.set ((x.length : Int) - 1).toNat (⟨(rd_T42 x ((x.length : Int) - 1)).f0, (rd_T42 x ((x.length : Int) - 1)).f1, wrap64 ((rd_T38 l n).f0 + (rd_T38 l n).f1)⟩ : S42)) (n + 1) a b l := by
          rw [colophonref29_Frags.l0, if_pos (show n < (l.length : Int) by omega), if_pos h0, if_neg hz, if_pos (show n > 0 by omega), hn0, hx1, hn1, if_pos (show 0 ≤ n - 1 by omega), if_pos (show n - 1 < (l.length : Int) by omega), if_pos hpr, if_pos (show 0 ≤ (x.length : Int) - 1 by omega), if_pos (show (x.length : Int) - 1 < (x.length : Int) by omega)]
        rw [hu, hr]
        exact ih k _ (n + 1) _ (by omega) (by omega) (by rw [List.length_set]; omega) hnext (fun _ => by rw [List.length_set]; exact hxp) (by omega)
      · have hlim : x.length < 5864062014805 := by omega
        have hy : ((x ++ [(⟨(rd_T38 l n).f4, (rd_T38 l n).f0, 0⟩ : S42)]).length : Int) - 1 = (x.length : Int) := by simp
        have hy1 : wrap64 ((x.length : Int)) = (x.length : Int) := w_in (by omega)
        have hlt : (x.length : Int) < ((x ++ [(⟨(rd_T38 l n).f4, (rd_T38 l n).f0, 0⟩ : S42)]).length : Int) := by simp; omega
        have hy2 : wrap64 (((x ++ [(⟨(rd_T38 l n).f4, (rd_T38 l n).f0, 0⟩ : S42)]).length : Int) - 1) = (x.length : Int) := by rw [hy, hy1]
        have h00 : 0 ≤ (x.length : Int) := Int.natCast_nonneg _
        have hnl : n < (l.length : Int) := by omega
        have hu0 : anchors_Frags.l0 (k + 1) x ahead l (l.length : Int) n = (some (x ++ [(⟨(rd_T38 l n).f4, (rd_T38 l n).f0, 0⟩ : S42)] : List (S42))).bind fun y180 => (if 0 ≤ (wrap64 ((y180.length : Int) - 1)) then (if (wrap64 ((y180.length : Int) - 1)) < (y180.length : Int) then (anchors_Frags.l0 k (y180.set ((wrap64 ((y180.length : Int) - 1)) : Int).toNat (⟨(rd_T42 y180 (wrap64 ((y180.length : Int) - 1))).f0, (rd_T42 y180 (wrap64 ((y180.length : Int) - 1))).f1, wrap64 (((rd_T38 l n).f0) + ((rd_T38 l n).f1))⟩ : S42)) ((rd_T38 l n).f4) l (l.length : Int) (wrap64 (n + 1))) else (none)) else (none)) := by
          rw [anchors_Frags.l0, if_pos hnl, if_pos h0, if_pos hnl, if_neg hz, if_neg hs, if_pos hlim]
        have hu : anchors_Frags.l0 (k + 1) x ahead l (l.length : Int) n = anchors_Frags.l0 k (x ++ [(⟨(rd_T38 l n).f4, (rd_T38 l n).f0, wrap64 ((rd_T38 l n).f0 + (rd_T38 l n).f1)⟩ : S42)]) (rd_T38 l n).f4 l (l.length : Int) (n + 1) := by
          rw [hu0, Option.bind_some, hy2, if_pos h00, if_pos hlt, rd_end, Int.toNat_natCast, set_end, hn1]
        have hr : colophonref29_Frags.l0 (k + 1) x n a b l = colophonref29_Frags.l0 k (x ++ [(⟨(rd_T38 l n).f4, (rd_T38 l n).f0, wrap64 ((rd_T38 l n).f0 + (rd_T38 l n).f1)⟩ : S42)]) (n + 1) a b l := by
          by_cases hn : n = 0
          · rw [colophonref29_Frags.l0, if_pos (show n < (l.length : Int) by omega), if_pos h0, if_neg hz, if_neg (show ¬ n > 0 by omega), if_pos hlim, hn1]
          · have hpr : ¬ (rd_T38 l (n - 1)).f4 = (rd_T38 l n).f4 := by
              intro e
              rw [if_neg hn] at ha
              exact hs (e.symm.trans ha.symm)
            rw [colophonref29_Frags.l0, if_pos (show n < (l.length : Int) by omega), if_pos h0, if_neg hz, if_pos (show n > 0 by omega), hn0, if_pos (show 0 ≤ n - 1 by omega), if_pos (show n - 1 < (l.length : Int) by omega), if_neg hpr, if_pos hlim, hn1]
        rw [hu, hr]
        exact ih k _ (n + 1) _ (by omega) (by omega) (by simp; omega) hnext (fun _ => by simp) (by omega)
theorem copy_one (p : S38) : (⟨p.f0, p.f1, p.f2, p.f3, p.f4, p.f5, ([] : List Int) ++ p.f6⟩ : S38) = p := by
  rw [List.nil_append]
theorem take_succ_rd (l : List S38) (n : Nat) (h : n < l.length) : l.take (n + 1) = l.take n ++ [rd_T38 l (n : Int)] := by
  rw [List.take_succ_eq_append_getElem h]
  unfold rd_T38
  simp [List.getD, h]
theorem l1_same (x : List S42) (hx : x.length ≤ 500) : ∀ (d k : Nat) (n : Int), 0 ≤ n → n + d = (x.length : Int) → d + 41 ≤ k → colophonlaw29_AnchorsFrags.l1 k x x n = some true := by
  intro d
  induction d with
  | zero =>
    intro k n h0 hd hk
    obtain ⟨k, rfl⟩ : ∃ m, k = m + 1 := ⟨k - 1, by omega⟩
    rw [colophonlaw29_AnchorsFrags.l1, if_neg (by omega), wakes_k k (by omega)]
    rfl
  | succ d ih =>
    intro k n h0 hd hk
    obtain ⟨k, rfl⟩ : ∃ m, k = m + 1 := ⟨k - 1, by omega⟩
    have hn1 : wrap64 (n + 1) = n + 1 := w_in (by omega)
    rw [colophonlaw29_AnchorsFrags.l1, if_pos (show n < (x.length : Int) by omega), if_pos h0, if_pos (show n < (x.length : Int) by omega), hn1]
    simp only [BEq.rfl, Bool.not_true, Bool.or_self, Bool.false_eq_true, if_false]
    exact ih k (n + 1) (by omega) (by omega) (by omega)
theorem law_l0 (a : Int) (b : Bool) (l : List S38) (hl : l.length ≤ 500) (hg : ∀ p ∈ l, p.f6.length < 17592186044416) : ∀ (d k n : Nat), n + d = l.length → d + 700 ≤ k → colophonlaw29_AnchorsFrags.l0 k (n : Int) a b l 0 false (l.take n) = some true := by
  intro d
  induction d with
  | zero =>
    intro k n hd hk
    obtain ⟨k, rfl⟩ : ∃ m, k = m + 1 := ⟨k - 1, by omega⟩
    rw [colophonlaw29_AnchorsFrags.l0, if_neg (by omega), List.take_of_length_le (by omega)]
    obtain ⟨r, h1, h2, h3⟩ := frags_l0 l hl a b l.length k [] 0 0 (by omega) (by omega) (by simp) (by simp) (fun h => absurd rfl h) (by omega)
    unfold anchors_Frags.f colophonref29_Frags.f
    rw [h1, h2, Option.bind_some, Option.bind_some, if_pos rfl]
    exact l1_same r h3 r.length k 0 (by omega) (by omega) (by omega)
  | succ d ih =>
    intro k n hd hk
    obtain ⟨k, rfl⟩ : ∃ m, k = m + 1 := ⟨k - 1, by omega⟩
    have hn1 : wrap64 ((n : Int) + 1) = ((n + 1 : Nat) : Int) := by rw [w_in (by omega)]; omega
    have hm : rd_T38 l (n : Int) ∈ l := by
      unfold rd_T38
      have hn : n < l.length := by omega
      simp [List.getD, hn]
    have hs := hg _ hm
    have ht : (l.take n).length = n := by rw [List.length_take]; omega
    rw [colophonlaw29_AnchorsFrags.l0, if_pos (by omega), if_pos (by omega), Option.bind_some, if_pos (by simpa using hs), if_pos (by rw [ht]; omega), hn1, copy_one, ← take_succ_rd l n (by omega)]
    exact ih k (n + 1) (by omega) (by omega)
theorem pureK (K : Nat) (hK : 1200 ≤ K) (a : Int) (b : Bool) (l : List S38) (h : (∀ x ∈ l, x.f6.length * 8 ≤ 140737488351232)) : colophonlaw29_AnchorsFrags.f K a b l = some true := by
  unfold colophonlaw29_AnchorsFrags.f
  by_cases hl : (l.length : Int) > 500
  · rw [if_pos hl, wakes_k K (by omega)]
    rfl
  · rw [if_neg hl]
    have := law_l0 a b l (by omega) (fun p hp => by have := h p hp; omega) l.length K 0 (by omega) (by omega)
    exact this
theorem pure (a : Int) (b : Bool) (l : List S38) (h : (∀ x ∈ l, x.f6.length * 8 ≤ 140737488351232)) : ∃ k, colophonlaw29_AnchorsFrags.f k a b l = some true := ⟨1200, pureK 1200 (Nat.le_refl _) a b l h⟩

end Go.Proofs.Ytdoponngnjmkkaa.PureAnchorsFrags
