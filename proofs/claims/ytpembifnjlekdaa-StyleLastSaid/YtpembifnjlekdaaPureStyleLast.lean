/- The plain law of StyleLast: behind rules that match a further rule of the same selectors counts. -/
import Derived.Test.YtpembifnjlekdaaLaC
import Derived.Test.YtpembifnjlekdaaPureStyleLastD
namespace Go.Proofs.Ytpembifnjlekdaa.PureStyleLast
open Go.RowKit Go.Proofs.Ytpembifnjlekdaa Go.Proofs.Ytpembifnjlekdaa.PStyleLast Go.Proofs.YtpembifnjlekdaaW.PrintWords Go.Proofs.YtpembifnjlekdaaW.PrintLast Go.Proofs.YtpembifnjlekdaaW.PrintMore
theorem wakes_f : colophonlaw20_wakes.f 60 = some true := by decide +kernel
theorem wakes_k (k : Nat) (hk : 60 ≤ k) : colophonlaw20_wakes.f k = some true := at_rounds (g := fun k => colophonlaw20_wakes.f k) colophonlaw20_wakes.mono hk wakes_f

/-! ### what a rule's selectors come to, and what a further rule of the same selectors brings -/
theorem loop_sel (path : List S56) (hm : path.length ≤ 60) (hpath : ∀ e ∈ path, e.f2.length ≤ 3000) (K : Nat) (hK : 10000000 ≤ K) : ∀ (sl : List S45) (X : (Int × Int × Int) × Bool), (∀ s ∈ sl, G45 s) →
    ∃ m Y, colophonlaw20_StyleLast.loop K path sl X.2 = some m ∧ style_matching.sel K path sl X = some Y ∧ Y.2 = m
  | [], X, _ => ⟨X.2, X, rfl, rfl, rfl⟩
  | s :: r, X, hg => by
    have g := hg s (List.mem_cons_self ..)
    obtain ⟨b, m1, m2⟩ := match_both s.f0 path g.1 hm g.2 hpath K hK
    have rc := fun X => loop_sel path hm hpath K hK r X (fun q hq => hg q (List.mem_cons_of_mem _ hq))
    have hw : sheet_Weight.f s.f0 = some (wgt s.f0 (0, 0, 0)) := rfl
    rw [style_matching.sel, colophonlaw20_StyleLast.loop, m1, m2, Option.bind_some, Option.bind_some, hw, Option.bind_some]
    obtain ⟨v, xb⟩ := X
    cases xb with
    | true =>
      rw [if_pos rfl]
      cases b with
      | false => rw [if_pos rfl]; exact rc (v, true)
      | true => rw [if_neg (by decide)]; exact rc (_, true)
    | false =>
      rw [if_neg (fun h => Bool.noConfusion h)]
      cases b with
      | false => rw [if_pos rfl]; exact rc (v, false)
      | true => rw [if_neg (by decide)]; exact rc (_, true)
theorem nb_self (a : Int × Int × Int) : St.nb a a = true := by
  unfold St.nb
  rw [if_neg (fun h => h rfl), if_neg (fun h => h rfl), if_neg (fun h => h rfl)]
theorem decls_inv (prop : Int) (x : Int × Int × Int) : ∀ (dl : List S47) (c : CS), (c.won = false ∨ (c.b0, c.b1, c.b2) = x) → ((style_winner.decls prop x dl c).won = false ∨ ((style_winner.decls prop x dl c).b0, (style_winner.decls prop x dl c).b1, (style_winner.decls prop x dl c).b2) = x)
  | [], c, h => h
  | d :: r, c, h => by
    rw [style_winner.decls]
    by_cases e : d.f0 = prop ∧ (c.won = false ∨ St.nb (c.b0, c.b1, c.b2) x = true)
    · rw [if_pos e]
      exact decls_inv prop x r _ (.inr rfl)
    · rw [if_neg e]
      exact decls_inv prop x r c h
theorem winner_last (K : Nat) (path : List S56) (sl : List S45) (dl : List S47) (d0 d1 : Int) (Y : (Int × Int × Int) × Bool) (hY : Y.2 = true) (hs : style_matching.sel K path sl ((0, 0, 0), false) = some Y) : style_Winner.f K [⟨sl, dl⟩, ⟨sl, [⟨d0, d1⟩]⟩] path d0 = some (d1, true) := by
  obtain ⟨⟨v0, v1, v2⟩, yb⟩ := Y
  obtain rfl : yb = true := hY
  have hm : style_matching.f K [⟨sl, dl⟩, ⟨sl, [⟨d0, d1⟩]⟩] path = some [⟨dl, v0, v1, v2⟩, ⟨[⟨d0, d1⟩], v0, v1, v2⟩] := by
    unfold style_matching.f
    rw [if_pos (by simp), style_matching.go, hs, Option.bind_some, if_pos rfl, style_matching.go, hs, Option.bind_some, if_pos rfl, style_matching.go]
    rfl
  unfold style_Winner.f
  rw [hm, Option.bind_some]
  unfold style_winner.win
  rw [style_winner.go, style_winner.go, style_winner.go]
  dsimp only
  have h := decls_inv d0 (v0, v1, v2) dl ⟨false, 0, 0, 0, 0⟩ (.inl rfl)
  generalize style_winner.decls d0 (v0, v1, v2) dl ⟨false, 0, 0, 0, 0⟩ = c at h ⊢
  rw [style_winner.decls, if_pos ⟨rfl, h.imp id (fun e => by rw [e]; exact nb_self _)⟩, style_winner.decls]
theorem pureK (K : Nat) (hK : 20000000 ≤ K) (l : List S41) (path : List S56) (d0 d1 : Int) (w0 : OKL l) (w1 : OKP path) : colophonlaw20_StyleLast.f K l path d0 d1 = some true := by
  have hw := wakes_k K (by omega)
  obtain ⟨t, t1, t2⟩ := large_f l path w0 w1 K (by omega)
  unfold colophonlaw20_StyleLast.f
  rw [t1, Option.bind_some]
  by_cases c : t = true ∨ l.length = 0
  · rw [if_pos c, hw]
  · rw [if_neg c]
    obtain rfl : t = false := by cases t with | false => rfl | true => exact absurd (.inl rfl) c
    have hl : l.length ≠ 0 := fun e => c (.inr e)
    obtain ⟨h1, h2, h3, h4⟩ := t2 rfl
    have hy : (l.drop (l.length - 1)).length = 1 := by rw [List.length_drop]; omega
    have hg : ∀ x ∈ l.drop (l.length - 1), G41 x := fun x hx => h3 x (List.mem_of_mem_drop hx)
    generalize l.drop (l.length - 1) = y at hy hg ⊢
    rw [copy_f y (by omega) hg K (by omega), Option.bind_some, if_neg (by omega)]
    have g : G41 (rd_T41 y 0) := hg _ (mem41 (l := y) (j := 0) (by omega))
    generalize rd_T41 y 0 = x at g ⊢
    obtain ⟨m, Y, e1, e2, e3⟩ := loop_sel path h2 h4 K (by omega) x.f0 ((0, 0, 0), false) g.2.2
    have e1' : colophonlaw20_StyleLast.loop K path x.f0 false = some m := e1
    rw [e1', Option.bind_some]
    cases m with
    | false => rw [if_pos rfl, hw]
    | true =>
      have hx := winner_last K path x.f0 x.f1 d0 d1 Y e3 e2
      rw [if_neg (by decide), twin_f path h2 h4 K (by omega), Option.bind_some, hx, Option.bind_some, if_pos rfl, hw]
theorem pure (l : List S41) (path : List S56) (d0 d1 : Int) (w0 : OKL l) (w1 : OKP path) : ∃ k, colophonlaw20_StyleLast.f k l path d0 d1 = some true := ⟨_, pureK 20000000 (Nat.le_refl _) l path d0 d1 w0 w1⟩

end Go.Proofs.Ytpembifnjlekdaa.PureStyleLast
