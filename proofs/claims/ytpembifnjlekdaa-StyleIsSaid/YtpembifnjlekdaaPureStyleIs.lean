/- The plain law of StyleIs: an element's style, for any rules, any path, any parent's style. -/
import Derived.Test.YtpembifnjlekdaaIsC
import Derived.Test.YtpembifnjlekdaaPureStyleIsD
namespace Go.Proofs.Ytpembifnjlekdaa.PureStyleIs
open Go.RowKit Go.Proofs.Ytpembifnjlekdaa Go.Proofs.Ytpembifnjlekdaa.PStyleIs Go.Proofs.YtpembifnjlekdaaW.PrintWords Go.Proofs.YtpembifnjlekdaaW.PrintLast Go.Proofs.YtpembifnjlekdaaW.PrintMore
theorem wakes_f : colophonlaw20_wakes.f 60 = some true := by decide +kernel
theorem wakes_k (k : Nat) (hk : 60 ≤ k) : colophonlaw20_wakes.f k = some true := at_rounds (g := fun k => colophonlaw20_wakes.f k) colophonlaw20_wakes.mono hk wakes_f

theorem pureK (K : Nat) (hK : 20000000 ≤ K) (l : List S41) (path : List S56) (p0 p1 p2 p3 p4 p5 p6 p7 p8 : Int) (w0 : OKL l) (w1 : OKP path) : colophonlaw20_StyleIs.f K l path p0 p1 p2 p3 p4 p5 p6 p7 p8 = some true := by
  have hw := wakes_k K (by omega)
  obtain ⟨t, t1, t2⟩ := large_f l path w0 w1 K (by omega)
  unfold colophonlaw20_StyleIs.f
  rw [t1, Option.bind_some]
  cases t with
  | true => rw [if_pos rfl, hw]
  | false =>
    obtain ⟨h1, h2, h3, h4⟩ := t2 rfl
    obtain ⟨ms, m1, m2⟩ := rules_f l path h1 h2 h3 h4 K (by omega)
    have e2 := rof_loop K l path ms m2 [p0, p1, p2, p3, p4, p5, p6, p7, p8] 9 0 [0, 655360, 786432, 0, 0, 0, 0, 0, 1] rfl
    have e3 := of_len ms [p0, p1, p2, p3, p4, p5, p6, p7, p8] 9 0 [0, 655360, 786432, 0, 0, 0, 0, 0, 1]
    generalize style_Of.loop ms [p0, p1, p2, p3, p4, p5, p6, p7, p8] 9 0 [0, 655360, 786432, 0, 0, 0, 0, 0, 1] = S at e2 e3
    obtain ⟨x, hx⟩ := tup9_len S e3
    have hS : style_Of.loop ms [p0, p1, p2, p3, p4, p5, p6, p7, p8] 9 0 [0, 655360, 786432, 0, 0, 0, 0, 0, 1] = S := by
      have := rof_loop K l path ms m2 [p0, p1, p2, p3, p4, p5, p6, p7, p8] 9 0 [0, 655360, 786432, 0, 0, 0, 0, 0, 1] rfl
      rw [e2] at this
      exact (Option.some.inj this).symm
    have f1 : style_Of.f K l path p0 p1 p2 p3 p4 p5 p6 p7 p8 = some x := by
      unfold style_Of.f
      rw [m1, Option.bind_some, hS, hx]
    have f2 : colophonref20_Of.f K l path p0 p1 p2 p3 p4 p5 p6 p7 p8 = some x := by
      unfold colophonref20_Of.f
      rw [e2, Option.bind_some, hx]
    rw [if_neg (by decide), copy_f l h1 h3 K (by omega), Option.bind_some, twin_f path h2 h4 K (by omega), Option.bind_some, f1, Option.bind_some, f2, Option.bind_some, if_pos rfl, hw]
theorem pure (l : List S41) (path : List S56) (p0 p1 p2 p3 p4 p5 p6 p7 p8 : Int) (w0 : OKL l) (w1 : OKP path) : ∃ k, colophonlaw20_StyleIs.f k l path p0 p1 p2 p3 p4 p5 p6 p7 p8 = some true := ⟨_, pureK 20000000 (Nat.le_refl _) l path p0 p1 p2 p3 p4 p5 p6 p7 p8 w0 w1⟩

end Go.Proofs.Ytpembifnjlekdaa.PureStyleIs
