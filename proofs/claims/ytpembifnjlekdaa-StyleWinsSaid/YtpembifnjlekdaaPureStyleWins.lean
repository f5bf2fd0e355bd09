/- The plain law of StyleWins: which declaration of a property counts, for any rules, any path. -/
import Derived.Test.YtpembifnjlekdaaPStyleWinsx12
import Derived.Test.YtpembifnjlekdaaPureStyleWinsD
namespace Go.Proofs.Ytpembifnjlekdaa.PureStyleWins
open Go.RowKit Go.Proofs.Ytpembifnjlekdaa Go.Proofs.Ytpembifnjlekdaa.PStyleWins Go.Proofs.YtpembifnjlekdaaW.PrintWords Go.Proofs.YtpembifnjlekdaaW.PrintLast Go.Proofs.YtpembifnjlekdaaW.PrintMore
theorem wakes_f : colophonlaw20_wakes.f 60 = some true := by decide +kernel
theorem wakes_k (k : Nat) (hk : 60 ≤ k) : colophonlaw20_wakes.f k = some true := at_rounds (g := fun k => colophonlaw20_wakes.f k) colophonlaw20_wakes.mono hk wakes_f

theorem pureK (K : Nat) (hK : 20000000 ≤ K) (l : List S41) (path : List S56) (prop : Int) (w0 : OKL l) (w1 : OKP path) : colophonlaw20_StyleWins.f K l path prop = some true := by
  have hw := wakes_k K (by omega)
  obtain ⟨t, t1, t2⟩ := large_f l path w0 w1 K (by omega)
  unfold colophonlaw20_StyleWins.f
  rw [t1, Option.bind_some]
  cases t with
  | true => rw [if_pos rfl, hw, Option.bind_some]
  | false =>
    obtain ⟨h1, h2, h3, h4⟩ := t2 rfl
    obtain ⟨ms, m1, m2⟩ := rules_f l path h1 h2 h3 h4 K (by omega)
    rw [if_neg (by decide), copy_f l h1 h3 K (by omega), Option.bind_some, twin_f path h2 h4 K (by omega), Option.bind_some]
    unfold style_Winner.f
    rw [m1, Option.bind_some, m2, Option.bind_some, Option.bind_some]
    dsimp only
    rw [if_pos rfl, if_pos (by simp), same_f l h1 h3 K (by omega), Option.bind_some, if_pos rfl, hw, Option.bind_some]
theorem pure (l : List S41) (path : List S56) (prop : Int) (w0 : OKL l) (w1 : OKP path) : ∃ k, colophonlaw20_StyleWins.f k l path prop = some true := ⟨_, pureK 20000000 (Nat.le_refl _) l path prop w0 w1⟩

end Go.Proofs.Ytpembifnjlekdaa.PureStyleWins
