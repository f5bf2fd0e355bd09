/- The walk of badness.Bad, for all 64-bit numbers. -/
import Derived.Test.YtmllebfeghlmbaaWWords
import Derived.Test.YtmllebfeghlmbaaWLast
import Derived.Test.YtmllebfeghlmbaaWMore
import Derived.Test.YtmllebfeghlmbaaProg
import Derived.WalkKit
import Derived.WalkSpells
import Derived.WalkLawsBesides
namespace Go.Proofs.Ytmllebfeghlmbaa.BadW
open Go.RowKit Go.Proofs.YtmllebfeghlmbaaW.PrintWords Go.Proofs.YtmllebfeghlmbaaW.PrintLast Go.Proofs.YtmllebfeghlmbaaW.PrintMore
attribute [local go_sem] max2_int min2_int max_two min_two
def cl (x : Int) : Int := mn (mx x 0) 1099511627776
theorem cl_spec (x : Int) : 0 ≤ cl x ∧ cl x ≤ 1099511627776 ∧ (x ≤ 0 → cl x = 0) ∧ (0 ≤ x → x ≤ 1099511627776 → cl x = x) ∧ (1099511627776 ≤ x → cl x = 1099511627776) := by
  unfold cl mn mx
  split <;> split <;> omega
theorem w_in {e : Int} (h : -9223372036854775808 ≤ e ∧ e ≤ 9223372036854775807) : wrap64 e = e := by unfold wrap64; omega
def badV (t s : Int) : Int := if t = 0 then 0 else if s = 0 then 10000 else if 297 * t / s > 1290 then 10000 else ((297 * t / s) * (297 * t / s) * (297 * t / s) + 131072) / 262144
theorem div_bd {t s : Int} (h0 : 0 ≤ t) (h1 : t ≤ 1099511627776) (hs : 0 < s) : 0 ≤ 297 * t / s ∧ 297 * t / s ≤ 326554953449472 := by
  refine ⟨Int.ediv_nonneg (by omega) (by omega), ?_⟩
  exact Int.le_trans (Int.ediv_le_self s (by omega)) (by omega)
theorem cube_mono {a b : Int} (h0 : 0 ≤ a) (h : a ≤ b) : a * a * a ≤ b * b * b := by
  have h1 : a * a ≤ b * b := Int.mul_le_mul h h h0 (by omega)
  exact Int.mul_le_mul h1 h h0 (Int.mul_nonneg (by omega) (by omega))
theorem cube_bd {r : Int} (h0 : 0 ≤ r) (h1 : r ≤ 1290) : 0 ≤ r * r ∧ r * r ≤ 1664100 ∧ 0 ≤ r * r * r ∧ r * r * r ≤ 2146689000 := by
  have a : r * r ≤ 1290 * 1290 := Int.mul_le_mul h1 h1 h0 (by omega)
  have b : 0 ≤ r * r := Int.mul_nonneg h0 h0
  have c : r * r * r ≤ 1290 * 1290 * 1290 := cube_mono h0 h1
  exact ⟨b, by omega, Int.mul_nonneg b h0, by omega⟩
theorem mnbd {z x y : Int} (h0 : mx z 0 = x) (h : mn x 1000000 = y) : 0 ≤ y ∧ y ≤ 1000000 := by
  subst h0 h
  unfold mn mx
  split <;> split <;> omega
theorem ret_i {a b : Int} (h : a = b) : Ending.returned (.int .i64 a) = .returned (.int .i64 b) := by rw [h]
theorem cl_neg {x : Int} (h : x < 0) : cl x = 0 := by have := cl_spec x; omega
theorem cl_mid {x : Int} (h : 0 ≤ x) (h' : x ≤ 1099511627776) : cl x = x := by have := cl_spec x; omega
theorem cl_top {x : Int} (h : 1099511627776 < x) : cl x = 1099511627776 := by have := cl_spec x; omega
theorem badV_zero (s : Int) : badV 0 s = 0 := rfl
theorem badV_never {t : Int} (h : (t == 0) = false) : badV t 0 = 10000 := by unfold badV; rw [if_neg (by simpa using h), if_pos rfl]
theorem badV_far {t s : Int} (h : (t == 0) = false) (hs : (s == 0) = false) (hr : 297 * t / s > 1290) : badV t s = 10000 := by unfold badV; rw [if_neg (by simpa using h), if_neg (by simpa using hs), if_pos hr]
theorem badV_near {t s : Int} (h : (t == 0) = false) (hs : (s == 0) = false) (hr : 297 * t / s ≤ 1290) : badV t s = ((297 * t / s) * (297 * t / s) * (297 * t / s) + 131072) / 262144 := by unfold badV; rw [if_neg (by simpa using h), if_neg (by simpa using hs), if_neg (by omega)]

set_option maxHeartbeats 1000000 in
theorem bad_any (a0 a1 : Int) (w : World) : Calls Try.prog 7 #[.int .i64 a0, .int .i64 a1] w fun e w' => e = .returned (.int .i64 (badV (cl a0) (cl a1))) ∧ w' = w := by
  rcases (show a0 < 0 ∨ a0 = 0 ∨ (0 < a0 ∧ a0 ≤ 1099511627776) ∨ 1099511627776 < a0 by omega) with h | rfl | ⟨h, h'⟩ | h
  · have e0 : badV (cl a0) (cl a1) = 0 := by rw [cl_neg h, badV_zero]
    rw [e0]
    go_enter Try.func7, Try.ntmps7
    go_wp2
    all_goals (go_ret; exact ⟨rfl, rfl⟩)
  · have e0 : badV (cl 0) (cl a1) = 0 := by rw [cl_mid (Int.le_refl 0) (by omega), badV_zero]
    rw [e0]
    go_enter Try.func7, Try.ntmps7
    go_wp2
    all_goals (go_ret; exact ⟨rfl, rfl⟩)
  · have hne : (a0 == 0) = false := by simp; omega
    have hbn : (a0 != 0) = true := by simp; omega
    rw [cl_mid (by omega) h']
    rcases (show a1 < 0 ∨ a1 = 0 ∨ (0 < a1 ∧ a1 ≤ 1099511627776) ∨ 1099511627776 < a1 by omega) with k | rfl | ⟨k, k'⟩ | k
    · rw [cl_neg k, badV_never hne]
      go_enter Try.func7, Try.ntmps7
      go_wp2
      all_goals (go_ret; exact ⟨rfl, rfl⟩)
    · rw [cl_mid (Int.le_refl 0) (by omega), badV_never hne]
      go_enter Try.func7, Try.ntmps7
      go_wp2
      all_goals (go_ret; exact ⟨rfl, rfl⟩)
    · rw [cl_mid (by omega) k']
      have kne : (a1 == 0) = false := by simp; omega
      have kbn : (a1 != 0) = true := by simp; omega
      have hd := div_bd (by omega) h' k
      by_cases hr : 297 * a0 / a1 > 1290
      · rw [badV_far hne kne hr]
        go_enter Try.func7, Try.ntmps7
        go_wp2
        all_goals (go_ret; exact ⟨rfl, rfl⟩)
      · have hr' : 297 * a0 / a1 ≤ 1290 := by omega
        rw [badV_near hne kne hr']
        have hc := cube_bd hd.1 hr'
        go_enter Try.func7, Try.ntmps7
        go_wp2
        all_goals (go_ret; exact ⟨rfl, rfl⟩)
    · rw [cl_top k]
      have hd := div_bd (s := 1099511627776) (by omega) h' (by omega)
      by_cases hr : 297 * a0 / 1099511627776 > 1290
      · rw [badV_far hne (by decide) hr]
        go_enter Try.func7, Try.ntmps7
        go_wp2
        all_goals (go_ret; exact ⟨rfl, rfl⟩)
      · have hr' : 297 * a0 / 1099511627776 ≤ 1290 := by omega
        rw [badV_near hne (by decide) hr']
        have hc := cube_bd hd.1 hr'
        go_enter Try.func7, Try.ntmps7
        go_wp2
        all_goals (go_ret; exact ⟨rfl, rfl⟩)
  · rw [cl_top h]
    rcases (show a1 < 0 ∨ a1 = 0 ∨ (0 < a1 ∧ a1 ≤ 1099511627776) ∨ 1099511627776 < a1 by omega) with k | rfl | ⟨k, k'⟩ | k
    · rw [cl_neg k, badV_never (by decide)]
      go_enter Try.func7, Try.ntmps7
      go_wp2
      all_goals (go_ret; exact ⟨rfl, rfl⟩)
    · rw [cl_mid (Int.le_refl 0) (by omega), badV_never (by decide)]
      go_enter Try.func7, Try.ntmps7
      go_wp2
      all_goals (go_ret; exact ⟨rfl, rfl⟩)
    · rw [cl_mid (by omega) k']
      have kne : (a1 == 0) = false := by simp; omega
      have kbn : (a1 != 0) = true := by simp; omega
      have he : (297 : Int) * 1099511627776 = 326554953449472 := by decide
      have hd := div_bd (t := 1099511627776) (by omega) (by omega) k
      by_cases hr : 297 * 1099511627776 / a1 > 1290
      · rw [badV_far (by decide) kne hr]
        rw [he] at hd hr
        clear he
        go_enter Try.func7, Try.ntmps7
        go_wp2
        all_goals (go_ret; exact ⟨rfl, rfl⟩)
      · have hr' : 297 * 1099511627776 / a1 ≤ 1290 := by omega
        rw [badV_near (by decide) kne hr']
        have hc := cube_bd hd.1 hr'
        rw [he] at hd hr hr' hc
        rw [he]
        clear he
        go_enter Try.func7, Try.ntmps7
        go_wp2
        all_goals (go_ret; exact ⟨rfl, rfl⟩)
    · have e0 : badV (cl a0) (cl a1) = 100 := by rw [cl_top h, cl_top k]; decide
      have e1 : badV 1099511627776 (cl a1) = 100 := by rw [cl_top k]; decide
      rw [e1]
      go_enter Try.func7, Try.ntmps7
      go_wp2
      all_goals (go_ret; exact ⟨rfl, rfl⟩)
end Go.Proofs.Ytmllebfeghlmbaa.BadW
