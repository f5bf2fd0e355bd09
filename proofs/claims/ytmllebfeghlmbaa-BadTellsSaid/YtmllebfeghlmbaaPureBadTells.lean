/- The plain law of BadTells: the badness and the class that the program tells are the reference's, for all 64-bit numbers. -/
import Derived.Test.YtmllebfeghlmbaaPBadTellsx2
namespace Go.Proofs.Ytmllebfeghlmbaa.PureBadTells
open Go.RowKit Go.Proofs.Ytmllebfeghlmbaa.PBadTells Go.Proofs.YtmllebfeghlmbaaW.PrintWords Go.Proofs.YtmllebfeghlmbaaW.PrintLast Go.Proofs.YtmllebfeghlmbaaW.PrintMore
open Go.Proofs.Ytmllebfeghlmbaa.BadW
theorem wakes_f : colophonlaw23_wakes.f = some true := by decide +kernel

theorem wrap_u64 (n : Int) : IntKind.u64.wrap n = n % 18446744073709551616 := by simp [IntKind.wrap, IntKind.bits, IntKind.signed]
theorem wraps_u64 (n : Int) (h₀ : 0 ≤ n) (h₁ : n < 2 ^ 64) : IntKind.u64.wrap n = n := by rw [wrap_u64]; omega
theorem u64_in {n : Int} (h : 0 ≤ n ∧ n < 18446744073709551616) : IntKind.u64.wrap n = n := wraps_u64 n h.1 h.2
theorem and_low (x : Int) (h : 0 ≤ x ∧ x < 18446744073709551616) : Go.bits .and .u64 x 4294967295 = x % 4294967296 := bits_mask .u64 64 (by decide) wraps_u64 32 (by decide) x h.1 h.2
theorem and_one (x : Int) (h : 0 ≤ x ∧ x < 18446744073709551616) : Go.bits .and .u64 x 1 = x % 2 := bits_mask .u64 64 (by decide) wraps_u64 1 (by decide) x h.1 h.2
theorem or_low (x y : Int) (hx : 0 ≤ x ∧ x < 18446744073709551616) (hm : x % 4294967296 = 0) (hy : 0 ≤ y ∧ y < 4294967296) : Go.bits .or .u64 x y = x + y :=
  bits_join .u64 64 (by decide) wraps_u64 32 x y hx.1 hm hx.2 hy.1 hy.2 (show y < 18446744073709551616 by omega)
theorem or_one (x y : Int) (hx : 0 ≤ x ∧ x < 18446744073709551616) (hm : x % 2 = 0) (hy : 0 ≤ y ∧ y < 2) : Go.bits .or .u64 x y = x + y :=
  bits_join .u64 64 (by decide) wraps_u64 1 x y hx.1 hm hx.2 hy.1 hy.2 (show y < 18446744073709551616 by omega)
theorem mul_bd {x y : Int} (hx : 0 ≤ x ∧ x ≤ 4294967295) (hy : 0 ≤ y ∧ y ≤ 4294967295) : 0 ≤ x * y ∧ x * y ≤ 18446744065119617025 := by
  refine ⟨Int.mul_nonneg hx.1 hy.1, ?_⟩
  have : x * y ≤ 4294967295 * 4294967295 := Int.mul_le_mul hx.2 hy.2 hy.1 (by omega)
  omega
theorem mul_split (a b : Int) : a * b = (a / 4294967296) * (b / 4294967296) * 18446744073709551616 + ((a / 4294967296) * (b % 4294967296) + (a % 4294967296) * (b / 4294967296)) * 4294967296 + (a % 4294967296) * (b % 4294967296) := by
  have ha : a = a / 4294967296 * 4294967296 + a % 4294967296 := by omega
  have hb : b = b / 4294967296 * 4294967296 + b % 4294967296 := by omega
  generalize a / 4294967296 = x at *
  generalize a % 4294967296 = y at *
  generalize b / 4294967296 = z at *
  generalize b % 4294967296 = u at *
  subst ha hb
  rw [Int.add_mul, Int.mul_add, Int.mul_add]
  have e1 : x * 4294967296 * (z * 4294967296) = x * z * 18446744073709551616 := by
    rw [Int.mul_assoc, Int.mul_left_comm 4294967296, ← Int.mul_assoc]; rfl
  have e2 : x * 4294967296 * u = x * u * 4294967296 := by rw [Int.mul_assoc, Int.mul_comm 4294967296, ← Int.mul_assoc]
  have e3 : y * (z * 4294967296) = y * z * 4294967296 := by rw [Int.mul_assoc]
  rw [e1, e2, e3]
  omega
theorem product_f (a b : Int) (ha : 0 ≤ a ∧ a < 18446744073709551616) (hb : 0 ≤ b ∧ b < 18446744073709551616) : ∃ hi lo, colophonref01_product.f a b = some (hi, lo) ∧ 0 ≤ hi ∧ hi < 18446744073709551616 ∧ 0 ≤ lo ∧ lo < 18446744073709551616 ∧ hi * 18446744073709551616 + lo = a * b := by
  unfold colophonref01_product.f
  rw [and_low a ha, and_low b hb]
  have h1 := mul_bd (x := a % 4294967296) (y := b % 4294967296) (by omega) (by omega)
  have h2 := mul_bd (x := a / 4294967296) (y := b % 4294967296) (by omega) (by omega)
  have h3 := mul_bd (x := a % 4294967296) (y := b / 4294967296) (by omega) (by omega)
  have h4 := mul_bd (x := a / 4294967296) (y := b / 4294967296) (by omega) (by omega)
  rw [mul_split a b]
  generalize a % 4294967296 * (b % 4294967296) = p at *
  generalize a / 4294967296 * (b % 4294967296) = q at *
  generalize a % 4294967296 * (b / 4294967296) = r at *
  generalize a / 4294967296 * (b / 4294967296) = s at *
  rw [u64_in (n := p) (by omega), u64_in (n := q) (by omega), u64_in (n := r) (by omega), u64_in (n := s) (by omega)]
  rw [u64_in (n := q + p / 4294967296) (by omega)]
  rw [and_low (q + p / 4294967296) (by omega), and_low p (by omega)]
  rw [u64_in (n := (q + p / 4294967296) % 4294967296 + r) (by omega)]
  rw [wrap_u64 (((q + p / 4294967296) % 4294967296 + r) * 4294967296)]
  rw [or_low _ _ (by omega) (by omega) (by omega)]
  rw [wrap_u64 (s + (q + p / 4294967296) / 4294967296)]
  rw [wrap_u64]
  refine ⟨_, _, rfl, ?_⟩
  omega

theorem pow_pos2 (n : Nat) : (0 : Int) < 2 ^ n := Int.pow_pos (by decide)
theorem shr_u64 (x : Int) (n : Nat) (h : n ≤ 64) : shr .u64 x (n : Int) = x / 2 ^ n := by
  unfold shr
  rw [Int.toNat_natCast, Nat.min_eq_left (by simpa [IntKind.bits] using h)]
theorem and63 (n : Nat) (h : n < 64) : Go.bits .and .i64 (n : Int) 63 = n := by
  have := bits_mask .i64 63 (by decide) (fun m h0 h1 => by rw [IntKind.wrap_i64]; omega) 6 (by decide) (n : Int) (by omega) (by have : (2:Int)^63 = 9223372036854775808 := by decide
                                                                                                                                omega)
  have e : ((2 : Int) ^ 6 - 1) = 63 := by decide
  rw [e] at this
  rw [this]
  have : (2 : Int) ^ 6 = 64 := by decide
  omega
theorem and63_nn (i : Int) : 0 ≤ IntKind.u64.wrap i := by rw [wrap_u64]; omega
theorem div_step (x : Int) (n : Nat) : x / 2 ^ n = 2 * (x / 2 ^ (n + 1)) + (x / 2 ^ n) % 2 := by
  have e : x / 2 ^ (n + 1) = (x / 2 ^ n) / 2 := by rw [Int.pow_succ, Int.ediv_ediv_of_nonneg (Int.le_of_lt (pow_pos2 n))]
  rw [e]
  omega
theorem hi_bit (hi lo : Int) (h : 0 ≤ lo ∧ lo < 18446744073709551616) (n : Nat) : (hi * 18446744073709551616 + lo) / 2 ^ (n + 64) = hi / 2 ^ n := by
  have e : (2 : Int) ^ (n + 64) = 18446744073709551616 * 2 ^ n := by rw [Int.pow_add, Int.mul_comm]; rfl
  rw [e, ← Int.ediv_ediv_of_nonneg (by decide)]
  have : (hi * 18446744073709551616 + lo) / 18446744073709551616 = hi := by omega
  rw [this]
theorem lo_bit (hi lo : Int) (n : Nat) (hn : n < 64) : ((hi * 18446744073709551616 + lo) / 2 ^ n) % 2 = (lo / 2 ^ n) % 2 := by
  obtain ⟨m, hm⟩ : ∃ m : Nat, 64 = n + (m + 1) := ⟨63 - n, by omega⟩
  have e : (18446744073709551616 : Int) = 2 ^ (m + 1) * 2 ^ n := by
    have : (18446744073709551616 : Int) = 2 ^ 64 := by decide
    rw [this, hm, Int.pow_add, Int.mul_comm]
  rw [e, ← Int.mul_assoc, Int.add_comm, Int.add_mul_ediv_right _ _ (Int.ne_of_gt (pow_pos2 n)), Int.pow_succ, ← Int.mul_assoc]
  omega

theorem divide_l0 (hi lo d : Int) (hhi : 0 ≤ hi ∧ hi < 18446744073709551616) (hlo : 0 ≤ lo ∧ lo < 18446744073709551616) (hd : 0 < d ∧ d ≤ 4611686018427387904) :
    ∀ (n k : Nat) (qh ql rem : Int), n ≤ 128 → n < k → 0 ≤ qh → 0 ≤ ql → ql < 18446744073709551616 → 0 ≤ rem → rem < d → qh * 18446744073709551616 + ql < 2 ^ (128 - n) →
      (qh * 18446744073709551616 + ql) * d + rem = (hi * 18446744073709551616 + lo) / 2 ^ n →
      ∃ a b c, colophonref01_divide.l0 k hi lo d qh ql rem ((n : Int) - 1) = some (a, b, c) ∧ 0 ≤ b ∧ b < 18446744073709551616 ∧ 0 ≤ a ∧ a * 18446744073709551616 + b = (hi * 18446744073709551616 + lo) / d ∧ c = (hi * 18446744073709551616 + lo) % d := by
  intro n
  induction n with
  | zero =>
    intro k qh ql rem _ hk h1 h2 h3 h4 h5 _ h7
    obtain ⟨k, rfl⟩ : ∃ m, k = m + 1 := ⟨k - 1, by omega⟩
    refine ⟨qh, ql, rem, ?_, h2, h3, h1, ?_⟩
    · rw [colophonref01_divide.l0, if_neg (by omega)]
    · have e : (hi * 18446744073709551616 + lo) = (qh * 18446744073709551616 + ql) * d + rem := by rw [h7]; simp
      rw [e]
      generalize qh * 18446744073709551616 + ql = Q
      refine ⟨?_, ?_⟩
      · rw [Int.add_comm, Int.add_mul_ediv_right _ _ (by omega), Int.ediv_eq_zero_of_lt h4 h5]
        omega
      · rw [Int.add_comm, Int.add_mul_emod_self_right, Int.emod_eq_of_lt h4 h5]
  | succ n ih =>
    intro k qh ql rem hn hk h1 h2 h3 h4 h5 h6 h7
    obtain ⟨k, rfl⟩ : ∃ m, k = m + 1 := ⟨k - 1, by omega⟩
    have hpow : (2 : Int) ^ (128 - n) = 2 * 2 ^ (128 - (n + 1)) := by
      have : 128 - n = (128 - (n + 1)) + 1 := by omega
      rw [this, Int.pow_succ, Int.mul_comm]
    have hle : (2 : Int) ^ (128 - (n + 1)) ≤ 170141183460469231731687303715884105728 := by
      have e3 : (2 : Int) ^ (128 - (n + 1)) * 2 ^ n = 2 ^ 127 := by
        rw [← Int.pow_add]
        congr 1
        omega
      have e4 : (2 : Int) ^ 127 = 170141183460469231731687303715884105728 := by decide
      rw [e4] at e3
      have h1 : (1 : Int) ≤ 2 ^ n := pow_pos2 n
      have h2 := Int.mul_le_mul_of_nonneg_left h1 (Int.le_of_lt (pow_pos2 (128 - (n + 1))))
      rw [e3, Int.mul_one] at h2
      exact h2
    -- the bit at hand
    obtain ⟨bit, hbit, hb⟩ : ∃ bit : Int, bit = ((hi * 18446744073709551616 + lo) / 2 ^ n) % 2 ∧ 0 ≤ bit ∧ bit < 2 := ⟨_, rfl, by omega, by omega⟩
    have hstep : (hi * 18446744073709551616 + lo) / 2 ^ n = 2 * ((qh * 18446744073709551616 + ql) * d + rem) + bit := by
      rw [h7, hbit]
      exact div_step _ n
    have s1 : Go.bits .or .u64 (IntKind.u64.wrap (rem * 2)) bit = 2 * rem + bit := by
      rw [u64_in (by omega), or_one _ _ (by omega) (by omega) hb]
      omega
    have s2 : Go.bits .or .u64 (IntKind.u64.wrap (qh * 2)) (ql / 9223372036854775808) = qh * 2 + ql / 9223372036854775808 := by
      rw [u64_in (by omega), or_one _ _ (by omega) (by omega) (by omega)]
    have s3 : Go.bits .or .u64 (IntKind.u64.wrap (ql * 2)) 1 = (ql * 2) % 18446744073709551616 + 1 := by
      rw [wrap_u64, or_one _ _ (by omega) (by omega) (by omega)]
    have s4 : IntKind.u64.wrap (ql * 2) = (ql * 2) % 18446744073709551616 := wrap_u64 _
    have s5 : IntKind.u64.wrap (2 * rem + bit - d) = if 2 * rem + bit ≥ d then 2 * rem + bit - d else IntKind.u64.wrap (2 * rem + bit - d) := by
      split
      · exact u64_in (by omega)
      · rfl
    have hi1 : wrap64 (((n + 1 : Nat) : Int) - 1 - 1) = ((n : Nat) : Int) - 1 := by unfold wrap64; omega
    have hbitval : (if ((n + 1 : Nat) : Int) - 1 ≥ 64 then Go.bits .and .u64 (shr .u64 hi (IntKind.u64.wrap (wrap64 (((n + 1 : Nat) : Int) - 1 - 64)))) 1 else Go.bits .and .u64 (shr .u64 lo (IntKind.u64.wrap (Go.bits .and .i64 (((n + 1 : Nat) : Int) - 1) 63))) 1) = bit := by
      have en : ((n + 1 : Nat) : Int) - 1 = (n : Int) := by omega
      rw [en]
      by_cases h64 : (n : Int) ≥ 64
      · rw [if_pos h64]
        obtain ⟨m, rfl⟩ : ∃ m, n = m + 64 := ⟨n - 64, by omega⟩
        have e1 : wrap64 (((m + 64 : Nat) : Int) - 64) = (m : Int) := by unfold wrap64; omega
        rw [e1, u64_in (by omega), shr_u64 _ _ (by omega), and_one]
        · rw [hbit, hi_bit hi lo hlo]
        · exact ⟨Int.ediv_nonneg hhi.1 (Int.le_of_lt (pow_pos2 m)), Int.lt_of_le_of_lt (Int.ediv_le_self _ hhi.1) hhi.2⟩
      · rw [if_neg h64, and63 n (by omega), u64_in (by omega), shr_u64 _ _ (by omega), and_one]
        · rw [hbit, lo_bit hi lo n (by omega)]
        · exact ⟨Int.ediv_nonneg hlo.1 (Int.le_of_lt (pow_pos2 n)), Int.lt_of_le_of_lt (Int.ediv_le_self _ hlo.1) hlo.2⟩
    have hQ : ∀ b : Int, (qh * 2 + ql / 9223372036854775808) * 18446744073709551616 + ((ql * 2) % 18446744073709551616 + b) = 2 * (qh * 18446744073709551616 + ql) + b := by
      intro b
      omega
    have go : (colophonref01_divide.l0 (k + 1) hi lo d qh ql rem (((n + 1 : Nat) : Int) - 1)) =
        (if 2 * rem + bit ≥ d then colophonref01_divide.l0 k hi lo d (qh * 2 + ql / 9223372036854775808) ((ql * 2) % 18446744073709551616 + 1) (2 * rem + bit - d) ((n : Int) - 1)
         else colophonref01_divide.l0 k hi lo d (qh * 2 + ql / 9223372036854775808) ((ql * 2) % 18446744073709551616) (2 * rem + bit) ((n : Int) - 1)) := by
      rw [colophonref01_divide.l0]
      rw [if_pos (show ((n + 1 : Nat) : Int) - 1 ≥ 0 by omega), if_pos (and63_nn _)]
      by_cases h64 : ((n + 1 : Nat) : Int) - 1 ≥ 64
      · rw [if_pos h64] at hbitval
        rw [if_pos h64, if_pos (and63_nn _), hbitval, s1, s2, s3, s4, hi1]
        by_cases hge : 2 * rem + bit ≥ d
        · rw [if_pos hge, if_pos hge, u64_in (by omega)]
        · rw [if_neg hge, if_neg hge]
      · rw [if_neg h64] at hbitval
        rw [if_neg h64, hbitval, s1, s2, s3, s4, hi1]
        by_cases hge : 2 * rem + bit ≥ d
        · rw [if_pos hge, if_pos hge, u64_in (by omega)]
        · rw [if_neg hge, if_neg hge]
    rw [go]
    by_cases hge : 2 * rem + bit ≥ d
    · rw [if_pos hge]
      refine ih k _ _ _ (by omega) (by omega) (by omega) (by omega) (by omega) (by omega) (by omega) ?_ ?_
      · rw [hQ 1, hpow]
        omega
      · rw [hQ 1, hstep]
        have e : (2 * (qh * 18446744073709551616 + ql) + 1) * d = 2 * ((qh * 18446744073709551616 + ql) * d) + d := by rw [Int.add_mul, Int.mul_assoc, Int.one_mul]
        rw [e]
        omega
    · rw [if_neg hge]
      have hQ0 := hQ 0
      rw [Int.add_zero, Int.add_zero] at hQ0
      refine ih k _ _ _ (by omega) (by omega) (by omega) (by omega) (by omega) (by omega) (by omega) ?_ ?_
      · rw [hQ0, hpow]
        omega
      · rw [hQ0, hstep, Int.mul_assoc]
        omega
theorem divide_f (hi lo d : Int) (hhi : 0 ≤ hi ∧ hi < 18446744073709551616) (hlo : 0 ≤ lo ∧ lo < 18446744073709551616) (hd : 0 < d ∧ d ≤ 4611686018427387904) :
    ∃ a b c, colophonref01_divide.f 129 hi lo d = some (a, b, c) ∧ 0 ≤ b ∧ b < 18446744073709551616 ∧ 0 ≤ a ∧ a * 18446744073709551616 + b = (hi * 18446744073709551616 + lo) / d ∧ c = (hi * 18446744073709551616 + lo) % d := by
  unfold colophonref01_divide.f
  refine divide_l0 hi lo d hhi hlo hd 128 129 0 0 0 (by omega) (by omega) (by omega) (by omega) (by omega) (by omega) hd.1 (by decide) ?_
  have e : (hi * 18446744073709551616 + lo) / 2 ^ 128 = 0 := by
    have e2 : (2 : Int) ^ 128 = 340282366920938463463374607431768211456 := by decide
    rw [e2]
    omega
  rw [e]
  simp

theorem told_f (q : Int) (h : 0 ≤ q) : colophonref01_told.f q = some (if q ≤ 1099511627776 then (q, true) else (0, false)) := by
  unfold colophonref01_told.f colophonref01_In.f
  rw [if_pos (by omega)]
  simp only [Option.bind_some, decide_eq_true_eq]
  split <;> rfl
theorem floor_f (a b c : Int) (ha : 0 ≤ a ∧ a ≤ 4611686018427387904) (hb : 0 ≤ b ∧ b ≤ 4611686018427387904) (hc : 1 ≤ c ∧ c ≤ 4611686018427387904) :
    colophonref01_Floor.f 129 a b c = some (if a * b / c ≤ 1099511627776 then (a * b / c, true) else (0, false)) := by
  unfold colophonref01_Floor.f
  rw [if_neg (by omega)]
  unfold colophonref01_parts.f colophonref01_size.f
  rw [if_neg (show ¬ a < 0 by omega), if_neg (show ¬ b < 0 by omega)]
  simp only [Option.bind_some]
  rw [u64_in (n := a) (by omega), u64_in (n := b) (by omega), u64_in (n := c) (by omega)]
  obtain ⟨hi, lo, hp, h1, h2, h3, h4, h5⟩ := product_f a b (by omega) (by omega)
  rw [hp]
  simp only [Option.bind_some]
  obtain ⟨x, y, z, hq, q1, q2, q3, q4, q5⟩ := divide_f hi lo c ⟨h1, h2⟩ ⟨h3, h4⟩ (by omega)
  rw [hq]
  simp only [Option.bind_some]
  rw [h5] at q4
  rw [← q4]
  by_cases hx : x = 0
  · subst hx
    rw [if_pos rfl]
    by_cases hy : y ≤ 1099511627776
    · rw [if_pos hy, if_pos (show (0 : Int) * 18446744073709551616 + y ≤ 1099511627776 by omega)]
      simp only [bne_self_eq_false, Bool.false_eq_true, if_false, Option.bind_some]
      have e : wrap64 y = y := w_in (by omega)
      rw [e, told_f y q1, if_pos hy]
      simp only [Option.bind_some]
      rw [show (0 : Int) * 18446744073709551616 + y = y by omega]
    · rw [if_neg hy, if_neg (show ¬ (0 : Int) * 18446744073709551616 + y ≤ 1099511627776 by omega)]
      simp only [bne_self_eq_false, Bool.false_eq_true, if_false, Option.bind_some]
      rw [told_f 1099511627777 (by omega), if_neg (show ¬ (1099511627777 : Int) ≤ 1099511627776 by omega)]
      rfl
  · rw [if_neg hx, if_neg (show ¬ x * 18446744073709551616 + y ≤ 1099511627776 by omega)]
    simp only [bne_self_eq_false, Bool.false_eq_true, if_false, Option.bind_some]
    rw [told_f 1099511627777 (by omega), if_neg (show ¬ (1099511627777 : Int) ≤ 1099511627776 by omega)]
    rfl
theorem rbad_f (t s : Int) : colophonref23_Bad.f 129 t s = some (badV (cl t) (cl s)) := by
  unfold colophonref23_Bad.f
  simp only [colophonref23_within.f, Option.bind_some]
  change (if cl t = 0 then (some 0) else (if cl s = 0 then (some 10000) else ((colophonref01_Floor.f 129 297 (cl t) (cl s)).bind _))) = _
  have ht := cl_spec t
  have hs := cl_spec s
  unfold badV
  by_cases h1 : cl t = 0
  · rw [if_pos h1, if_pos h1]
  · rw [if_neg h1, if_neg h1]
    by_cases h2 : cl s = 0
    · rw [if_pos h2, if_pos h2]
    · rw [if_neg h2, if_neg h2, floor_f _ _ _ (by omega) (by omega) (by omega)]
      have hd := div_bd ht.1 ht.2.1 (show 0 < cl s by omega)
      generalize 297 * cl t / cl s = r at *
      by_cases h3 : r ≤ 1099511627776
      · rw [if_pos h3]
        simp only [Option.bind_some, if_true]
        by_cases h4 : r > 1290
        · rw [if_pos h4, if_pos h4]
        · rw [if_neg h4, if_neg h4]
          have hc := cube_bd hd.1 (by omega)
          rw [w_in (e := r * r) (by omega), w_in (e := r * r * r) (by omega), w_in (e := r * r * r + 131072) (by omega), Int.tdiv_eq_ediv_of_nonneg (by omega), w_in (by omega)]
      · rw [if_neg h3, if_pos (show r > 1290 by omega)]
        simp only [Option.bind_some, Bool.false_eq_true, if_false]
theorem class_f (t s : Int) (b : Bool) : ∃ v, badness_Class.f t s b = some v ∧ colophonref23_Class.f 129 t s b = some v := by
  unfold badness_Class.f colophonref23_Class.f badness_limits.f
  simp only [bad_f, rbad_f, Option.bind_some]
  repeat' split
  all_goals exact ⟨_, rfl, rfl⟩
theorem pure (t s : Int) (b : Bool) : ∃ k, colophonlaw23_BadTells.f k t s b = some true := by
  refine ⟨129, ?_⟩
  unfold colophonlaw23_BadTells.f
  obtain ⟨v, h1, h2⟩ := class_f t s b
  simp only [bad_f, rbad_f, h1, h2, wakes_f, Option.bind_some, if_true]

end Go.Proofs.Ytmllebfeghlmbaa.PureBadTells
