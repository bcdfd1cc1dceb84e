/- What is proved: filter.Update is its reference, and the law FilterUpdates says true. No condition. -/
import Derived.Test.YtpndjpjpmcehbaaTfu1
namespace Go.Proofs.YtpndjpjpmcehbaaFt
open Go Go.Proofs Go.Proofs.YtpndjpjpmcehbaaEv
set_option maxRecDepth 100000
set_option linter.unusedSimpArgs false
set_option linter.unusedVariables false
theorem tdiv_tmod (a b : Int) : Int.tmod a b + Int.tdiv a b * b = a := by rw [Int.mul_comm]; exact Int.tmod_add_mul_tdiv a b
theorem floor_unique (a b q : Int) (hb : 0 < b) (h1 : q * b ≤ a) (h2 : a < (q + 1) * b) : a / b = q := by
  have h3 := Int.emod_add_mul_ediv a b
  have h4 := Int.emod_nonneg a (show b ≠ 0 by omega)
  have h5 := Int.emod_lt_of_pos a hb
  rw [Int.mul_comm] at h3
  rcases Int.lt_trichotomy (a / b) q with h | h | h
  · have : (a / b + 1) * b ≤ q * b := Int.mul_le_mul_of_nonneg_right (by omega) (by omega)
    rw [Int.add_mul, Int.one_mul] at this
    omega
  · exact h
  · have : (q + 1) * b ≤ (a / b) * b := Int.mul_le_mul_of_nonneg_right (by omega) (by omega)
    omega
theorem floor_spec (a b : Int) (hb : 0 < b) : (a / b) * b ≤ a ∧ a < (a / b) * b + b := by
  have h3 := Int.emod_add_mul_ediv a b
  have h4 := Int.emod_nonneg a (show b ≠ 0 by omega)
  have h5 := Int.emod_lt_of_pos a hb
  rw [Int.mul_comm] at h3
  omega
theorem tmod_range (a b : Int) (hb : 0 < b) : -b < Int.tmod a b ∧ Int.tmod a b < b ∧ (0 ≤ a → 0 ≤ Int.tmod a b) ∧ (a ≤ 0 → Int.tmod a b ≤ 0) := by
  have key : ∀ x : Int, 0 ≤ x → 0 ≤ Int.tmod x b ∧ Int.tmod x b < b := fun x hx => by
    rw [Int.tmod_eq_emod_of_nonneg hx]
    exact ⟨Int.emod_nonneg _ (by omega), Int.emod_lt_of_pos _ hb⟩
  rcases Int.le_total 0 a with h | h
  · have := key a h
    refine ⟨by omega, by omega, by omega, fun h' => ?_⟩
    obtain rfl : a = 0 := by omega
    simp
  · have h1 := key (-a) (by omega)
    rw [Int.neg_tmod] at h1
    refine ⟨by omega, by omega, fun h' => ?_, by omega⟩
    obtain rfl : a = 0 := by omega
    simp
/-- The quotient of Go, put right by the remainder's sign. -/
theorem floor_rem (a b : Int) (hb : 0 < b) : (if Int.tmod a b < 0 then Int.tdiv a b - 1 else Int.tdiv a b) = a / b := by
  have h1 := tdiv_tmod a b
  have h2 := tmod_range a b hb
  split
  · exact (floor_unique a b _ hb (by rw [Int.sub_mul, Int.one_mul]; omega) (by rw [show Int.tdiv a b - 1 + 1 = Int.tdiv a b by omega]; omega)).symm
  · exact (floor_unique a b _ hb (by omega) (by rw [Int.add_mul, Int.one_mul]; omega)).symm
/-- The quotient of Go, put right by the product. -/
theorem floor_prod (a b : Int) (hb : 0 < b) : (if a < Int.tdiv a b * b then Int.tdiv a b - 1 else Int.tdiv a b) = a / b := by
  have h1 := tdiv_tmod a b
  have h2 := tmod_range a b hb
  split
  · exact (floor_unique a b _ hb (by rw [Int.sub_mul, Int.one_mul]; omega) (by rw [show Int.tdiv a b - 1 + 1 = Int.tdiv a b by omega]; omega)).symm
  · exact (floor_unique a b _ hb (by omega) (by rw [Int.add_mul, Int.one_mul]; omega)).symm
/-- A quotient is no farther from zero than what is divided. -/
theorem tdiv_abs (a b A : Int) (hb : 0 < b) (ha : -A ≤ a) (hA : a ≤ A) : -A ≤ Int.tdiv a b ∧ Int.tdiv a b ≤ A := by
  have key : ∀ x : Int, 0 ≤ x → 0 ≤ Int.tdiv x b ∧ Int.tdiv x b ≤ x := fun x hx => by
    rw [Int.tdiv_eq_ediv_of_nonneg hx]
    refine ⟨Int.ediv_nonneg hx (by omega), ?_⟩
    exact Int.ediv_le_self _ hx
  rcases Int.le_total 0 a with h | h
  · have := key a h; omega
  · have h1 := key (-a) (by omega)
    rw [Int.neg_tdiv] at h1
    omega
theorem ediv_abs (a b A : Int) (hb : 0 < b) (ha : -A ≤ a) (hA : a ≤ A) : -A ≤ a / b ∧ a / b ≤ A := by
  have h := floor_spec a b hb
  constructor
  · rcases Int.lt_or_le (a / b) (-A) with h1 | h1
    · exfalso
      have : (a / b + 1) * b ≤ (-A) * b := Int.mul_le_mul_of_nonneg_right (by omega) (by omega)
      have h3 : (A) * 1 ≤ A * b := Int.mul_le_mul_of_nonneg_left (by omega) (by omega)
      rw [Int.add_mul, Int.one_mul, Int.neg_mul] at this
      omega
    · exact h1
  · rcases Int.le_total 0 a with h1 | h1
    · have := Int.ediv_le_self b h1; omega
    · have : a / b ≤ 0 := by
        rcases Int.lt_or_le 0 (a / b) with h2 | h2
        · exfalso
          have : 1 * b ≤ (a / b) * b := Int.mul_le_mul_of_nonneg_right (by omega) (by omega)
          omega
        · exact h2
      omega
theorem tdiv_nonneg (a b : Int) (ha : 0 ≤ a) : Int.tdiv a b = a / b := Int.tdiv_eq_ediv_of_nonneg ha

theorem floor_cases (a b : Int) (hb : 0 < b) : a / b = if Int.tmod a b = 0 then Int.tdiv a b else if a < 0 then Int.tdiv a b - 1 else Int.tdiv a b := by
  have h1 := tdiv_tmod a b
  have h2 := tmod_range a b hb
  have h3 := floor_rem a b hb
  by_cases h : Int.tmod a b = 0
  · rw [if_pos h, ← h3, if_neg (by omega)]
  · rw [if_neg h, ← h3]
    by_cases g : a < 0
    · rw [if_pos g, if_pos (by omega)]
    · rw [if_neg g, if_neg (by omega)]
theorem ceil_cases (a b : Int) (hb : 0 < b) : -((-a) / b) = if Int.tmod a b = 0 then a / b else a / b + 1 := by
  have h1 := tdiv_tmod a b
  have h2 := tmod_range a b hb
  have h3 := floor_cases a b hb
  by_cases h : Int.tmod a b = 0
  · rw [if_pos h]
    rw [if_pos h] at h3
    rw [h3, floor_unique (-a) b (-(Int.tdiv a b)) hb (by rw [Int.neg_mul]; omega) (by rw [Int.add_mul, Int.neg_mul, Int.one_mul]; omega)]
    omega
  · rw [if_neg h]
    rw [if_neg h] at h3
    by_cases g : a < 0
    · rw [if_pos g] at h3
      rw [h3, floor_unique (-a) b (-(Int.tdiv a b)) hb (by rw [Int.neg_mul]; omega) (by rw [Int.add_mul, Int.neg_mul, Int.one_mul]; omega)]
      omega
    · rw [if_neg g] at h3
      rw [h3, floor_unique (-a) b (-(Int.tdiv a b) - 1) hb (by rw [Int.sub_mul, Int.neg_mul, Int.one_mul]; omega) (by rw [show -(Int.tdiv a b) - 1 + 1 = -(Int.tdiv a b) by omega, Int.neg_mul]; omega)]
      omega
theorem ceil_abs (a b A : Int) (hb : 0 < b) (ha : -A ≤ a) (hA : a ≤ A) : -A ≤ -((-a) / b) ∧ -((-a) / b) ≤ A := by
  have := ediv_abs (-a) b A hb (by omega) (by omega)
  omega

theorem q_range (y k : Int) (hk : 0 < k) (h0 : -9223372036854775808 ≤ y) (h1 : y ≤ 9223372036854775807) : (-9223372036854775808 ≤ y.tdiv k ∧ y.tdiv k ≤ 9223372036854775807) ∧ -9223372036854775808 ≤ y.tdiv k * k ∧ y.tdiv k * k ≤ 9223372036854775807 := by
  have t1 := tdiv_tmod y k
  have t2 := tmod_range y k hk
  have t4 := tdiv_abs y k 9223372036854775808 hk h0 (by omega)
  rcases Int.le_total 0 y with h | h
  · have a : 0 ≤ y.tdiv k := Int.tdiv_nonneg h (by omega)
    have b := tdiv_abs y k 9223372036854775807 hk (by omega) h1
    have m := Int.mul_nonneg a (show 0 ≤ k by omega)
    have r := t2.2.2.1 h
    omega
  · have a : 0 ≤ (-y).tdiv k := Int.tdiv_nonneg (by omega) (by omega)
    rw [Int.neg_tdiv] at a
    have m := Int.mul_nonneg a (show 0 ≤ k by omega)
    rw [Int.neg_mul] at m
    have r := t2.2.2.2 h
    omega
theorem dn_gen (y k : Int) (hk : 0 < k) (h0 : -9223372036854775808 ≤ y) (h1 : y ≤ 9223372036854775807) : dnI y k = y / k ∧ (divDown y k).2 = 0 := by
  have t1 := tdiv_tmod y k
  have t2 := tmod_range y k hk
  have t3 := floor_cases y k hk
  obtain ⟨q1, q3⟩ := q_range y k hk h0 h1
  have q2 : -9223372036854775808 ≤ y / k := by
    have := ediv_abs y k 9223372036854775808 hk h0 (by omega); omega
  unfold dnI divDown
  rw [if_neg (by omega), W_id _ q1.1 q1.2]
  refine ⟨?_, rfl⟩
  show (if _ then _ else _) = _
  by_cases hz : y.tmod k = 0
  · rw [if_neg (fun h => h.1 hz), t3, if_pos hz]
  · by_cases hy : y < 0
    · rw [if_pos ⟨hz, by simp [hy]; omega⟩, t3, if_neg hz, if_pos hy]
      rw [if_neg hz, if_pos hy] at t3
      exact W_id _ (by omega) (by omega)
    · rw [if_neg (by simp; omega), t3, if_neg hz, if_neg hy]
theorem ref_gen (y k : Int) (hk : 0 < k) (h0 : -9223372036854775808 ≤ y) (h1 : y ≤ 9223372036854775807) : refDown y k = y / k := by
  have t1 := tdiv_tmod y k
  have t2 := tmod_range y k hk
  have t3 := floor_rem y k hk
  obtain ⟨q1, q3⟩ := q_range y k hk h0 h1
  have q2 : -9223372036854775808 ≤ y / k := by
    have := ediv_abs y k 9223372036854775808 hk h0 (by omega); omega
  unfold refDown
  rw [W_id _ q1.1 q1.2, W_id (y.tdiv k * k) (by omega) (by omega)]
  by_cases hr : y.tmod k < 0
  · rw [if_pos (by omega)]
    rw [if_pos hr] at t3
    rw [W_id _ (by omega) (by omega), t3]
  · rw [if_neg (by omega)]
    rw [if_neg hr] at t3
    exact t3
theorem upI_gen (y k : Int) (hk : 0 < k) (h0 : -9223372036854775000 ≤ y) (h1 : y ≤ 9223372036854775000) : upI y k = refUp y k := by
  obtain ⟨a1, a2⟩ := dn_gen y k hk (by omega) (by omega)
  have b := ref_gen (0 - y) k hk (by omega) (by omega)
  have c := ceil_cases y k hk
  have d := ediv_abs y k 9223372036854775000 hk h0 h1
  have d' := ediv_abs (-y) k 9223372036854775000 hk (by omega) (by omega)
  unfold dnI at a1
  unfold upI divUp refUp
  rw [a1, a2, W_id (0 - y) (by omega) (by omega), b, show (0 : Int) - y = -y by omega, show 0 - (-y) / k = -((-y) / k) by omega, W_id (-((-y) / k)) (by omega) (by omega)]
  show (if _ then _ else _) = _
  by_cases hz : y.tmod k = 0
  · rw [if_neg (fun h => h.2 hz), c, if_pos hz]
  · rw [if_pos ⟨rfl, hz⟩, c, if_neg hz, W_id _ (by omega) (by omega)]
theorem dnW_gen (z k : Int) (hk : 0 < k) : dnI (W z) k = refDown (W z) k := by
  obtain ⟨m, h, h1, h2, _⟩ := W_eq z
  rw [h, (dn_gen m k hk h1 h2).1, ref_gen m k hk h1 h2]
end Go.Proofs.YtpndjpjpmcehbaaFt
