/- What is proved: float64(n) for whole numbers from 1 to 2^21: how it compares, and that times 1 it stays. Condition: the number's bounds. -/
import Derived.Laws.FloatArith
namespace Go.Proofs.YtacdahpjmeianaaFl
open Go
set_option linter.unusedVariables false
set_option linter.unusedSimpArgs false
open Ieee
theorem log2_at {n L : Nat} (h1 : 2 ^ L ≤ n) (h2 : n < 2 ^ (L + 1)) : n.log2 = L := by
  have h0 : n ≠ 0 := by have := Nat.two_pow_pos L; omega
  have a := (Nat.le_log2 h0 (k := L)).2 h1
  have b := (Nat.log2_lt h0 (k := L + 1)).2 h2
  omega
theorem lp : double.leastPlace = -1074 := by decide
theorem bi : double.binade = 4503599627370496 := by decide
theorem inf : double.infRung = 9218868437227405312 := by decide
theorem sw : double.signWeight = 9223372036854775808 := by decide
theorem read_at {K : Nat} {p : Int} (h1 : 4503599627370496 ≤ K) (h2 : K < 9007199254740992) (h3 : -1074 ≤ p) (h4 : p ≤ 900) :
    double.read ((p + 1074).toNat * 4503599627370496 + K) = .number false K p := by
  unfold Format.read
  rw [lp, bi, inf, sw]
  have e : (p + 1074).toNat ≤ 1974 := by omega
  generalize hq : (p + 1074).toNat = q at e ⊢
  have e1 : (q * 4503599627370496 + K) / 9223372036854775808 % 2 = 0 := by omega
  have e2 : (q * 4503599627370496 + K) % 9223372036854775808 = q * 4503599627370496 + K := by omega
  simp only [e1, e2]
  rw [if_neg (by omega), if_pos (by omega)]
  have e3 : (q * 4503599627370496 + K) % 4503599627370496 = K - 4503599627370496 := by omega
  have e4 : (q * 4503599627370496 + K) / 4503599627370496 = q + 1 := by omega
  rw [e3, e4, show 4503599627370496 + (K - 4503599627370496) = K by omega, show (-1074 : Int) + ((q + 1 - 1 : Nat) : Int) = p by omega]
  rfl
theorem cut0 (s : Bool) (x : Nat) : Toward.even.cut s x 0 = x := by
  unfold Toward.cut
  simp [Nat.mod_one]
theorem nearest_at {n L : Nat} (h1 : 2 ^ L ≤ n) (h2 : n < 2 ^ (L + 1)) (hL : L ≤ 52) :
    double.nearest false n 0 = (((L : Int) - 52) + 1074).toNat * 4503599627370496 + n * 2 ^ (52 - L) ∧ 4503599627370496 ≤ n * 2 ^ (52 - L) ∧ n * 2 ^ (52 - L) < 9007199254740992 := by
  have k1 : 4503599627370496 ≤ n * 2 ^ (52 - L) := by
    have := Nat.mul_le_mul_right (2 ^ (52 - L)) h1
    rwa [← Nat.pow_add, show L + (52 - L) = 52 by omega] at this
  have k2 : n * 2 ^ (52 - L) < 9007199254740992 := by
    have := Nat.mul_lt_mul_of_pos_right h2 (Nat.two_pow_pos (52 - L))
    rwa [← Nat.pow_add, show L + 1 + (52 - L) = 53 by omega] at this
  refine ⟨?_, k1, k2⟩
  unfold Format.nearest
  have h0 : n ≠ 0 := by have := Nat.two_pow_pos L; omega
  rw [if_neg h0, log2_at h1 h2, lp, bi, inf]
  have e1 : max ((0 : Int) + (L : Nat) - (double.fractionBits : Nat)) (-1074) = (L : Int) - 52 := by
    show max ((0 : Int) + (L : Nat) - ((52 : Nat) : Int)) (-1074) = _
    omega
  simp only [e1]
  rw [show ((L : Int) - 52 - 0).toNat = 0 by omega, cut0, Nat.shiftLeft_eq, show ((0 : Int) - ((L : Int) - 52)).toNat = 52 - L by omega]
  unfold Format.word
  rw [if_neg (by decide), show (L : Int) - 52 - -1074 = (L : Int) - 52 + 1074 by omega]
  omega
/-- What is said of a float here: its exponent L, its digits K. -/
structure At (b L K : Nat) : Prop where
  e : b = (L + 1022) * 4503599627370496 + K
  l : L ≤ 52
  k1 : 4503599627370496 ≤ K
  k2 : K < 9007199254740992
theorem At.read {b L K : Nat} (h : At b L K) : double.read b = .number false K ((L : Int) - 52) := by
  have := read_at (p := (L : Int) - 52) h.k1 h.k2 (by have := h.l; omega) (by have := h.l; omega)
  rw [show ((L : Int) - 52 + 1074).toNat = L + 1022 by omega, ← h.e] at this
  exact this
theorem at_int {n : Nat} (h1 : 1 ≤ n) (h2 : n < 4503599627370496) : ∃ L K, At (double.nearest false n 0) L K := by
  have h0 : n ≠ 0 := by omega
  have a := Nat.log2_self_le h0
  have b := Nat.lt_log2_self (n := n)
  have hl : n.log2 < 52 := (Nat.log2_lt h0).2 (by omega)
  obtain ⟨e, k1, k2⟩ := nearest_at a b (by omega)
  exact ⟨n.log2, n * 2 ^ (52 - n.log2), ⟨by rw [e, show ((n.log2 : Int) - 52 + 1074).toNat = n.log2 + 1022 by omega], by omega, k1, k2⟩⟩
theorem cmp_gt {a b : Int} (h : b < a) : compare a b = .gt := by
  simp only [compare, compareOfLessAndEq]
  rw [if_neg (by omega), if_neg (by omega)]
theorem cmp_lt {a b : Int} (h : a < b) : compare a b = .lt := by
  simp only [compare, compareOfLessAndEq]
  rw [if_pos h]
theorem cmp_eq (a : Int) : compare a a = .eq := by
  simp [compare, compareOfLessAndEq]
theorem order_zero {b L K : Nat} (h : At b L K) : double.order b 0 = some .gt := by
  have hz : double.read 0 = .number false 0 (-1074) := by decide
  unfold Format.order
  rw [h.read, hz]
  simp only [Datum.order, signed]
  rw [if_neg (by simp), if_neg (by simp)]
  refine congrArg some (cmp_gt ?_)
  rw [Nat.shiftLeft_eq, Nat.shiftLeft_eq, Nat.zero_mul]
  have := Nat.mul_pos (show 0 < K by have := h.k1; omega) (Nat.two_pow_pos ((L : Int) - 52 - min ((L : Int) - 52) (-1074)).toNat)
  omega
theorem order_self {b L K : Nat} (h : At b L K) : double.order b b = some .eq := by
  unfold Format.order
  rw [h.read]
  simp only [Datum.order]
  exact congrArg some (cmp_eq _)
theorem order_max {b L K : Nat} (h : At b L K) : double.order b 9218868437227405311 = some .lt := by
  have hz : double.read 9218868437227405311 = .number false 9007199254740991 971 := by decide
  unfold Format.order
  rw [h.read, hz]
  have hl := h.l
  simp only [Datum.order, signed]
  rw [if_neg (by simp), if_neg (by simp)]
  refine congrArg some (cmp_lt ?_)
  rw [Nat.shiftLeft_eq, Nat.shiftLeft_eq, show min ((L : Int) - 52) 971 = (L : Int) - 52 by omega, Int.sub_self, show Int.toNat 0 = 0 from rfl, Nat.pow_zero, Nat.mul_one]
  have e : (971 - ((L : Int) - 52)).toNat = (1022 - L) + 1 := by omega
  rw [e, Nat.pow_succ]
  have h2 := Nat.two_pow_pos (1022 - L)
  have h3 : 9007199254740991 * 2 ≤ 9007199254740991 * (2 ^ (1022 - L) * 2) := Nat.mul_le_mul_left _ (by omega)
  have := h.k2
  omega
theorem order_min {b L K : Nat} (h : At b L K) : double.order b 4503599627370496 = some .gt := by
  have hz : double.read 4503599627370496 = .number false 4503599627370496 (-1074) := by decide
  unfold Format.order
  rw [h.read, hz]
  simp only [Datum.order, signed]
  rw [if_neg (by simp), if_neg (by simp)]
  refine congrArg some (cmp_gt ?_)
  rw [Nat.shiftLeft_eq, Nat.shiftLeft_eq, show min ((L : Int) - 52) (-1074) = -1074 by omega, show ((-1074 : Int) - -1074).toNat = 0 by decide, Nat.pow_zero, Nat.mul_one]
  have e : ((L : Int) - 52 - -1074).toNat = (L + 1021) + 1 := by omega
  rw [e, Nat.pow_succ]
  have h2 := Nat.two_pow_pos (L + 1021)
  have h3 : K * 2 ≤ K * (2 ^ (L + 1021) * 2) := Nat.mul_le_mul_left _ (by omega)
  have := h.k1
  omega
theorem mul_one {b L K : Nat} (h : At b L K) : double.mul 4607182418800017408 b = some b := by
  have hz : double.read 4607182418800017408 = .number false 4503599627370496 (-52) := by decide
  unfold Format.mul
  rw [h.read, hz]
  simp only [Datum.product, Option.map_some]
  refine congrArg some ?_
  have hl := h.l
  have k1 := h.k1
  have k2 := h.k2
  show double.nearest (false ^^ false) (4503599627370496 * K) (-52 + ((L : Int) - 52)) = b
  unfold Format.nearest
  have hlog : (4503599627370496 * K).log2 = 104 := log2_at (L := 104) (by have := Nat.mul_le_mul_left 4503599627370496 k1; omega) (by omega)
  rw [if_neg (by omega), hlog, lp, bi, inf]
  have e1 : max (-52 + ((L : Int) - 52) + ((104 : Nat) : Int) - (double.fractionBits : Nat)) (-1074) = (L : Int) - 52 := by
    show max (-52 + ((L : Int) - 52) + ((104 : Nat) : Int) - ((52 : Nat) : Int)) (-1074) = _
    omega
  simp only [e1]
  rw [show (-52 + ((L : Int) - 52) - ((L : Int) - 52)).toNat = 0 by omega, Nat.shiftLeft_zero, show ((L : Int) - 52 - (-52 + ((L : Int) - 52))).toNat = 52 by omega]
  have hc : Toward.even.cut (false ^^ false) (4503599627370496 * K) 52 = K := by
    unfold Toward.cut
    rw [hlog]
    have e2 : (1 <<< min 52 (104 + 2) : Nat) = 4503599627370496 := by decide
    simp only [e2]
    rw [Nat.mul_mod_right, Nat.mul_div_cancel_left _ (by decide)]
    simp
  rw [hc]
  unfold Format.word
  rw [if_neg (by decide), show ((L : Int) - 52 - -1074).toNat = L + 1022 by omega, h.e]
  omega
end Go.Proofs.YtacdahpjmeianaaFl
