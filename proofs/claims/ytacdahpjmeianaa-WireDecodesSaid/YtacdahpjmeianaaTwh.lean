/- What is proved: float64(n) for any whole number of 64 bits: its form, how it compares, that times 1 it stays, and what the bit operations of math.ldexp give. Condition: the float's form. -/
import Derived.Test.YtacdahpjmeianaaTwg
namespace Go.Proofs.YtacdahpjmeianaaFl
open Go Go.Proofs
set_option linter.unusedVariables false
set_option maxRecDepth 100000
set_option linter.unusedSimpArgs false
open Ieee
/-- What is said of a float here: its sign s, its exponent L, its digits K. -/
structure Bs (b s L K : Nat) : Prop where
  e : b = s * 9223372036854775808 + (L + 1022) * 4503599627370496 + K
  s : s ≤ 1
  l : L ≤ 64
  k1 : 4503599627370496 ≤ K
  k2 : K < 9007199254740992
theorem read_s {s K : Nat} {p : Int} (hs : s ≤ 1) (h1 : 4503599627370496 ≤ K) (h2 : K < 9007199254740992) (h3 : -1074 ≤ p) (h4 : p ≤ 900) :
    double.read (s * 9223372036854775808 + (p + 1074).toNat * 4503599627370496 + K) = .number (s == 1) K p := by
  unfold Format.read
  rw [lp, bi, inf, sw]
  have e : (p + 1074).toNat ≤ 1974 := by omega
  generalize hq : (p + 1074).toNat = q at e ⊢
  have e1 : (s * 9223372036854775808 + q * 4503599627370496 + K) / 9223372036854775808 % 2 = s := by omega
  have e2 : (s * 9223372036854775808 + q * 4503599627370496 + K) % 9223372036854775808 = q * 4503599627370496 + K := by omega
  simp only [e1, e2]
  clear e1 e2
  rw [if_neg (by omega), if_pos (by omega)]
  have e3 : (q * 4503599627370496 + K) % 4503599627370496 = K - 4503599627370496 := by omega
  have e4 : (q * 4503599627370496 + K) / 4503599627370496 = q + 1 := by omega
  rw [e3, e4, show 4503599627370496 + (K - 4503599627370496) = K by omega, show (-1074 : Int) + ((q + 1 - 1 : Nat) : Int) = p by omega]
theorem Bs.read {b s L K : Nat} (h : Bs b s L K) : double.read b = .number (s == 1) K ((L : Int) - 52) := by
  have := read_s (p := (L : Int) - 52) h.s h.k1 h.k2 (by have := h.l; omega) (by have := h.l; omega)
  rw [show ((L : Int) - 52 + 1074).toNat = L + 1022 by omega, ← h.e] at this
  exact this
theorem cut_in (g : Bool) (n k : Nat) (h : k ≤ n.log2 + 2) : n / 2 ^ k ≤ Toward.even.cut g n k ∧ Toward.even.cut g n k ≤ n / 2 ^ k + 1 := by
  unfold Toward.cut
  rw [Nat.min_eq_left h, Nat.shiftLeft_eq, Nat.one_mul]
  simp only []
  generalize (decide (2 ^ k < 2 * (n % 2 ^ k)) || (2 ^ k == 2 * (n % 2 ^ k) && n / 2 ^ k % 2 == 1)) = b
  cases b <;> simp [Bool.toNat]
theorem at_word (g : Bool) (x : Nat) (h : x < 9223372036854775808) : double.word g x = g.toNat * 9223372036854775808 + x := by
  unfold Format.word
  rw [sw]
  cases g <;> simp [Bool.toNat] <;> omega
theorem nearest_s (g : Bool) {n : Nat} (h1 : 1 ≤ n) (h2 : n ≤ 9223372036854775808) : ∃ L K, Bs (double.nearest g n 0) g.toNat L K := by
  have h0 : n ≠ 0 := by omega
  have a := Nat.log2_self_le h0
  have b := Nat.lt_log2_self (n := n)
  have hl : n.log2 < 64 := (Nat.log2_lt h0).2 (by omega)
  generalize hL : n.log2 = l at a b hl
  have hg : g.toNat ≤ 1 := by cases g <;> decide
  unfold Format.nearest
  rw [if_neg h0, hL, lp, bi, inf]
  have e1 : max ((0 : Int) + (l : Nat) - (double.fractionBits : Nat)) (-1074) = (l : Int) - 52 := by
    show max ((0 : Int) + (l : Nat) - ((52 : Nat) : Int)) (-1074) = _
    omega
  simp only [e1]
  have e2 : ((l : Int) - 52 - -1074).toNat = l + 1022 := by omega
  rw [e2]
  have fin : ∀ c, 4503599627370496 ≤ c → c ≤ 9007199254740992 → ∃ L K, Bs (double.word g (min ((l + 1022) * 4503599627370496 + c) 9218868437227405312)) g.toNat L K := by
    intro c c1 c2
    rw [at_word _ _ (by omega)]
    by_cases hc : c = 9007199254740992
    · exact ⟨l + 1, 4503599627370496, by omega, hg, by omega, by omega, by omega⟩
    · exact ⟨l, c, by omega, hg, by omega, by omega, by omega⟩
  by_cases hl2 : l ≤ 52
  · have k1 : 4503599627370496 ≤ n * 2 ^ (52 - l) := by
      have := Nat.mul_le_mul_right (2 ^ (52 - l)) a
      rwa [← Nat.pow_add, show l + (52 - l) = 52 by omega] at this
    have k2 : n * 2 ^ (52 - l) < 9007199254740992 := by
      have := Nat.mul_lt_mul_of_pos_right b (Nat.two_pow_pos (52 - l))
      rwa [← Nat.pow_add, show l + 1 + (52 - l) = 53 by omega] at this
    rw [show ((l : Int) - 52 - 0).toNat = 0 by omega, cut0, Nat.shiftLeft_eq, show ((0 : Int) - ((l : Int) - 52)).toNat = 52 - l by omega]
    exact fin _ k1 (by omega)
  · rw [show ((0 : Int) - ((l : Int) - 52)).toNat = 0 by omega, Nat.shiftLeft_zero, show ((l : Int) - 52 - 0).toNat = l - 52 by omega]
    obtain ⟨c1, c2⟩ := cut_in g n (l - 52) (by omega)
    have k1 : 4503599627370496 ≤ n / 2 ^ (l - 52) := by
      rw [Nat.le_div_iff_mul_le (Nat.two_pow_pos _), show (4503599627370496 : Nat) = 2 ^ 52 by decide, ← Nat.pow_add, show 52 + (l - 52) = l by omega]; exact a
    have k2 : n / 2 ^ (l - 52) < 9007199254740992 := by
      rw [Nat.div_lt_iff_lt_mul (Nat.two_pow_pos _), show (9007199254740992 : Nat) = 2 ^ 53 by decide, ← Nat.pow_add, show 53 + (l - 52) = l + 1 by omega]; exact b
    exact fin _ (by omega) (by omega)
theorem sorder_zero {b s L K : Nat} (h : Bs b s L K) : (double.order b 0 == some .eq) = false := by
  have hz : double.read 0 = .number false 0 (-1074) := by decide
  unfold Format.order
  rw [h.read, hz]
  have hk := h.k1
  have := Nat.mul_pos (show 0 < K by omega) (Nat.two_pow_pos ((L : Int) - 52 - min ((L : Int) - 52) (-1074)).toNat)
  have hs := h.s
  simp only [Datum.order, signed]
  rw [Nat.shiftLeft_eq, Nat.shiftLeft_eq, Nat.zero_mul]
  generalize K * 2 ^ ((L : Int) - 52 - min ((L : Int) - 52) (-1074)).toNat = Q at *
  cases hb : (s == 1) with
  | true =>
    rw [if_pos rfl, if_neg (by simp), cmp_lt (by omega)]; rfl
  | false =>
    rw [if_neg (by simp), if_neg (by simp), cmp_gt (by omega)]; rfl
theorem sorder_self {b s L K : Nat} (h : Bs b s L K) : double.order b b = some .eq := by
  unfold Format.order
  rw [h.read]
  simp only [Datum.order]
  exact congrArg some (cmp_eq _)
theorem sorder_max {b L K : Nat} (h : Bs b 0 L K) : double.order b 9218868437227405311 = some .lt := by
  have hz : double.read 9218868437227405311 = .number false 9007199254740991 971 := by decide
  unfold Format.order
  rw [h.read, hz]
  have hl := h.l
  simp only [Datum.order, signed]
  rw [if_neg (by simp), if_neg (by simp)]
  refine congrArg some (cmp_lt ?_)
  rw [Nat.shiftLeft_eq, Nat.shiftLeft_eq, show min ((L : Int) - 52) 971 = (L : Int) - 52 by omega, Int.sub_self, show Int.toNat 0 = 0 from rfl, Nat.pow_zero, Nat.mul_one]
  have e : (971 - ((L : Int) - 52)).toNat = (1022 - L) + 1 := by omega
  rw [e, Nat.pow_succ]
  have h2 := Nat.two_pow_pos (1022 - L)
  have h3 : 9007199254740991 * 2 ≤ 9007199254740991 * (2 ^ (1022 - L) * 2) := Nat.mul_le_mul_left _ (by omega)
  have := h.k2
  omega
theorem sorder_min {b L K : Nat} (h : Bs b 0 L K) : double.order b 4503599627370496 = some .gt := by
  have hz : double.read 4503599627370496 = .number false 4503599627370496 (-1074) := by decide
  unfold Format.order
  rw [h.read, hz]
  simp only [Datum.order, signed]
  rw [if_neg (by simp), if_neg (by simp)]
  refine congrArg some (cmp_gt ?_)
  rw [Nat.shiftLeft_eq, Nat.shiftLeft_eq, show min ((L : Int) - 52) (-1074) = -1074 by omega, show ((-1074 : Int) - -1074).toNat = 0 by decide, Nat.pow_zero, Nat.mul_one]
  have e : ((L : Int) - 52 - -1074).toNat = (L + 1021) + 1 := by omega
  rw [e, Nat.pow_succ]
  have h2 := Nat.two_pow_pos (L + 1021)
  have h3 : K * 2 ≤ K * (2 ^ (L + 1021) * 2) := Nat.mul_le_mul_left _ (by omega)
  have := h.k1
  omega
theorem smul_one {b s L K : Nat} (h : Bs b s L K) : double.mul 4607182418800017408 b = some b := by
  have hz : double.read 4607182418800017408 = .number false 4503599627370496 (-52) := by decide
  unfold Format.mul
  rw [h.read, hz]
  simp only [Datum.product, Option.map_some]
  refine congrArg some ?_
  have hl := h.l
  have k1 := h.k1
  have k2 := h.k2
  have hs := h.s
  show double.nearest (false ^^ (s == 1)) (4503599627370496 * K) (-52 + ((L : Int) - 52)) = b
  rw [Bool.false_xor]
  unfold Format.nearest
  have hlog : (4503599627370496 * K).log2 = 104 := log2_at (L := 104) (by have := Nat.mul_le_mul_left 4503599627370496 k1; omega) (by omega)
  rw [if_neg (by omega), hlog, lp, bi, inf]
  have e1 : max (-52 + ((L : Int) - 52) + ((104 : Nat) : Int) - (double.fractionBits : Nat)) (-1074) = (L : Int) - 52 := by
    show max (-52 + ((L : Int) - 52) + ((104 : Nat) : Int) - ((52 : Nat) : Int)) (-1074) = _
    omega
  simp only [e1]
  rw [show (-52 + ((L : Int) - 52) - ((L : Int) - 52)).toNat = 0 by omega, Nat.shiftLeft_zero, show ((L : Int) - 52 - (-52 + ((L : Int) - 52))).toNat = 52 by omega]
  have hc : Toward.even.cut (s == 1) (4503599627370496 * K) 52 = K := by
    unfold Toward.cut
    rw [hlog]
    have e2 : (1 <<< min 52 (104 + 2) : Nat) = 4503599627370496 := by decide
    simp only [e2]
    rw [Nat.mul_mod_right, Nat.mul_div_cancel_left _ (by decide)]
    simp
  rw [hc, show ((L : Int) - 52 - -1074).toNat = L + 1022 by omega, at_word _ _ (by omega), h.e]
  have : (s == 1).toNat = s := by
    rcases Nat.le_one_iff_eq_zero_or_eq_one.1 hs with rfl | rfl <;> rfl
  rw [this]
  omega
/-! ### Bits -/
theorem Bs.lt {b s L K : Nat} (h : Bs b s L K) : b < 18446744073709551616 := by
  have := h.e; have := h.l; have := h.k2; have := h.s; omega
theorem Bs.abs {b s L K : Nat} (h : Bs b s L K) : Bs (b % 9223372036854775808) 0 L K := by
  have := h.e; have := h.l; have := h.k1; have := h.k2; have := h.s
  exact ⟨by omega, by omega, by omega, by omega, by omega⟩
theorem sabs_bits {b s L K : Nat} (h : Bs b s L K) : IntKind.u64.wrap (((BitVec.ofInt 64 (b : Int) &&& ~~~BitVec.ofInt 64 9223372036854775808).toNat : Nat) : Int) = ((b % 9223372036854775808 : Nat) : Int) := by
  have hb := h.lt
  have e : (~~~BitVec.ofInt 64 9223372036854775808).toNat = 2 ^ 63 - 1 := by decide
  rw [BitVec.toNat_and, bv_nat (by omega), e, Nat.and_two_pow_sub_one_eq_mod, u64_in (by omega) (by omega)]
theorem sexp_bits {b s L K : Nat} (h : Bs b s L K) : IntKind.i64.wrap ((b : Int).fdiv (2 ^ min (Int.toNat 52) IntKind.u64.bits)) = ((s * 2048 + L + 1023 : Nat) : Int) := by
  have e : (2 : Int) ^ min (Int.toNat 52) IntKind.u64.bits = 4503599627370496 := by decide
  have he := h.e
  have hl := h.l
  have k1 := h.k1
  have k2 := h.k2
  have hs := h.s
  rw [e, Int.fdiv_eq_ediv_of_nonneg _ (by omega), i64_in (by omega) (by omega)]
  omega
theorem slow_bits {s L : Nat} (hs : s ≤ 1) (h : L ≤ 64) : IntKind.i64.wrap (((BitVec.ofInt 64 ((s * 2048 + L + 1023 : Nat) : Int) &&& BitVec.ofInt 64 2047).toNat : Nat) : Int) = ((L + 1023 : Nat) : Int) := by
  have e : (BitVec.ofInt 64 2047).toNat = 2 ^ 11 - 1 := by decide
  rw [BitVec.toNat_and, bv_nat (by omega), e, Nat.and_two_pow_sub_one_eq_mod, show (s * 2048 + L + 1023) % 2 ^ 11 = L + 1023 by omega, i64_in (by omega) (by omega)]
theorem sfrac_bits {b s L K : Nat} (h : Bs b s L K) : IntKind.u64.wrap (((BitVec.ofInt 64 (b : Int) &&& ~~~BitVec.ofInt 64 9218868437227405312).toNat : Nat) : Int) = ((s * 9223372036854775808 + (K - 4503599627370496) : Nat) : Int) := by
  have hb := h.lt
  have he := h.e
  have k1 := h.k1
  have k2 := h.k2
  have hl := h.l
  have hs := h.s
  have e : (~~~BitVec.ofInt 64 9218868437227405312).toNat = 9227875636482146303 := by decide
  have e2 : (9223372036854775807 : Nat) &&& 9227875636482146303 = 2 ^ 52 - 1 := by decide
  rw [BitVec.toNat_and, bv_nat (by omega), e]
  have low : ∀ r, r < 9223372036854775808 → r &&& 9227875636482146303 = r % 2 ^ 52 := by
    intro r hr
    have e3 : r = r &&& 9223372036854775807 := by
      have := Nat.and_two_pow_sub_one_eq_mod r 63
      rw [show (2 : Nat) ^ 63 - 1 = 9223372036854775807 by decide] at this
      rw [this, Nat.mod_eq_of_lt hr]
    rw [e3, Nat.and_assoc, e2, Nat.and_two_pow_sub_one_eq_mod, ← e3]
  have e4 : b &&& 9227875636482146303 = s * 9223372036854775808 + (K - 4503599627370496) := by
    rcases Nat.le_one_iff_eq_zero_or_eq_one.1 hs with rfl | rfl
    · rw [low b (by omega)]; omega
    · have hr : (b - 9223372036854775808) < 2 ^ 63 := by omega
      have o := Nat.two_pow_add_eq_or_of_lt hr 1
      rw [show 2 ^ 63 * 1 + (b - 9223372036854775808) = b by omega] at o
      rw [o, Nat.and_or_distrib_right, low (b - 9223372036854775808) (by omega), show (2 ^ 63 * 1 &&& 9227875636482146303 : Nat) = 2 ^ 63 * 1 by decide]
      have o2 := Nat.two_pow_add_eq_or_of_lt (i := 63) (b := (b - 9223372036854775808) % 2 ^ 52) (by omega) 1
      rw [← o2]
      omega
  rw [e4, u64_in (by omega) (by omega)]
theorem sput_bits {b s L K : Nat} (h : Bs b s L K) : IntKind.u64.wrap (((BitVec.ofInt 64 ((s * 9223372036854775808 + (K - 4503599627370496) : Nat) : Int) ||| BitVec.ofInt 64 (((L + 1023) * 4503599627370496 : Nat) : Int)).toNat : Nat) : Int) = (b : Int) := by
  have he := h.e
  have hl := h.l
  have k1 := h.k1
  have k2 := h.k2
  have hs := h.s
  have e := Nat.two_pow_add_eq_or_of_lt (i := 52) (b := K - 4503599627370496) (by omega) (L + 1023)
  have e2 := Nat.two_pow_add_eq_or_of_lt (i := 63) (b := K - 4503599627370496) (by omega) s
  have e3 := Nat.two_pow_add_eq_or_of_lt (i := 63) (b := 2 ^ 52 * (L + 1023) + (K - 4503599627370496)) (by omega) s
  rw [show (2 : Nat) ^ 52 = 4503599627370496 by decide] at e e3
  rw [show (2 : Nat) ^ 63 = 9223372036854775808 by decide] at e2 e3
  rw [BitVec.toNat_or, bv_nat (by omega), bv_nat (by omega)]
  have e4 : s * 9223372036854775808 + (K - 4503599627370496) ||| (L + 1023) * 4503599627370496 = b := by
    rw [Nat.mul_comm s, e2, Nat.or_assoc, Nat.or_comm (K - 4503599627370496), Nat.mul_comm (L + 1023), ← e, ← e3]
    omega
  rw [e4, u64_in (by omega) (by omega)]
end Go.Proofs.YtacdahpjmeianaaFl
