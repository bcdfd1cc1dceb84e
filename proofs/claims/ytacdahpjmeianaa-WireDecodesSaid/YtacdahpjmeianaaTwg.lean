/- What is proved: what the bit operations of math.ldexp give at the float of a small whole number. Condition: the float's form. -/
import Derived.Test.YtacdahpjmeianaaTwf
import Derived.IntWalk
namespace Go.Proofs.YtacdahpjmeianaaFl
open Go Go.Proofs
set_option linter.unusedVariables false
theorem bv_nat {x : Nat} (h : x < 18446744073709551616) : (BitVec.ofInt 64 (x : Int)).toNat = x := by
  rw [BitVec.toNat_ofInt]
  have : ((x : Int) % ((2 ^ 64 : Nat) : Int)) = (x : Int) := Int.emod_eq_of_lt (by omega) (by show (x : Int) < 18446744073709551616; omega)
  rw [this, Int.toNat_natCast]
theorem i64_in {n : Int} (h0 : -1000000000000000000 ≤ n) (h : n ≤ 1000000000000000000) : IntKind.i64.wrap n = n := IntWalk.i64_in n (by omega)
theorem u64_in {n : Int} (h0 : 0 ≤ n) (h : n < 18446744073709551616) : IntKind.u64.wrap n = n := by
  show n % 18446744073709551616 = n
  exact Int.emod_eq_of_lt h0 h
theorem at_lt {b L K : Nat} (h : At b L K) : b < 9223372036854775808 := by
  have := h.e; have := h.l; have := h.k2; omega
theorem abs_bits {b L K : Nat} (h : At b L K) : IntKind.u64.wrap (((BitVec.ofInt 64 (b : Int) &&& ~~~BitVec.ofInt 64 9223372036854775808).toNat : Nat) : Int) = (b : Int) := by
  have hb := at_lt h
  have e : (~~~BitVec.ofInt 64 9223372036854775808).toNat = 2 ^ 63 - 1 := by decide
  rw [BitVec.toNat_and, bv_nat (by omega), e, Nat.and_two_pow_sub_one_eq_mod, Nat.mod_eq_of_lt hb, u64_in (by omega) (by omega)]
theorem exp_bits {b L K : Nat} (h : At b L K) : IntKind.i64.wrap ((b : Int).fdiv (2 ^ min (Int.toNat 52) IntKind.u64.bits)) = ((L + 1023 : Nat) : Int) := by
  have e : (2 : Int) ^ min (Int.toNat 52) IntKind.u64.bits = 4503599627370496 := by decide
  have he := h.e
  have hl := h.l
  have k1 := h.k1
  have k2 := h.k2
  rw [e, Int.fdiv_eq_ediv_of_nonneg _ (by omega), i64_in (by omega) (by omega)]
  omega
theorem low_bits {L : Nat} (h : L ≤ 52) : IntKind.i64.wrap (((BitVec.ofInt 64 ((L + 1023 : Nat) : Int) &&& BitVec.ofInt 64 2047).toNat : Nat) : Int) = ((L + 1023 : Nat) : Int) := by
  have e : (BitVec.ofInt 64 2047).toNat = 2 ^ 11 - 1 := by decide
  rw [BitVec.toNat_and, bv_nat (by omega), e, Nat.and_two_pow_sub_one_eq_mod, Nat.mod_eq_of_lt (show L + 1023 < 2 ^ 11 by omega), i64_in (by omega) (by omega)]
theorem frac_bits {b L K : Nat} (h : At b L K) : IntKind.u64.wrap (((BitVec.ofInt 64 (b : Int) &&& ~~~BitVec.ofInt 64 9218868437227405312).toNat : Nat) : Int) = ((K - 4503599627370496 : Nat) : Int) := by
  have hb := at_lt h
  have he := h.e
  have k1 := h.k1
  have k2 := h.k2
  have e : (~~~BitVec.ofInt 64 9218868437227405312).toNat = 9227875636482146303 := by decide
  have e2 : (9223372036854775807 : Nat) &&& 9227875636482146303 = 2 ^ 52 - 1 := by decide
  have e3 : b = b &&& 9223372036854775807 := by
    have := Nat.and_two_pow_sub_one_eq_mod b 63
    rw [show (2 : Nat) ^ 63 - 1 = 9223372036854775807 by decide] at this
    rw [this, Nat.mod_eq_of_lt hb]
  rw [BitVec.toNat_and, bv_nat (by omega), e]
  have e4 : b &&& 9227875636482146303 = K - 4503599627370496 := by
    rw [e3, Nat.and_assoc, e2, Nat.and_two_pow_sub_one_eq_mod]
    omega
  rw [e4, u64_in (by omega) (by omega)]
theorem put_bits {b L K : Nat} (h : At b L K) : IntKind.u64.wrap (((BitVec.ofInt 64 ((K - 4503599627370496 : Nat) : Int) ||| BitVec.ofInt 64 (((L + 1023) * 4503599627370496 : Nat) : Int)).toNat : Nat) : Int) = (b : Int) := by
  have he := h.e
  have hl := h.l
  have k1 := h.k1
  have k2 := h.k2
  have e := Nat.two_pow_add_eq_or_of_lt (i := 52) (b := K - 4503599627370496) (by omega) (L + 1023)
  rw [BitVec.toNat_or, bv_nat (by omega), bv_nat (by omega), Nat.or_comm, Nat.mul_comm (L + 1023), show (4503599627370496 : Nat) = 2 ^ 52 by decide]
  rw [show (4503599627370496 : Nat) = 2 ^ 52 by decide] at e he
  rw [← e, u64_in (by omega) (by omega)]
  omega
end Go.Proofs.YtacdahpjmeianaaFl
