/- What is proved: the square root of a whole number from 1 to 2^53 - 1, taken as a float and cut to a whole number, is there and at least 1. Condition: the number's bounds. -/
import Derived.Laws.FloatArith
namespace Go.Proofs.YtpndjpjpmcehbaaTu
open Go
set_option linter.unusedVariables false
set_option linter.unusedSimpArgs false
open Ieee
theorem log2_at {n L : Nat} (h1 : 2 ^ L ≤ n) (h2 : n < 2 ^ (L + 1)) : n.log2 = L := by
  have h0 : n ≠ 0 := by have := Nat.two_pow_pos L; omega
  have a := (Nat.le_log2 h0 (k := L)).2 h1
  have b := (Nat.log2_lt h0 (k := L + 1)).2 h2
  omega
theorem lp : double.leastPlace = -1074 := by decide
theorem bi : double.binade = 4503599627370496 := by decide
theorem inf : double.infRung = 9218868437227405312 := by decide
theorem sw : double.signWeight = 9223372036854775808 := by decide
theorem read_at {K : Nat} {p : Int} (h1 : 4503599627370496 ≤ K) (h2 : K < 9007199254740992) (h3 : -1074 ≤ p) (h4 : p ≤ 900) :
    double.read ((p + 1074).toNat * 4503599627370496 + K) = .number false K p := by
  unfold Format.read
  rw [lp, bi, inf, sw]
  have e : (p + 1074).toNat ≤ 1974 := by omega
  generalize hq : (p + 1074).toNat = q at e ⊢
  have e1 : (q * 4503599627370496 + K) / 9223372036854775808 % 2 = 0 := by omega
  have e2 : (q * 4503599627370496 + K) % 9223372036854775808 = q * 4503599627370496 + K := by omega
  simp only [e1, e2]
  rw [if_neg (by omega), if_pos (by omega)]
  have e3 : (q * 4503599627370496 + K) % 4503599627370496 = K - 4503599627370496 := by omega
  have e4 : (q * 4503599627370496 + K) / 4503599627370496 = q + 1 := by omega
  rw [e3, e4, show 4503599627370496 + (K - 4503599627370496) = K by omega, show (-1074 : Int) + ((q + 1 - 1 : Nat) : Int) = p by omega]
  rfl
theorem cut0 (s : Bool) (x : Nat) : Toward.even.cut s x 0 = x := by
  unfold Toward.cut
  simp [Nat.mod_one]
theorem nearest_at {n L : Nat} (h1 : 2 ^ L ≤ n) (h2 : n < 2 ^ (L + 1)) (hL : L ≤ 52) :
    double.nearest false n 0 = (((L : Int) - 52) + 1074).toNat * 4503599627370496 + n * 2 ^ (52 - L) ∧ 4503599627370496 ≤ n * 2 ^ (52 - L) ∧ n * 2 ^ (52 - L) < 9007199254740992 := by
  have k1 : 4503599627370496 ≤ n * 2 ^ (52 - L) := by
    have := Nat.mul_le_mul_right (2 ^ (52 - L)) h1
    rwa [← Nat.pow_add, show L + (52 - L) = 52 by omega] at this
  have k2 : n * 2 ^ (52 - L) < 9007199254740992 := by
    have := Nat.mul_lt_mul_of_pos_right h2 (Nat.two_pow_pos (52 - L))
    rwa [← Nat.pow_add, show L + 1 + (52 - L) = 53 by omega] at this
  refine ⟨?_, k1, k2⟩
  unfold Format.nearest
  have h0 : n ≠ 0 := by have := Nat.two_pow_pos L; omega
  rw [if_neg h0, log2_at h1 h2, lp, bi, inf]
  have e1 : max ((0 : Int) + (L : Nat) - (double.fractionBits : Nat)) (-1074) = (L : Int) - 52 := by
    show max ((0 : Int) + (L : Nat) - ((52 : Nat) : Int)) (-1074) = _
    omega
  simp only [e1]
  rw [show ((L : Int) - 52 - 0).toNat = 0 by omega, cut0, Nat.shiftLeft_eq, show ((0 : Int) - ((L : Int) - 52)).toNat = 52 - L by omega]
  unfold Format.word
  rw [if_neg (by decide), show (L : Int) - 52 - -1074 = (L : Int) - 52 + 1074 by omega]
  omega
theorem rootFrom_at : ∀ (t n r : Nat), r * r ≤ n → n < (r + 2 ^ t) * (r + 2 ^ t) → Datum.rootFrom n t r * Datum.rootFrom n t r ≤ n ∧ n < (Datum.rootFrom n t r + 1) * (Datum.rootFrom n t r + 1)
  | 0, n, r, h1, h2 => ⟨h1, by simpa [Datum.rootFrom] using h2⟩
  | t + 1, n, r, h1, h2 => by
    unfold Datum.rootFrom
    simp only [Nat.shiftLeft_eq, Nat.one_mul]
    split
    · rename_i h
      refine rootFrom_at t n (r + 2 ^ t) h ?_
      rwa [show r + 2 ^ t + 2 ^ t = r + 2 ^ (t + 1) by rw [Nat.pow_succ]; omega]
    · rename_i h
      exact rootFrom_at t n r h1 (by omega)
theorem root_at {K : Nat} {p : Int} (h1 : 4503599627370496 ≤ K) (h2 : K < 9007199254740992) (h3 : -52 ≤ p) (h4 : p ≤ 0) :
    ∃ M q, Datum.root 54 (.number false K p) = some (.number false M q) ∧ 2 ^ 55 ≤ M ∧ M < 2 ^ 56 ∧ -55 ≤ q ∧ q ≤ -29 := by
  have hl : K.log2 = 52 := log2_at (L := 52) h1 h2
  unfold Datum.root
  simp only []
  rw [if_neg (by omega)]
  simp only [Bool.false_eq_true, if_false, hl]
  generalize hm : 2 * 54 - 52 + ((p - ((2 * 54 - 52 : Nat) : Int)) % 2).toNat = more
  have hmore : (more = 56 ∧ (p - 56) % 2 = 0) ∨ (more = 57 ∧ (p - 56) % 2 = 1) := by omega
  have n1 : 2 ^ 108 ≤ K <<< more ∧ K <<< more < 2 ^ 110 := by
    rw [Nat.shiftLeft_eq]
    rcases hmore with ⟨h, _⟩ | ⟨h, _⟩ <;> subst h <;> constructor <;> omega
  generalize K <<< more = n at n1
  have hn0 : n ≠ 0 := by omega
  have hr := rootFrom_at (n.log2 / 2 + 1) n 0 (by omega) (by
    have a := (Nat.log2_lt hn0 (k := n.log2 + 1)).1 (by omega)
    rw [Nat.zero_add, ← Nat.pow_add]
    exact Nat.lt_of_lt_of_le a (Nat.pow_le_pow_right (by decide) (by omega)))
  generalize Datum.rootFrom n (n.log2 / 2 + 1) 0 = r at hr
  have r1 : 2 ^ 54 ≤ r := by
    rcases Nat.lt_or_ge r (2 ^ 54) with h | h
    · have : (r + 1) * (r + 1) ≤ 2 ^ 54 * 2 ^ 54 := Nat.mul_le_mul (by omega) (by omega)
      omega
    · exact h
  have r2 : r < 2 ^ 55 := by
    rcases Nat.lt_or_ge r (2 ^ 55) with h | h
    · exact h
    · have : 2 ^ 55 * 2 ^ 55 ≤ r * r := Nat.mul_le_mul h h
      omega
  refine ⟨_, _, rfl, ?_, ?_, ?_, ?_⟩
  · cases (r * r != n) <;> simp <;> omega
  · cases (r * r != n) <;> simp <;> omega
  · omega
  · omega
theorem write_at {M : Nat} {q : Int} (h1 : 2 ^ 55 ≤ M) (h2 : M < 2 ^ 56) (h3 : -55 ≤ q) (h4 : q ≤ -29) :
    ∃ K p, double.write (.number false M q) = (p + 1074).toNat * 4503599627370496 + K ∧ 4503599627370496 ≤ K ∧ K < 9007199254740992 ∧ -52 ≤ p ∧ p ≤ -25 := by
  have hl : M.log2 = 55 := log2_at (L := 55) h1 h2
  unfold Format.write Format.nearest
  simp only []
  rw [if_neg (by omega), hl, lp, bi, inf]
  have e1 : max (q + ((55 : Nat) : Int) - (double.fractionBits : Nat)) (-1074) = q + 3 := by
    show max (q + ((55 : Nat) : Int) - ((52 : Nat) : Int)) (-1074) = _
    omega
  simp only [e1]
  rw [show (q - (q + 3)).toNat = 0 by omega, show (q + 3 - q).toNat = 3 by omega, Nat.shiftLeft_zero]
  have hc : ∃ b : Nat, b ≤ 1 ∧ Toward.even.cut false M 3 = M / 8 + b := by
    unfold Toward.cut
    rw [hl]
    refine ⟨_, ?_, rfl⟩
    exact Bool.toNat_le _
  obtain ⟨b, hb, hc⟩ := hc
  rw [hc]
  unfold Format.word
  rw [if_neg (by decide)]
  by_cases hk : M / 8 + b < 9007199254740992
  · exact ⟨M / 8 + b, q + 3, by omega, by omega, hk, by omega, by omega⟩
  · exact ⟨4503599627370496, q + 4, by omega, by omega, by omega, by omega, by omega⟩
theorem toInt_at {K : Nat} {p : Int} (h1 : 4503599627370496 ≤ K) (h2 : K < 9007199254740992) (h3 : -52 ≤ p) (h4 : p ≤ 0) :
    ∃ r : Nat, (Datum.number false K p).toInt .zero = some (r : Int) ∧ 1 ≤ r ∧ r < 9007199254740992 := by
  have hl : K.log2 = 52 := log2_at (L := 52) h1 h2
  unfold Datum.toInt Datum.integral
  simp only []
  rw [show p.toNat = 0 by omega, Nat.shiftLeft_zero]
  unfold Toward.cut
  simp only [hl, Bool.toNat_false, Nat.add_zero]
  have hd : min (-p).toNat (52 + 2) = (-p).toNat := by omega
  rw [hd, Nat.shiftLeft_eq, Nat.one_mul]
  refine ⟨K / 2 ^ (-p).toNat, ?_, ?_, ?_⟩
  · unfold signed; simp
  · have : 2 ^ (-p).toNat ≤ 2 ^ 52 := Nat.pow_le_pow_right (by decide) (by omega)
    exact (Nat.one_le_div_iff (Nat.two_pow_pos _)).2 (by omega)
  · exact Nat.lt_of_le_of_lt (Nat.div_le_self _ _) h2
theorem sqrt_int {n : Int} (h1 : 1 ≤ n) (h2 : n < 9007199254740992) : ∃ w r, FloatKind.f64.format.sqrt (FloatKind.f64.nearest n) = some w ∧ floatToIntVal .f64 w .i64 = some r ∧ 1 ≤ r ∧ r < 9007199254740992 := by
  obtain ⟨m, rfl⟩ := Int.eq_ofNat_of_zero_le (show 0 ≤ n by omega)
  have hm : m ≠ 0 := by omega
  have hL1 : 2 ^ m.log2 ≤ m := Nat.log2_self_le hm
  have hL2 : m < 2 ^ (m.log2 + 1) := (Nat.log2_lt hm).1 (Nat.lt_succ_self _)
  have hL : m.log2 ≤ 52 := by
    have := (Nat.log2_lt hm (k := 53)).2 (by omega)
    omega
  have e0 : FloatKind.f64.nearest (m : Int) = double.nearest false m 0 := by
    unfold FloatKind.nearest FloatKind.encode
    rw [decide_eq_false (by omega)]; rfl
  obtain ⟨e1, k1, k2⟩ := nearest_at hL1 hL2 hL
  obtain ⟨M, q, e2, m1, m2, q1, q2⟩ := root_at (p := (m.log2 : Int) - 52) k1 k2 (by omega) (by omega)
  obtain ⟨K, p, e3, c1, c2, p1, p2⟩ := write_at m1 m2 q1 q2
  obtain ⟨r, e4, r1, r2⟩ := toInt_at (p := p) c1 c2 p1 (by omega)
  refine ⟨double.write (.number false M q), (r : Int), ?_, ?_, by omega, by omega⟩
  · show (Option.map double.write ((double.read (FloatKind.f64.nearest (m : Int))).root (52 + 2))) = some _
    rw [e0, e1, read_at k1 k2 (by omega) (by omega)]
    rw [show (52 + 2) = 54 from rfl, e2]
    rfl
  · unfold floatToIntVal
    show (match (double.read (double.write (.number false M q))).toInt .zero with | some n => if IntKind.i64.min ≤ n ∧ n ≤ IntKind.i64.max then some n else none | none => none) = _
    rw [e3, read_at c1 c2 (by omega) (by omega), e4]
    simp only []
    rw [if_pos ⟨by show (-9223372036854775808 : Int) ≤ _; omega, by show _ ≤ (9223372036854775807 : Int); omega⟩]
end Go.Proofs.YtpndjpjpmcehbaaTu
