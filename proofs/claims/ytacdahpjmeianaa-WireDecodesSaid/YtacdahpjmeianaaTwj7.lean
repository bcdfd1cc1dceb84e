/- What is proved: the reference's reader of plots and the program's accept the same bytes and read the same. No program is named. No condition but the bytes' bounds. -/
import Derived.Test.YtacdahpjmeianaaTwj6
namespace Go.Proofs.YtacdahpjmeianaaWi
open Go Go.Proofs Go.Proofs.YtacdahpjmeianaaEv Go.Proofs.YtacdahpjmeianaaFl
set_option maxRecDepth 100000
set_option maxHeartbeats 4000000
set_option linter.unusedVariables false
set_option linter.unusedSimpArgs false
/-! ### Floats -/
theorem zcut (g : Bool) (n k : Nat) : Ieee.Toward.zero.cut g n k ≤ n / 2 ^ min k (n.log2 + 2) ∧ n / 2 ^ min k (n.log2 + 2) ≤ Ieee.Toward.zero.cut g n k := by
  unfold Ieee.Toward.cut
  rw [Nat.shiftLeft_eq, Nat.one_mul]
  simp [Bool.toNat]
theorem zcut_eq (g : Bool) (n k : Nat) : Ieee.Toward.zero.cut g n k = n / 2 ^ min k (n.log2 + 2) := Nat.le_antisymm (zcut g n k).1 (zcut g n k).2
theorem zcut_le (g : Bool) (n k m : Nat) (h : n ≤ m * 2 ^ k) : Ieee.Toward.zero.cut g n k ≤ m := by
  rw [zcut_eq]
  by_cases hk : k ≤ n.log2 + 2
  · rw [Nat.min_eq_left hk]
    exact Nat.div_le_of_le_mul (by rw [Nat.mul_comm]; exact h)
  · rw [Nat.min_eq_right (by omega)]
    have : n < 2 ^ (n.log2 + 2) := Nat.lt_trans (Nat.lt_log2_self (n := n)) (Nat.pow_lt_pow_right (by decide) (by omega))
    rw [Nat.div_eq_of_lt this]; omega
theorem toInt_num (g : Bool) (K : Nat) (p : Int) : (Ieee.Datum.number g K p).toInt .zero = some (Ieee.signed g (Ieee.Toward.zero.cut g (K <<< p.toNat) (-p).toNat) 0) := rfl
theorem m20 : Ieee.double.read 4701340746312056832 = .number false 8589934592000000 (-32) := by decide
theorem z0 : Ieee.double.read 0 = .number false 0 (-1074) := by decide
theorem cmp_ge {a b : Int} (h : (compare a b == .gt || compare a b == .eq) = true) : b ≤ a := by
  rcases Int.lt_trichotomy a b with h1 | h1 | h1
  · rw [cmp_lt h1] at h; cases h
  · omega
  · omega
theorem cmp_le {a b : Int} (h : (compare a b == .lt || compare a b == .eq) = true) : a ≤ b := by
  rcases Int.lt_trichotomy a b with h1 | h1 | h1
  · omega
  · omega
  · rw [cmp_gt h1] at h; cases h
theorem flt_ok (b : Nat) (h1 : geZ b = true) (h2 : leM b = true) : ∃ n, floatToIntVal .f64 b .i64 = some n ∧ 0 ≤ n ∧ n ≤ 2000000 := by
  have e1 : geZ b = (Ieee.Datum.order (Ieee.double.read b) (.number false 0 (-1074)) == some .gt || Ieee.Datum.order (Ieee.double.read b) (.number false 0 (-1074)) == some .eq) := by
    rw [← z0]; rfl
  have e2 : leM b = (Ieee.Datum.order (Ieee.double.read b) (.number false 8589934592000000 (-32)) == some .lt || Ieee.Datum.order (Ieee.double.read b) (.number false 8589934592000000 (-32)) == some .eq) := by
    rw [← m20]; rfl
  rw [e1] at h1
  rw [e2] at h2
  have e3 : floatToIntVal .f64 b .i64 = match (Ieee.double.read b).toInt .zero with
      | some n => if IntKind.i64.min ≤ n ∧ n ≤ IntKind.i64.max then some n else none
      | none => none := rfl
  rw [e3]
  generalize Ieee.double.read b = d at *
  cases d with
  | nan g t => cases h1
  | infinity g => cases g <;> simp [Ieee.Datum.order] at h1 h2
  | number g K p =>
    rw [toInt_num]
    simp only [Ieee.Datum.order, Ieee.signed] at h1 h2
    have h1 := cmp_ge h1
    have h2 := cmp_le h2
    simp only [Bool.false_eq_true, if_false, Nat.shiftLeft_eq, Nat.zero_mul] at h1 h2
    have fin : ∀ m : Nat, m ≤ 2000000 → ∃ n, (match some (Ieee.signed false m 0) with
      | some n => if IntKind.i64.min ≤ n ∧ n ≤ IntKind.i64.max then some n else none
      | none => none) = some n ∧ 0 ≤ n ∧ n ≤ 2000000 := by
      intro m hm
      have : Ieee.signed false m 0 = (m : Int) := by simp [Ieee.signed]
      rw [this]
      exact ⟨m, by simp only []; rw [if_pos ⟨by show (-9223372036854775808 : Int) ≤ _; omega, by show _ ≤ (9223372036854775807 : Int); omega⟩], by omega, by omega⟩
    cases g with
    | true =>
      simp only [if_true] at h1
      have hp := Nat.two_pow_pos (p - min p (-1074)).toNat
      have hK : K = 0 := by
        rcases Nat.eq_zero_or_pos K with h | h
        · exact h
        · have := Nat.mul_pos h hp; omega
      subst hK
      have : Ieee.Toward.zero.cut true (0 <<< p.toNat) (-p).toNat = 0 := Nat.le_zero.1 (zcut_le _ _ _ 0 (by simp))
      rw [this]
      exact fin 0 (by omega)
    | false =>
      simp only [Bool.false_eq_true, if_false] at h2
      refine fin _ (zcut_le _ _ _ _ ?_)
      rw [Nat.shiftLeft_eq]
      have h2 : K * 2 ^ (p - min p (-32)).toNat ≤ 8589934592000000 * 2 ^ (-32 - min p (-32)).toNat := by omega
      by_cases hp : 0 ≤ p
      · rw [show (p - min p (-32)).toNat = p.toNat + 32 by omega, show (-32 - min p (-32)).toNat = 0 by omega, Nat.pow_add, ← Nat.mul_assoc] at h2
        rw [show (-p).toNat = 0 by omega]
        generalize K * 2 ^ p.toNat = Q at *
        omega
      · rw [show p.toNat = 0 by omega]
        by_cases hq : -32 ≤ p
        · rw [show (p - min p (-32)).toNat = 32 - (-p).toNat by omega, show (-32 - min p (-32)).toNat = 0 by omega] at h2
          have hk : (-p).toNat ≤ 32 := by omega
          generalize (-p).toNat = k at *
          have h3 := Nat.mul_le_mul_right (2 ^ k) h2
          rw [Nat.mul_assoc, ← Nat.pow_add, show 32 - k + k = 32 by omega] at h3
          rw [Nat.pow_zero, Nat.mul_one]
          rw [Nat.pow_zero, Nat.mul_one] at h3
          have : 8589934592000000 * 2 ^ k = 2000000 * 2 ^ k * 4294967296 := by rw [Nat.mul_assoc, Nat.mul_comm (2 ^ k), ← Nat.mul_assoc]
          generalize 2000000 * 2 ^ k = Z at *
          omega
        · rw [show (p - min p (-32)).toNat = 0 by omega, show (-32 - min p (-32)).toNat = (-p).toNat - 32 by omega, Nat.pow_zero, Nat.mul_one] at h2
          rw [Nat.pow_zero, Nat.mul_one]
          have hk : 32 ≤ (-p).toNat := by omega
          generalize (-p).toNat = k at *
          have e : (2 : Nat) ^ k = 4294967296 * 2 ^ (k - 32) := by rw [show (4294967296 : Nat) = 2 ^ 32 by decide, ← Nat.pow_add, show 32 + (k - 32) = k by omega]
          rw [e]
          generalize 2 ^ (k - 32) = Z at *
          omega
theorem flt_f (n : Int) (h0 : 0 ≤ n) (h1 : n ≤ 2000000) : geZ (fbits n) = true ∧ leM (fbits n) = true ∧ floatToIntVal .f64 (fbits n) .i64 = some n := by
  obtain ⟨n, rfl⟩ := Int.eq_ofNat_of_zero_le h0
  by_cases hn : n = 0
  · subst hn
    rw [show fbits ((0 : Nat) : Int) = 0 by decide]
    exact ⟨by decide, by decide, by decide⟩
  · obtain ⟨L, hL, e, k1, k2⟩ := fb_at (n := n) (by omega) (by omega)
    have hA : At (fbits (n : Int)) L (n * 2 ^ (52 - L)) := ⟨e, by omega, k1, k2⟩
    have hp := Nat.two_pow_pos (52 - L)
    have hL20 : L ≤ 20 := by
      rcases Nat.lt_or_ge 20 L with h | h
      · have : 2 ^ (52 - L) ≤ 2 ^ 31 := Nat.pow_le_pow_right (by decide) (by omega)
        have := Nat.mul_le_mul (show n ≤ 2000000 by omega) this
        omega
      · exact h
    refine ⟨?_, ?_, ?_⟩
    · have : FloatKind.f64.format.order (fbits (n : Int)) 0 = some .gt := order_zero hA
      unfold geZ; rw [this]; rfl
    · have e2 : leM (fbits (n : Int)) = (Ieee.Datum.order (Ieee.double.read (fbits (n : Int))) (.number false 8589934592000000 (-32)) == some .lt || Ieee.Datum.order (Ieee.double.read (fbits (n : Int))) (.number false 8589934592000000 (-32)) == some .eq) := by
        rw [← m20]; rfl
      rw [e2, hA.read]
      simp only [Ieee.Datum.order, Ieee.signed, Bool.false_eq_true, if_false, Nat.shiftLeft_eq]
      rw [show min ((L : Int) - 52) (-32) = (L : Int) - 52 by omega, show ((L : Int) - 52 - ((L : Int) - 52)).toNat = 0 by omega, show (-32 - ((L : Int) - 52)).toNat = 20 - L by omega, Nat.pow_zero, Nat.mul_one]
      have e3 : (8589934592000000 : Nat) * 2 ^ (20 - L) = 2000000 * 2 ^ (52 - L) := by
        rw [show (8589934592000000 : Nat) = 2000000 * 2 ^ 32 by decide, Nat.mul_assoc, ← Nat.pow_add, show 32 + (20 - L) = 52 - L by omega]
      rw [e3]
      have h3 : n * 2 ^ (52 - L) ≤ 2000000 * 2 ^ (52 - L) := Nat.mul_le_mul_right _ (by omega)
      generalize n * 2 ^ (52 - L) = X at *
      generalize 2000000 * 2 ^ (52 - L) = Y at *
      rcases Nat.lt_or_ge X Y with h | h
      · rw [cmp_lt (by omega)]; rfl
      · rw [show X = Y by omega, cmp_eq]; rfl
    · have e3 : floatToIntVal .f64 (fbits (n : Int)) .i64 = match (Ieee.double.read (fbits (n : Int))).toInt .zero with
        | some n => if IntKind.i64.min ≤ n ∧ n ≤ IntKind.i64.max then some n else none
        | none => none := rfl
      rw [e3, hA.read, toInt_num, show ((L : Int) - 52).toNat = 0 by omega, Nat.shiftLeft_zero, show (-((L : Int) - 52)).toNat = 52 - L by omega, zcut_eq]
      have hlog : (n * 2 ^ (52 - L)).log2 = 52 := log2_at (L := 52) (by omega) (by omega)
      rw [hlog, Nat.min_eq_left (by omega), Nat.mul_div_cancel _ hp]
      have : Ieee.signed false n 0 = (n : Int) := by simp [Ieee.signed]
      rw [this]
      simp only []
      rw [if_pos ⟨by show (-9223372036854775808 : Int) ≤ _; omega, by show _ ≤ (9223372036854775807 : Int); omega⟩]
/-! ### One plot -/
theorem pltE_in {r t : Int} {p : P6} (h : pltE r t p = 0) : (0 ≤ p.2.2.1 ∧ p.2.2.1 ≤ 2000000) ∧ (0 ≤ p.2.2.2.1 ∧ p.2.2.2.1 ≤ 4095) ∧ (0 ≤ p.2.2.2.2.1 ∧ p.2.2.2.2.1 ≤ 60000) ∧ -1 ≤ p.2.2.2.2.2 ∧ p.2.2.2.2.2 ≤ 4095 := by
  unfold pltE at h
  cases h1 : (p.1 != r || p.2.1 != t) with
  | true => rw [h1] at h; cases h
  | false =>
    rw [h1] at h
    simp only [cond_false] at h
    cases h2 : (!inS p.2.2.1 0 2000000 || (!inS p.2.2.2.1 0 4095 || (!inS p.2.2.2.2.1 0 60000 || !inS p.2.2.2.2.2 (-1) 4095))) with
    | true => rw [h2] at h; cases h
    | false =>
      simp only [Bool.or_eq_false_iff, Bool.not_eq_false'] at h2
      exact ⟨in_of h2.1, in_of h2.2.1, in_of h2.2.2.1, in_of h2.2.2.2⟩
theorem one_plot (s : ByteArray) (a r t : Int) (h : okG s a 8) : plO s a r t = (fO s a && (((fbits (fR s a) : Int) == getN s a 8) && (pltE r t (fP s a r t) == 0))) ∧ (plO s a r t = true → plP s a r t = fP s a r t) := by
  have h8 := getN8 h
  have key : ∀ n : Int, 0 ≤ n → n ≤ 2000000 → (fbits n : Int) = getN s a 8 → toF (getN s a 8) = (n, true, 0) ∧ fO s a = true ∧ fR s a = n := by
    intro n h0 h1 e
    obtain ⟨f1, f2, f3⟩ := flt_f n h0 h1
    have ee : (getN s a 8).toNat = fbits n := by rw [← e]; rfl
    refine ⟨by rw [← e]; exact toF_f n h0 h1, ?_, ?_⟩
    · unfold fO; rw [ee, f1, f2]; rfl
    · unfold fR; rw [ee, f3]; rfl
  have main : plO s a r t = true → (fO s a && (((fbits (fR s a) : Int) == getN s a 8) && (pltE r t (fP s a r t) == 0))) = true ∧ plP s a r t = fP s a r t := by
    intro hp
    unfold plO at hp
    simp only [Bool.and_eq_true, beq_iff_eq] at hp
    obtain ⟨p1, p2, p3, p4⟩ := hp
    obtain ⟨⟨q1, q2⟩, _⟩ := pltE_in p4
    obtain ⟨k1, k2, k3⟩ := key (toF (getN s a 8)).1 q1 q2 p3
    have e : plP s a r t = fP s a r t := by
      unfold plP fP; rw [k3]
    rw [← e, k2, k3, p3, p4]
    exact ⟨by simp, rfl⟩
  refine ⟨?_, fun hp => (main hp).2⟩
  rw [Bool.eq_iff_iff]
  refine ⟨fun hp => (main hp).1, fun hf => ?_⟩
  simp only [Bool.and_eq_true, beq_iff_eq] at hf
  obtain ⟨f1, f2, f3⟩ := hf
  obtain ⟨⟨q1, q2⟩, _⟩ := pltE_in f3
  obtain ⟨k1, k2, k3⟩ := key (fR s a) q1 q2 f2
  have e : plP s a r t = fP s a r t := by
    unfold plP fP; rw [k1]
  unfold plO
  rw [e, f3, k1, f2]
  simp
end Go.Proofs.YtacdahpjmeianaaWi
