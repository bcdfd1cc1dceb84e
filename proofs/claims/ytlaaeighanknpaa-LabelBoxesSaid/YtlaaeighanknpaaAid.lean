/- What is proved here: small facts on whole numbers, wrapping, rounded division and byte lists, for the pure statements of this seat. No condition beyond each fact's own. -/
import Derived.Test.YtlaaeighanknpaaWMore
import Derived.Laws.BitsLemmas
namespace Go.Proofs.Ytlaaeighanknpaa.Aid
open Go.RowKit Go.Proofs.YtlaaeighanknpaaW.PrintWords Go.Proofs.YtlaaeighanknpaaW.PrintMore

theorem w64 (n : Int) (h0 : -9223372036854775808 ≤ n) (h1 : n ≤ 9223372036854775807) : wrap64 n = n := by unfold wrap64; omega
theorem wf64 {n : Int} (h : (Lit.int .i64 n).wf = true) : -9223372036854775808 ≤ n ∧ n ≤ 9223372036854775807 := by
  simpa [Lit.wf, IntKind.min, IntKind.max, IntKind.bits, IntKind.signed] using h
theorem i64_small (n : Int) (h0 : 0 ≤ n) (h1 : n < 2 ^ 63) : IntKind.i64.wrap n = n := by rw [IntKind.wrap_i64]; omega

/-- Both ways of a test come to the same. -/
theorem els {α : Type} {c : Prop} [Decidable c] {x y z : α} (h1 : c → x = z) (h2 : ¬ c → y = z) : (if c then x else y) = z := by
  by_cases h : c
  · rw [if_pos h]; exact h1 h
  · rw [if_neg h]; exact h2 h

theorem mul_bd (a b A B : Int) (ha : 0 ≤ a) (hA : a ≤ A) (hb : 0 ≤ b) (hB : b ≤ B) : 0 ≤ a * b ∧ a * b ≤ A * B :=
  ⟨Int.mul_nonneg ha hb, Int.mul_le_mul hA hB hb (by omega)⟩
/-- A product of two numbers with bounds on both sides. -/
theorem mul_abs (a b A B : Int) (ha : -A ≤ a) (hA : a ≤ A) (hb : -B ≤ b) (hB : b ≤ B) : -(A * B) ≤ a * b ∧ a * b ≤ A * B := by
  have key : ∀ x y : Int, 0 ≤ x → x ≤ A → 0 ≤ y → y ≤ B → 0 ≤ x * y ∧ x * y ≤ A * B := fun x y h1 h2 h3 h4 => mul_bd x y A B h1 h2 h3 h4
  rcases Int.le_total 0 a with h1 | h1 <;> rcases Int.le_total 0 b with h2 | h2
  · have := key a b h1 hA h2 hB; omega
  · have := key a (-b) h1 hA (by omega) (by omega); rw [Int.mul_neg] at this; omega
  · have := key (-a) b (by omega) (by omega) h2 hB; rw [Int.neg_mul] at this; omega
  · have := key (-a) (-b) (by omega) (by omega) (by omega) (by omega); rw [Int.neg_mul_neg] at this; omega
theorem sq_bd (a A : Int) (ha : -A ≤ a) (hA : a ≤ A) : 0 ≤ a * a ∧ a * a ≤ A * A := by
  have h := mul_abs a a A A ha hA ha hA
  refine ⟨?_, h.2⟩
  rcases Int.le_total 0 a with h1 | h1
  · exact Int.mul_nonneg h1 h1
  · have := Int.mul_nonneg (show 0 ≤ -a by omega) (show 0 ≤ -a by omega)
    rwa [Int.neg_mul_neg] at this

/-! ### Division, rounded -/
theorem tdiv_tmod (a b : Int) : Int.tmod a b + Int.tdiv a b * b = a := by rw [Int.mul_comm]; exact Int.tmod_add_mul_tdiv a b
theorem floor_unique (a b q : Int) (hb : 0 < b) (h1 : q * b ≤ a) (h2 : a < (q + 1) * b) : a / b = q := by
  have h3 := Int.emod_add_mul_ediv a b
  have h4 := Int.emod_nonneg a (show b ≠ 0 by omega)
  have h5 := Int.emod_lt_of_pos a hb
  rw [Int.mul_comm] at h3
  rcases Int.lt_trichotomy (a / b) q with h | h | h
  · have : (a / b + 1) * b ≤ q * b := Int.mul_le_mul_of_nonneg_right (by omega) (by omega)
    rw [Int.add_mul, Int.one_mul] at this
    omega
  · exact h
  · have : (q + 1) * b ≤ (a / b) * b := Int.mul_le_mul_of_nonneg_right (by omega) (by omega)
    omega
theorem floor_spec (a b : Int) (hb : 0 < b) : (a / b) * b ≤ a ∧ a < (a / b) * b + b := by
  have h3 := Int.emod_add_mul_ediv a b
  have h4 := Int.emod_nonneg a (show b ≠ 0 by omega)
  have h5 := Int.emod_lt_of_pos a hb
  rw [Int.mul_comm] at h3
  omega
theorem tmod_range (a b : Int) (hb : 0 < b) : -b < Int.tmod a b ∧ Int.tmod a b < b ∧ (0 ≤ a → 0 ≤ Int.tmod a b) ∧ (a ≤ 0 → Int.tmod a b ≤ 0) := by
  have key : ∀ x : Int, 0 ≤ x → 0 ≤ Int.tmod x b ∧ Int.tmod x b < b := fun x hx => by
    rw [Int.tmod_eq_emod_of_nonneg hx]
    exact ⟨Int.emod_nonneg _ (by omega), Int.emod_lt_of_pos _ hb⟩
  rcases Int.le_total 0 a with h | h
  · have := key a h
    refine ⟨by omega, by omega, by omega, fun h' => ?_⟩
    obtain rfl : a = 0 := by omega
    simp
  · have h1 := key (-a) (by omega)
    rw [Int.neg_tmod] at h1
    refine ⟨by omega, by omega, fun h' => ?_, by omega⟩
    obtain rfl : a = 0 := by omega
    simp
/-- The quotient of Go, put right by the remainder's sign. -/
theorem floor_rem (a b : Int) (hb : 0 < b) : (if Int.tmod a b < 0 then Int.tdiv a b - 1 else Int.tdiv a b) = a / b := by
  have h1 := tdiv_tmod a b
  have h2 := tmod_range a b hb
  split
  · exact (floor_unique a b _ hb (by rw [Int.sub_mul, Int.one_mul]; omega) (by rw [show Int.tdiv a b - 1 + 1 = Int.tdiv a b by omega]; omega)).symm
  · exact (floor_unique a b _ hb (by omega) (by rw [Int.add_mul, Int.one_mul]; omega)).symm
/-- The quotient of Go, put right by the product. -/
theorem floor_prod (a b : Int) (hb : 0 < b) : (if a < Int.tdiv a b * b then Int.tdiv a b - 1 else Int.tdiv a b) = a / b := by
  have h1 := tdiv_tmod a b
  have h2 := tmod_range a b hb
  split
  · exact (floor_unique a b _ hb (by rw [Int.sub_mul, Int.one_mul]; omega) (by rw [show Int.tdiv a b - 1 + 1 = Int.tdiv a b by omega]; omega)).symm
  · exact (floor_unique a b _ hb (by omega) (by rw [Int.add_mul, Int.one_mul]; omega)).symm
/-- A quotient is no farther from zero than what is divided. -/
theorem tdiv_abs (a b A : Int) (hb : 0 < b) (ha : -A ≤ a) (hA : a ≤ A) : -A ≤ Int.tdiv a b ∧ Int.tdiv a b ≤ A := by
  have key : ∀ x : Int, 0 ≤ x → 0 ≤ Int.tdiv x b ∧ Int.tdiv x b ≤ x := fun x hx => by
    rw [Int.tdiv_eq_ediv_of_nonneg hx]
    refine ⟨Int.ediv_nonneg hx (by omega), ?_⟩
    exact Int.ediv_le_self _ hx
  rcases Int.le_total 0 a with h | h
  · have := key a h; omega
  · have h1 := key (-a) (by omega)
    rw [Int.neg_tdiv] at h1
    omega
theorem ediv_abs (a b A : Int) (hb : 0 < b) (ha : -A ≤ a) (hA : a ≤ A) : -A ≤ a / b ∧ a / b ≤ A := by
  have h := floor_spec a b hb
  constructor
  · rcases Int.lt_or_le (a / b) (-A) with h1 | h1
    · exfalso
      have : (a / b + 1) * b ≤ (-A) * b := Int.mul_le_mul_of_nonneg_right (by omega) (by omega)
      have h3 : (A) * 1 ≤ A * b := Int.mul_le_mul_of_nonneg_left (by omega) (by omega)
      rw [Int.add_mul, Int.one_mul, Int.neg_mul] at this
      omega
    · exact h1
  · rcases Int.le_total 0 a with h1 | h1
    · have := Int.ediv_le_self b h1; omega
    · have : a / b ≤ 0 := by
        rcases Int.lt_or_le 0 (a / b) with h2 | h2
        · exfalso
          have : 1 * b ≤ (a / b) * b := Int.mul_le_mul_of_nonneg_right (by omega) (by omega)
          omega
        · exact h2
      omega
theorem tdiv_nonneg (a b : Int) (ha : 0 ≤ a) : Int.tdiv a b = a / b := Int.tdiv_eq_ediv_of_nonneg ha

/-! ### Bytes -/
theorem toList_loop (s : ByteArray) (d : Nat) : ∀ (i : Nat) (r : List UInt8), s.size - i = d → ByteArray.toList.loop s i r = r.reverse ++ s.data.toList.drop i := by
  induction d with
  | zero =>
    intro i r h
    rw [ByteArray.toList.loop, if_neg (by omega), List.drop_eq_nil_of_le (by rw [Array.length_toList]; show s.size ≤ i; omega), List.append_nil]
  | succ d ih =>
    intro i r h
    have hi : i < s.data.toList.length := by rw [Array.length_toList]; show i < s.size; omega
    rw [ByteArray.toList.loop, if_pos (by omega), ih (i + 1) _ (by omega), List.drop_eq_getElem_cons hi]
    have : s.get! i = s.data.toList[i] := by
      show s.data[i]! = _
      rw [getElem!_pos s.data i (by omega)]
      simp
    simp [this]
theorem toList_eq (s : ByteArray) : s.toList = s.data.toList := by
  unfold ByteArray.toList
  rw [toList_loop s s.size 0 [] (by omega)]
  simp
theorem toList_inj {s t : ByteArray} (h : s.toList = t.toList) : s = t := by
  rw [toList_eq, toList_eq] at h
  cases s; cases t
  simpa [Array.toList_inj] using h
theorem size_toList (s : ByteArray) : s.toList.length = s.size := by rw [toList_eq, Array.length_toList]; rfl

end Go.Proofs.Ytlaaeighanknpaa.Aid
