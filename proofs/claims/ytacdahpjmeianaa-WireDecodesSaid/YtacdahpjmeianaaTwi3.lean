/- What is proved: the two checksums of a list of bytes are one (with and without remainders between), and a number's bytes one after the other. No condition. -/
import Derived.Test.YtacdahpjmeianaaTwi2
namespace Go.Proofs.YtacdahpjmeianaaWi
open Go Go.Proofs Go.Proofs.YtacdahpjmeianaaEv Go.Proofs.YtacdahpjmeianaaFl
set_option maxRecDepth 100000
set_option maxHeartbeats 4000000
set_option linter.unusedVariables false
set_option linter.unusedSimpArgs false
theorem tm {a : Int} (h : 0 ≤ a) : a.tmod 255 = a % 255 := Int.tmod_eq_emod_of_nonneg h
theorem sum_chk : ∀ (l : List Int) (a b a' b' : Int), (∀ x ∈ l, 0 ≤ x) → 0 ≤ a → a < 255 → 0 ≤ b → b < 255 → 0 ≤ a' → 0 ≤ b' → a = a' % 255 → (b + (l.length : Int) * a) % 255 = b' % 255 →
    (sumR a b l).1 = (chkR a' b' l).1.tmod 255 ∧ (sumR a b l).2 = (chkR a' b' l).2.tmod 255
  | [], a, b, a', b', _, h1, h2, h3, h4, h5, h6, e1, e2 => by
    simp only [List.length_nil, Int.natCast_zero, Int.zero_mul, Int.add_zero] at e2
    refine ⟨?_, ?_⟩
    · show a = a'.tmod 255
      rw [tm h5]; exact e1
    · show b = b'.tmod 255
      rw [tm h6]; omega
  | x :: r, a, b, a', b', hx, h1, h2, h3, h4, h5, h6, e1, e2 => by
    have hx0 := hx x (List.mem_cons_self)
    have hm : 0 ≤ x * ((r.length : Int) + 1) := Int.mul_nonneg hx0 (by omega)
    rw [sumR, chkR, tm (by omega : 0 ≤ a + x), tm (by omega)]
    refine sum_chk r _ _ _ _ (fun y hy => hx y (List.mem_cons_of_mem _ hy)) (by omega) (by omega) (by omega) (by omega) (by omega) (by omega) (by omega) ?_
    obtain ⟨q, hq⟩ : ∃ q, (a + x) % 255 = a + x - 255 * q := ⟨(a + x) / 255, by omega⟩
    rw [hq]
    rw [List.length_cons] at e2
    have e3 : (r.length : Int) * (a + x - 255 * q) = (r.length : Int) * a + (r.length : Int) * x - 255 * ((r.length : Int) * q) := by
      rw [Int.mul_sub, Int.mul_add, Int.mul_left_comm]
    have e4 : ((r.length + 1 : Nat) : Int) * a = (r.length : Int) * a + a := by rw [Int.natCast_add, Int.add_mul]; simp
    have e5 : x * ((r.length : Int) + 1) = (r.length : Int) * x + x := by rw [Int.mul_add, Int.mul_comm x]; simp
    rw [e3, e5]
    rw [e4] at e2
    omega
theorem sum_chk2 {l : List Int} (h : ∀ x ∈ l, 0 ≤ x) : sum2 l = chk2 l := by
  obtain ⟨h1, h2⟩ := sum_chk l 0 0 0 0 h (by omega) (by omega) (by omega) (by omega) (by omega) (by omega) (by omega) (by simp)
  unfold sum2 chk2
  rw [h1, h2]
theorem sumR_in : ∀ (l : List Int) (a b : Int), (∀ x ∈ l, 0 ≤ x) → 0 ≤ a → a < 255 → 0 ≤ b → b < 255 → (0 ≤ (sumR a b l).1 ∧ (sumR a b l).1 < 255) ∧ 0 ≤ (sumR a b l).2 ∧ (sumR a b l).2 < 255
  | [], a, b, _, h1, h2, h3, h4 => ⟨⟨h1, h2⟩, h3, h4⟩
  | x :: r, a, b, hx, h1, h2, h3, h4 => by
    have hx0 := hx x (List.mem_cons_self)
    rw [sumR, tm (by omega : 0 ≤ a + x), tm (by omega)]
    exact sumR_in r _ _ (fun y hy => hx y (List.mem_cons_of_mem _ hy)) (by omega) (by omega) (by omega) (by omega)
theorem chkR_in : ∀ (l : List Int) (a b : Int), (∀ x ∈ l, 0 ≤ x ∧ x ≤ 255) → l.length ≤ 4000 → 0 ≤ a → 0 ≤ b → (0 ≤ (chkR a b l).1 ∧ (chkR a b l).1 ≤ a + 255 * (l.length : Int)) ∧ 0 ≤ (chkR a b l).2 ∧ (chkR a b l).2 ≤ b + 1020000 * (l.length : Int)
  | [], a, b, _, _, h1, h2 => ⟨⟨h1, by show a ≤ _; simp⟩, h2, by show b ≤ _; simp⟩
  | x :: r, a, b, hx, hl, h1, h2 => by
    have hx0 := hx x (List.mem_cons_self)
    rw [List.length_cons] at hl ⊢
    have hm : 0 ≤ x * ((r.length : Int) + 1) := Int.mul_nonneg hx0.1 (by omega)
    have hm2 : x * ((r.length : Int) + 1) ≤ 255 * 4000 := Int.mul_le_mul hx0.2 (by omega) (by omega) (by omega)
    rw [chkR]
    have := chkR_in r (a + x) (b + x * ((r.length : Int) + 1)) (fun y hy => hx y (List.mem_cons_of_mem _ hy)) (by omega) (by omega) (by omega)
    omega
/-! ### Bytes -/
theorem wrap8 {n : Int} : IntKind.u8.wrap n = n % 256 := rfl
theorem wrapB (n : Int) : 0 ≤ IntKind.u8.wrap n ∧ IntKind.u8.wrap n ≤ 255 := by
  rw [wrap8]; omega
theorem byteAt_zero {n : Int} : byteAt n 0 = n % 256 := by
  show n.fdiv 1 % 256 = _
  rw [Int.fdiv_one]
theorem fdiv_nn {a b : Int} (h : 0 ≤ a) (hb : 0 ≤ b) : a.fdiv b = a / b := Int.fdiv_eq_ediv_of_nonneg a hb
theorem byteAt_div {n : Int} {k : Nat} (h0 : 0 ≤ n) (h : k ≤ 7) : byteAt n ((k : Int) + 1) = byteAt (n / 256) (k : Int) := by
  unfold byteAt
  have e1 : min (8 * ((k : Int) + 1)).toNat 64 = 8 * k + 8 := by omega
  have e2 : min (8 * (k : Int)).toNat 64 = 8 * k := by omega
  rw [e1, e2, fdiv_nn h0 (by exact Int.pow_nonneg (by decide)), fdiv_nn (by omega) (by exact Int.pow_nonneg (by decide)), Int.pow_add, Int.mul_comm, ← Int.ediv_ediv_of_nonneg (by decide)]
  rfl
theorem putL_div : ∀ (k : Nat) (n : Int), 0 ≤ n → k ≤ 7 → putL n (k + 1) = putL (n / 256) k ++ [n % 256]
  | 0, n, h0, _ => by
    show [byteAt n 0] = _
    rw [byteAt_zero]; rfl
  | k + 1, n, h0, h => by
    rw [putL, putL_div k n h0 (by omega), putL]
    have : byteAt n ((k + 1 : Nat) : Int) = byteAt (n / 256) (k : Int) := by
      rw [Int.natCast_add]; exact byteAt_div h0 (by omega)
    rw [this]; rfl
theorem putL_len (n : Int) : ∀ k, (putL n k).length = k
  | 0 => rfl
  | k + 1 => by rw [putL, List.length_cons, putL_len n k]
theorem putL_in (n : Int) : ∀ k, ∀ x ∈ putL n k, 0 ≤ x ∧ x ≤ 255
  | 0, x, h => by simp [putL] at h
  | k + 1, x, h => by
    rw [putL, List.mem_cons] at h
    rcases h with rfl | h
    · exact wrapB _
    · exact putL_in n k x h
theorem str_app (a b : List Int) : strOfNums (a ++ b) = strOfNums a ++ strOfNums b := by
  apply ByteArray.ext
  rw [ByteArray.data_append]
  simp [strOfNums]
theorem str_size (a : List Int) : (strOfNums a).size = a.length := by simp [strOfNums, ByteArray.size]
theorem bytes_str {l : List Int} (h : ∀ x ∈ l, 0 ≤ x ∧ x ≤ 255) : bytesI (strOfNums l) = l := by
  unfold bytesI strOfNums
  simp only [List.map_toArray, List.toList_toArray, List.map_map]
  conv => rhs; rw [← List.map_id l]
  refine List.map_congr_left fun x hx => ?_
  obtain ⟨h1, h2⟩ := h x hx
  simp only [Function.comp_apply, id_eq]
  have : (UInt8.ofNat x.toNat).toNat = x.toNat := by rw [UInt8.toNat_ofNat']; omega
  rw [this]; omega
theorem bytes_app (a b : ByteArray) : bytesI (a ++ b) = bytesI a ++ bytesI b := by
  unfold bytesI
  rw [ByteArray.data_append]; simp
theorem bytes_in (s : ByteArray) : ∀ x ∈ bytesI s, 0 ≤ x ∧ x ≤ 255 := by
  intro x hx
  unfold bytesI at hx
  obtain ⟨y, _, rfl⟩ := List.mem_map.1 hx
  have : y.toNat < 256 := y.toNat_lt
  omega
theorem bytes_len (s : ByteArray) : (bytesI s).length = s.size := by unfold bytesI; rw [List.length_map, Array.length_toList]; rfl
theorem bytS_succ {n : Int} {k : Nat} (h0 : 0 ≤ n) (h : k ≤ 7) : bytS n ((k : Int) + 1) = bytS (n / 256) (k : Int) ++ strOfNums [n % 256] := by
  unfold bytS
  rw [show ((k : Int) + 1).toNat = k + 1 by omega, putL_div k n h0 h, str_app, Int.toNat_natCast]
end Go.Proofs.YtacdahpjmeianaaWi
