/- What is proved: for every code and every string, gray.Octal and gray.Read are inverse to each other, and gray.Read accepts four octal digits only. No condition. -/
import Derived.Test.YtlaaeighanknpaaPGrayOctalsx1
namespace Go.Proofs.Ytlaaeighanknpaa.Pure
open Go.RowKit Go.Proofs.Ytlaaeighanknpaa.PGrayOctals Go.Proofs.YtlaaeighanknpaaW.PrintWords Go.Proofs.YtlaaeighanknpaaW.PrintLast

theorem go_i64_small (n : Int) (h0 : 0 ≤ n) (h1 : n < 2 ^ 63) : IntKind.i64.wrap n = n := by rw [IntKind.wrap_i64]; omega
theorem go_and7 (x : Int) (h0 : 0 ≤ x) (h1 : x < 2 ^ 63) : Go.bits .and .i64 x 7 = x % 8 := bits_mask .i64 63 (by decide) go_i64_small 3 (by decide) x h0 h1
theorem go_or8 (x y : Int) (h0 : 0 ≤ x) (h1 : x < 2 ^ 60) (h2 : 0 ≤ y) (h3 : y < 8) : Go.bits .or .i64 (x * 8) y = x * 8 + y :=
  bits_join .i64 63 (by decide) go_i64_small 3 (x * 8) y (by omega) (by omega) (by omega) h2 (by omega) (by omega)
theorem go_w (n : Int) (h0 : -9223372036854775808 ≤ n) (h1 : n < 9223372036854775808) : wrap64 n = n := by unfold wrap64; omega

/-- One round of Read at an octal digit. -/
theorem read_step (k : Nat) (s : ByteArray) (v n i : Int) (hi : i < n) (h0 : 0 ≤ i) (hn : n = s.size) (hn' : n < 100) (hv : 0 ≤ v) (hv' : v < 2 ^ 50) (hb : 48 ≤ bt s i) (hb' : bt s i ≤ 55) :
    gray_Read.l0 (k + 1) s v n i = gray_Read.l0 k s (v * 8 + (bt s i - 48)) n (i + 1) := by
  simp only [gray_Read.l0]
  rw [if_pos hi, if_pos h0, if_pos (by omega), if_neg (by omega), if_neg (by omega), go_w (v * 8) (by omega) (by omega), go_w (i + 1) (by omega) (by omega),
    show (bt s i - 48) % 256 = bt s i - 48 by omega, go_or8 v _ hv (by omega) (by omega) (by omega)]
theorem read_bad (k : Nat) (s : ByteArray) (v n i : Int) (hi : i < n) (h0 : 0 ≤ i) (hn : n = s.size) (hb : bt s i < 48 ∨ 55 < bt s i) :
    gray_Read.l0 (k + 1) s v n i = some (0, 5) := by
  simp only [gray_Read.l0]
  rw [if_pos hi, if_pos h0, if_pos (by omega)]
  by_cases h : bt s i < 48
  · rw [if_pos h]
  · rw [if_neg h, if_pos (by omega)]
theorem read_end (k : Nat) (s : ByteArray) (v n : Int) : gray_Read.l0 (k + 1) s v n n = some (v, 0) := by
  simp only [gray_Read.l0]; rw [if_neg (by omega)]

theorem in_yes (a b c : Int) (h : b ≤ a) (h' : a ≤ c) : skywayref2_In.f a b c = some true := by
  unfold skywayref2_In.f; rw [if_pos h, decide_eq_true h']
theorem in_no (a b c : Int) (h : a < b ∨ c < a) : skywayref2_In.f a b c = some false := by
  unfold skywayref2_In.f
  by_cases g : a ≥ b
  · rw [if_pos g, decide_eq_false (by omega)]
  · rw [if_neg g]

theorem bt_of (xs : List Int) (i : Nat) (h : i < xs.length) (hr : ∀ x ∈ xs, 0 ≤ x ∧ x < 256) : bt (strOfNums xs) (i : Int) = xs[i] := by
  have hx := hr _ (List.getElem_mem h)
  unfold bt
  have hs : (strOfNums xs).size = xs.length := by simp [strOfNums, ByteArray.size]
  rw [dif_pos (by simpa [hs] using h)]
  have : (strOfNums xs)[(i : Int).toNat]'(by simpa [hs] using h) = UInt8.ofNat (xs[i]).toNat := by
    show (strOfNums xs).data[(i : Int).toNat]'_ = _
    simp [strOfNums]
  rw [this]
  simp
  omega

/-- What Octal says is read back. -/
theorem back (c : Int) (h0 : 0 ≤ c) (h1 : c ≤ 4095) : ∃ t, gray_Octal.f c = some (t, 0) ∧ t.size = 4 ∧ ∀ k, gray_Read.f (k + 5) t = some (c, 0) := by
  refine ⟨_, by unfold gray_Octal.f; rw [if_neg (by omega), if_neg (by omega)], ?_, ?_⟩
  · simp [strOfNums, ByteArray.size]
  · intro k
    rw [go_and7 _ (by omega) (by omega), go_and7 _ (by omega) (by omega), go_and7 _ (by omega) (by omega)]
    generalize hxs : ([(48 + c / 512 % 256) % 256, (48 + c / 64 % 8 % 256) % 256, (48 + c / 8 % 8 % 256) % 256, (48 + c % 8 % 256) % 256] : List Int) = xs
    have hl : xs.length = 4 := by rw [← hxs]; rfl
    have hr : ∀ x ∈ xs, 0 ≤ x ∧ x < 256 := by
      rw [← hxs]; intro x hx
      simp only [List.mem_cons, List.not_mem_nil, or_false] at hx
      omega
    have hs : (strOfNums xs).size = 4 := by simp [strOfNums, ByteArray.size, hl]
    have b0 : bt (strOfNums xs) 0 = 48 + c / 512 := by
      have h := bt_of xs 0 (by omega) hr
      have h2 : xs[0]'(by omega) = 48 + c / 512 := by
        subst hxs; show (48 + c / 512 % 256) % 256 = _; omega
      rw [h2] at h; exact h
    have b1 : bt (strOfNums xs) 1 = 48 + c / 64 % 8 := by
      have h := bt_of xs 1 (by omega) hr
      have h2 : xs[1]'(by omega) = 48 + c / 64 % 8 := by
        subst hxs; show (48 + c / 64 % 8 % 256) % 256 = _; omega
      rw [h2] at h; exact h
    have b2 : bt (strOfNums xs) 2 = 48 + c / 8 % 8 := by
      have h := bt_of xs 2 (by omega) hr
      have h2 : xs[2]'(by omega) = 48 + c / 8 % 8 := by
        subst hxs; show (48 + c / 8 % 8 % 256) % 256 = _; omega
      rw [h2] at h; exact h
    have b3 : bt (strOfNums xs) 3 = 48 + c % 8 := by
      have h := bt_of xs 3 (by omega) hr
      have h2 : xs[3]'(by omega) = 48 + c % 8 := by
        subst hxs; show (48 + c % 8 % 256) % 256 = _; omega
      rw [h2] at h; exact h
    unfold gray_Read.f
    rw [if_pos (by omega), hs]
    have e4 : ((4 : Nat) : Int) = 4 := rfl
    rw [e4, read_step (k + 4) _ 0 4 0 (by omega) (by omega) (by omega) (by omega) (by omega) (by omega) (by omega) (by omega),
      read_step (k + 3) _ _ 4 _ (by omega) (by omega) (by omega) (by omega) (by omega) (by omega) (by simp only [Int.zero_add]; omega) (by simp only [Int.zero_add]; omega),
      read_step (k + 2) _ _ 4 _ (by omega) (by omega) (by omega) (by omega) (by simp only [Int.zero_add]; omega) (by simp only [Int.zero_add]; omega) (by simp only [Int.zero_add]; rw [show (1 + 1 : Int) = 2 from rfl]; omega) (by simp only [Int.zero_add]; rw [show (1 + 1 : Int) = 2 from rfl]; omega),
      read_step (k + 1) _ _ 4 _ (by omega) (by omega) (by omega) (by omega) (by simp only [Int.zero_add]; rw [show (1 + 1 : Int) = 2 from rfl]; omega) (by simp only [Int.zero_add]; rw [show (1 + 1 : Int) = 2 from rfl]; omega) (by simp only [Int.zero_add]; rw [show (1 + 1 + 1 : Int) = 3 from rfl]; omega) (by simp only [Int.zero_add]; rw [show (1 + 1 + 1 : Int) = 3 from rfl]; omega)]
    simp only [Int.zero_add]
    rw [show (1 + 1 : Int) = 2 from rfl, show (2 + 1 : Int) = 3 from rfl, show (3 + 1 : Int) = 4 from rfl, read_end, b0, b1, b2, b3]
    simp only [Option.some.injEq, Prod.mk.injEq, and_true]
    omega

theorem tail (k : Nat) (c : Int) (hk : 6 ≤ k) : skywaylaw2_GrayOctals.j2 k c false = some true := by
  obtain ⟨k, rfl⟩ : ∃ m, k = m + 6 := ⟨k - 6, by omega⟩
  simp only [skywaylaw2_GrayOctals.j2]
  rw [if_neg (by decide)]
  by_cases h : 0 ≤ c ∧ c ≤ 4095
  · obtain ⟨t, ht, hs, hr⟩ := back c h.1 h.2
    rw [ht, in_yes c 0 4095 h.1 h.2]
    simp only [Option.bind_some, if_true]
    rw [hr k]
    simp only [Option.bind_some, if_true, hs]
    decide
  · rw [in_no c 0 4095 (by omega)]
    have : gray_Octal.f c = some (⟨#[]⟩, 4) := by
      unfold gray_Octal.f
      by_cases g : c < 0
      · rw [if_pos g]
      · rw [if_neg g, if_pos (by omega)]
    rw [this]
    simp only [Option.bind_some, if_true]
    rw [if_neg (by decide)]
    decide +kernel

theorem loop_no (c : Int) (s : ByteArray) (hs : s.size ≤ 140737488351232) (d : Nat) : ∀ (k : Nat) (v i : Int), 0 ≤ i → i ≤ s.size → (s.size : Int) - i = d → d + 7 ≤ k →
    skywaylaw2_GrayOctals.l0 k c s 0 5 v false s.size i = some true := by
  induction d with
  | zero =>
    intro k v i h0 h1 hd hk
    obtain ⟨k, rfl⟩ : ∃ m, k = m + 1 := ⟨k - 1, by omega⟩
    simp only [skywaylaw2_GrayOctals.l0]
    rw [if_neg (by omega), if_neg (by decide), if_neg (by decide), if_pos trivial, show ((5 : Int) != 5) = false from rfl]
    exact tail k c (by omega)
  | succ d ih =>
    intro k v i h0 h1 hd hk
    obtain ⟨k, rfl⟩ : ∃ m, k = m + 1 := ⟨k - 1, by omega⟩
    simp only [skywaylaw2_GrayOctals.l0]
    rw [if_pos (by omega), if_neg (by decide), if_pos h0, if_pos (by omega), go_w (i + 1) (by omega) (by omega)]
    exact ih k _ (i + 1) (by omega) (by omega) (by omega) (by omega)

theorem loop_yes (c : Int) (s : ByteArray) (hs : s.size = 4) (d : Nat) : ∀ (k k' : Nat) (v i x7 x8 : Int), 0 ≤ i → i ≤ 4 → 4 - i = d → d + 12 ≤ k → d + 1 ≤ k' → 0 ≤ v → v < 8 ^ i.toNat →
    gray_Read.l0 k' s v 4 i = some (x7, x8) → skywaylaw2_GrayOctals.l0 k c s x7 x8 v true 4 i = some true := by
  induction d with
  | zero =>
    intro k k' v i x7 x8 h0 h1 hd hk hk' hv hv' hr
    obtain rfl : i = 4 := by omega
    obtain ⟨k', rfl⟩ : ∃ m, k' = m + 1 := ⟨k' - 1, by omega⟩
    rw [read_end] at hr
    simp only [Option.some.injEq, Prod.mk.injEq] at hr
    obtain ⟨rfl, rfl⟩ := hr
    obtain ⟨k, rfl⟩ : ∃ m, k = m + 1 := ⟨k - 1, by omega⟩
    simp only [skywaylaw2_GrayOctals.l0]
    rw [if_neg (by omega), if_neg (by decide), if_pos trivial, if_pos trivial]
    exact tail k c (by omega)
  | succ d ih =>
    intro k k' v i x7 x8 h0 h1 hd hk hk' hv hv' hr
    obtain ⟨k', rfl⟩ : ∃ m, k' = m + 1 := ⟨k' - 1, by omega⟩
    obtain ⟨k, rfl⟩ : ∃ m, k = m + 1 := ⟨k - 1, by omega⟩
    have hi : i = 0 ∨ i = 1 ∨ i = 2 ∨ i = 3 := by omega
    have hv4 : v < 512 ∧ (v * 8 + 7 < 8 ^ (i + 1).toNat) ∧ v * 8 + 7 < 4096 := by
      rcases hi with rfl | rfl | rfl | rfl <;> simp at hv' <;> simp <;> omega
    have hbr := bt_range s i
    by_cases hb : 48 ≤ bt s i ∧ bt s i ≤ 55
    · rw [read_step k' s v 4 i (by omega) h0 (by omega) (by omega) hv (by omega) hb.1 hb.2] at hr
      simp only [skywaylaw2_GrayOctals.l0]
      rw [if_pos (by omega), if_pos trivial, if_pos h0, if_pos (by omega), go_w (bt s i) (by omega) (by omega), in_yes _ _ _ hb.1 hb.2]
      simp only [Option.bind_some]
      rw [show (bt s i - 48) % 256 = bt s i - 48 by omega, go_and7 _ (by omega) (by omega), show (bt s i - 48) % 8 = bt s i - 48 by omega, go_w (v * 8) (by omega) (by omega),
        go_w (v * 8 + (bt s i - 48)) (by omega) (by omega), Int.tmod_eq_emod_of_nonneg (by omega), Int.emod_eq_of_lt (by omega) (by omega), go_w (i + 1) (by omega) (by omega)]
      exact ih k k' _ (i + 1) x7 x8 (by omega) (by omega) (by omega) (by omega) (by omega) (by omega) (by omega) hr
    · rw [read_bad k' s v 4 i (by omega) h0 (by omega) (by omega)] at hr
      simp only [Option.some.injEq, Prod.mk.injEq] at hr
      obtain ⟨rfl, rfl⟩ := hr
      simp only [skywaylaw2_GrayOctals.l0]
      rw [if_pos (by omega), if_pos trivial, if_pos h0, if_pos (by omega), go_w (bt s i) (by omega) (by omega), in_no _ _ _ (by omega)]
      simp only [Option.bind_some]
      rw [go_w (i + 1) (by omega) (by omega)]
      have := loop_no c s (by omega) d k (Int.tmod (wrap64 (wrap64 (v * 8) + Go.bits .and .i64 ((bt s i - 48) % 256) 7)) 4096) (i + 1) (by omega) (by omega) (by omega) (by omega)
      rwa [hs] at this

theorem read_some (s : ByteArray) (hs : s.size = 4) (d : Nat) : ∀ (k : Nat) (v i : Int), 0 ≤ i → i ≤ 4 → 4 - i = d → d + 1 ≤ k → 0 ≤ v → v < 8 ^ i.toNat → ∃ r, gray_Read.l0 k s v 4 i = some r := by
  induction d with
  | zero =>
    intro k v i h0 h1 hd hk hv hv'
    obtain rfl : i = 4 := by omega
    obtain ⟨k, rfl⟩ : ∃ m, k = m + 1 := ⟨k - 1, by omega⟩
    exact ⟨_, read_end ..⟩
  | succ d ih =>
    intro k v i h0 h1 hd hk hv hv'
    obtain ⟨k, rfl⟩ : ∃ m, k = m + 1 := ⟨k - 1, by omega⟩
    have hi : i = 0 ∨ i = 1 ∨ i = 2 ∨ i = 3 := by omega
    have hv4 : v < 512 ∧ (v * 8 + 7 < 8 ^ (i + 1).toNat) ∧ v * 8 + 7 < 4096 := by
      rcases hi with rfl | rfl | rfl | rfl <;> simp at hv' <;> simp <;> omega
    have hbr := bt_range s i
    by_cases hb : 48 ≤ bt s i ∧ bt s i ≤ 55
    · rw [read_step k s v 4 i (by omega) h0 (by omega) (by omega) hv (by omega) hb.1 hb.2]
      exact ih k _ (i + 1) (by omega) (by omega) (by omega) (by omega) (by omega) (by omega)
    · exact ⟨_, read_bad k s v 4 i (by omega) h0 (by omega) (by omega)⟩

theorem GrayOctals : skywaylaw2_GrayOctals.Pure := by
  intro c s hc hs
  refine ⟨s.size + 40, ?_⟩
  unfold skywaylaw2_GrayOctals.f
  have h1 : gray_Octal.f 4032 = some (strOfNums [55, 55, 48, 48], 0) := by
    unfold gray_Octal.f
    rw [if_neg (by omega), if_neg (by omega), go_and7 _ (by omega) (by omega), go_and7 _ (by omega) (by omega), go_and7 _ (by omega) (by omega)]
    rfl
  rw [h1]
  simp only [Option.bind_some, if_true]
  rw [show ((strOfNums [55, 55, 48, 48]).toList != ([55, 55, 48, 48] : List UInt8)) = false from by decide +kernel]
  simp only [skywaylaw2_GrayOctals.j0]
  rw [if_neg (by decide)]
  by_cases h4 : s.size = 4
  · obtain ⟨⟨x7, x8⟩, hr⟩ := read_some s h4 4 (s.size + 39) 0 0 (by omega) (by omega) (by omega) (by omega) (by omega) (by decide)
    have hf : gray_Read.f (s.size + 39) s = some (x7, x8) := by
      unfold gray_Read.f; rw [if_pos (by omega), show (s.size : Int) = 4 by omega]; exact hr
    rw [hf]
    simp only [Option.bind_some]
    rw [show (s.size : Int) = 4 by omega, show ((4 : Int) == 4) = true from rfl]
    exact loop_yes c s h4 4 _ _ 0 0 x7 x8 (by omega) (by omega) (by omega) (by omega) (by omega) (by omega) (by decide) hr
  · have hf : gray_Read.f (s.size + 39) s = some (0, 5) := by unfold gray_Read.f; rw [if_neg (by omega)]
    rw [hf]
    simp only [Option.bind_some]
    rw [show ((s.size : Int) == 4) = false from beq_eq_false_iff_ne.mpr (by omega)]
    exact loop_no c s hs s.size _ 0 0 (by omega) (by omega) (by omega) (by omega)

end Go.Proofs.Ytlaaeighanknpaa.Pure
