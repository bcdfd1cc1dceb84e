/- What is proved: for all distances, times and limits, approach.Speed returns the least speed that trying all finds, and approach.Wait what is left with the speed slow. No condition. -/
import Derived.Test.YtlaaeighanknpaaPApproachSpeedsx2
namespace Go.Proofs.Ytlaaeighanknpaa.Pure
open Go.RowKit Go.Proofs.Ytlaaeighanknpaa.PApproachSpeeds Go.Proofs.YtlaaeighanknpaaW.PrintWords Go.Proofs.YtlaaeighanknpaaW.PrintLast Go.Proofs.YtlaaeighanknpaaW.PrintMore

theorem as_w (n : Int) (h0 : -9223372036854775808 ≤ n) (h1 : n < 9223372036854775808) : wrap64 n = n := by unfold wrap64; omega
theorem as_in (a b c : Int) : skywayref4_In.f a b c = some (decide (b ≤ a ∧ a ≤ c)) := by
  unfold skywayref4_In.f
  by_cases h : a ≥ b
  · rw [if_pos h]; simp; omega
  · rw [if_neg h]; simp; omega
def Okd (D s sl fa : Int) : Prop := 0 ≤ D ∧ D ≤ 4000000 ∧ 0 ≤ s ∧ s ≤ 200000 ∧ 1 ≤ sl ∧ sl ≤ fa ∧ fa ≤ 400
theorem speeds_yes (D s sl fa : Int) (h : Okd D s sl fa) : approach_speeds.f D s sl fa = some true := by
  obtain ⟨h1, h2, h3, h4, h5, h6, h7⟩ := h
  unfold approach_speeds.f
  rw [if_pos h1, if_pos h2, if_pos h3, if_pos h4, if_pos h5, if_pos h6, decide_eq_true h7]
theorem speeds_no (D s sl fa : Int) (h : ¬ Okd D s sl fa) : approach_speeds.f D s sl fa = some false := by
  unfold Okd at h
  unfold approach_speeds.f
  repeat' split
  all_goals first | rfl | (rw [decide_eq_false (by omega)])

theorem mul_bd (a b A B : Int) (ha : 0 ≤ a) (hA : a ≤ A) (hb : 0 ≤ b) (hB : b ≤ B) : 0 ≤ a * b ∧ a * b ≤ A * B :=
  ⟨Int.mul_nonneg ha hb, Int.mul_le_mul hA hB hb (by omega)⟩

/-- The quotient, rounded up. -/
theorem up_spec (D s : Int) (hs : 0 < s) : ∃ q, (D + s - 1) / s = q ∧ D ≤ q * s ∧ q * s ≤ D + s - 1 := by
  refine ⟨_, rfl, ?_, ?_⟩
  · have h1 := Int.emod_add_mul_ediv (D + s - 1) s
    have h2 := Int.emod_lt_of_pos (D + s - 1) hs
    rw [Int.mul_comm s] at h1
    omega
  · have h1 := Int.emod_add_mul_ediv (D + s - 1) s
    have h2 := Int.emod_nonneg (D + s - 1) (by omega : s ≠ 0)
    rw [Int.mul_comm s] at h1
    omega
/-- It is the one number with its bounds. -/
theorem up_unique (D s q v : Int) (hs : 0 < s) (h1 : D ≤ q * s) (h2 : q * s ≤ D + s - 1) (h3 : D ≤ v * s) (h4 : (v - 1) * s < D) : q = v := by
  rcases Int.lt_trichotomy q v with h | h | h
  · exfalso
    have : q * s ≤ (v - 1) * s := Int.mul_le_mul_of_nonneg_right (by omega) (by omega)
    omega
  · exact h
  · exfalso
    have h5 : (v + 1) * s ≤ q * s := Int.mul_le_mul_of_nonneg_right (by omega) (by omega)
    rw [Int.add_mul, Int.one_mul] at h5
    omega

/-- What Speed and Wait answer, and the law's loop behind them. -/
theorem loop_found (D s sl fa : Int) (h : Okd D s sl fa) (n w : Int) (hfast : D ≤ fa * s)
    (hn : ∀ v, sl ≤ v → D ≤ v * s → (v = sl ∨ (v - 1) * s < D) → n = v)
    (hw : (w = 0 ∧ sl * s ≤ D + sl - 1) ∨ (0 < w ∧ w ≤ s ∧ D ≤ sl * (s - w) ∧ sl * (s - w - 1) < D)) (d : Nat) :
    ∀ (k : Nat) (v : Int), sl ≤ v → v ≤ fa → (v = sl ∨ (v - 1) * s < D) → fa - v = d → d + 1 ≤ k → skywaylaw4_ApproachSpeeds.l0 k D s sl fa n 0 w 0 v = some true := by
  obtain ⟨h1, h2, h3, h4, h5, h6, h7⟩ := h
  induction d with
  | zero =>
    intro k v hv hv' hp hd hk
    obtain ⟨k, rfl⟩ : ∃ m, k = m + 1 := ⟨k - 1, by omega⟩
    obtain rfl : v = fa := by omega
    have b1 := mul_bd v s 400 200000 (by omega) (by omega) h3 h4
    have b2 := mul_bd sl s 400 200000 (by omega) (by omega) h3 h4
    have hnv := hn v hv hfast hp
    subst hnv
    simp only [skywaylaw4_ApproachSpeeds.l0]
    rw [as_w (n * s) (by omega) (by omega), as_w (sl * s) (by omega) (by omega), as_w (D + sl) (by omega) (by omega), as_w (D + sl - 1) (by omega) (by omega)]
    rw [if_pos (by omega), if_neg (by omega), if_neg (by omega)]
    rcases hw with ⟨rfl, hw⟩ | ⟨hw0, hws, hw1, hw2⟩
    · rw [if_pos rfl, if_pos hw]; simp only [if_true]
    · have b3 := mul_bd sl (s - w) 400 200000 (by omega) (by omega) (by omega) (by omega)
      have e3 : sl * (s - w - 1) = sl * (s - w) - sl := by rw [Int.mul_sub, Int.mul_one]
      rw [if_neg (by omega), if_pos (by omega), as_w (s - w) (by omega) (by omega), as_w (sl * (s - w)) (by omega) (by omega), as_w (s - w - 1) (by omega) (by omega), as_w (sl * (s - w - 1)) (by omega) (by omega),
        if_pos (by omega), decide_eq_true hw2]; simp only [if_true]
  | succ d ih =>
    intro k v hv hv' hp hd hk
    obtain ⟨k, rfl⟩ : ∃ m, k = m + 1 := ⟨k - 1, by omega⟩
    have b1 := mul_bd v s 400 200000 (by omega) (by omega) h3 h4
    have b2 := mul_bd sl s 400 200000 (by omega) (by omega) h3 h4
    by_cases hc : v * s < D
    · simp only [skywaylaw4_ApproachSpeeds.l0]
      rw [as_w (v * s) (by omega) (by omega), if_pos (by omega), if_pos hc, as_w (v + 1) (by omega) (by omega)]
      exact ih k (v + 1) (by omega) (by omega) (.inr (by rw [show v + 1 - 1 = v by omega]; exact hc)) (by omega) (by omega)
    · have hnv := hn v hv (by omega) hp
      subst hnv
      simp only [skywaylaw4_ApproachSpeeds.l0]
      rw [as_w (n * s) (by omega) (by omega), as_w (sl * s) (by omega) (by omega), as_w (D + sl) (by omega) (by omega), as_w (D + sl - 1) (by omega) (by omega)]
      rw [if_pos (by omega), if_neg (by omega), if_neg (by omega)]
      rcases hw with ⟨rfl, hw⟩ | ⟨hw0, hws, hw1, hw2⟩
      · rw [if_pos rfl, if_pos hw]; simp only [if_true]
      · have b3 := mul_bd sl (s - w) 400 200000 (by omega) (by omega) (by omega) (by omega)
        have e3 : sl * (s - w - 1) = sl * (s - w) - sl := by rw [Int.mul_sub, Int.mul_one]
        rw [if_neg (by omega), if_pos (by omega), as_w (s - w) (by omega) (by omega), as_w (sl * (s - w)) (by omega) (by omega), as_w (s - w - 1) (by omega) (by omega), as_w (sl * (s - w - 1)) (by omega) (by omega),
          if_pos (by omega), decide_eq_true hw2]; simp only [if_true]

theorem loop_none (D s sl fa : Int) (h : Okd D s sl fa) (hfast : fa * s < D) (d : Nat) :
    ∀ (k : Nat) (v : Int), sl ≤ v → v ≤ fa + 1 → fa + 1 - v = d → d + 1 ≤ k → skywaylaw4_ApproachSpeeds.l0 k D s sl fa 0 8 0 8 v = some true := by
  obtain ⟨h1, h2, h3, h4, h5, h6, h7⟩ := h
  induction d with
  | zero =>
    intro k v hv hv' hd hk
    obtain ⟨k, rfl⟩ : ∃ m, k = m + 1 := ⟨k - 1, by omega⟩
    simp only [skywaylaw4_ApproachSpeeds.l0]
    rw [if_neg (by omega), if_pos (by omega)]
    simp only [if_true]
    rfl
  | succ d ih =>
    intro k v hv hv' hd hk
    obtain ⟨k, rfl⟩ : ∃ m, k = m + 1 := ⟨k - 1, by omega⟩
    have b1 := mul_bd v s 400 200000 (by omega) (by omega) h3 h4
    have b2 : v * s ≤ fa * s := Int.mul_le_mul_of_nonneg_right (by omega) h3
    simp only [skywaylaw4_ApproachSpeeds.l0]
    rw [as_w (v * s) (by omega) (by omega), if_pos (by omega), if_pos (by omega), as_w (v + 1) (by omega) (by omega)]
    exact ih k (v + 1) (by omega) (by omega) (by omega) (by omega)

theorem fact : approach_Speed.f 1000 30 20 50 = some (34, 0) := by
  unfold approach_Speed.f
  rw [speeds_yes _ _ _ _ (by unfold Okd; omega)]
  simp only [Option.bind_some, if_true]
  rw [as_w _ (by omega) (by omega), as_w _ (by omega) (by omega), if_neg (by omega), if_neg (by omega), if_neg (by omega), as_w (1000 + 30) (by omega) (by omega), as_w (1000 + 30 - 1) (by omega) (by omega)]
  rw [show Int.tdiv (1000 + 30 - 1) 30 = 34 from by decide, as_w 34 (by omega) (by omega)]

theorem wait_of (D s sl fa n : Int) (h : Okd D s sl fa) (hs : approach_Speed.f D s sl fa = some (n, 0)) :
    ∃ w, approach_Wait.f D s sl fa = some (w, 0) ∧ ((w = 0 ∧ sl * s ≤ D + sl - 1) ∨ (0 < w ∧ w ≤ s ∧ D ≤ sl * (s - w) ∧ sl * (s - w - 1) < D)) := by
  obtain ⟨h1, h2, h3, h4, h5, h6, h7⟩ := h
  obtain ⟨q, hq, q1, q2⟩ := up_spec D sl (by omega)
  have hq0 : 0 ≤ q := by rw [← hq]; exact Int.ediv_nonneg (by omega) (by omega)
  have hq4 : q ≤ 4000400 := by
    have h8 := Int.mul_le_mul_of_nonneg_left (show (1 : Int) ≤ sl by omega) hq0
    omega
  refine ⟨mx 0 (s - q), ?_, ?_⟩
  · unfold approach_Wait.f
    rw [hs]
    simp only [Option.bind_some, if_true]
    rw [if_neg (by omega), as_w (D + sl) (by omega) (by omega), as_w (D + sl - 1) (by omega) (by omega), Int.tdiv_eq_ediv_of_nonneg (by omega), hq, as_w q (by omega) (by omega), as_w (s - q) (by omega) (by omega)]
  · unfold mx
    by_cases hc : 0 < s - q
    · rw [if_pos hc]
      refine .inr ⟨hc, by omega, ?_, ?_⟩
      · rw [show s - (s - q) = q by omega, Int.mul_comm]; exact q1
      · rw [show s - (s - q) - 1 = q - 1 by omega, Int.mul_sub, Int.mul_one, Int.mul_comm]; omega
    · rw [if_neg hc]
      refine .inl ⟨rfl, ?_⟩
      have := Int.mul_le_mul_of_nonneg_left (show s ≤ q by omega) (show 0 ≤ sl by omega)
      rw [Int.mul_comm sl q] at this
      omega

theorem ApproachSpeeds : skywaylaw4_ApproachSpeeds.Pure := by
  intro D s sl fa _ _ _ _
  refine ⟨1000, ?_⟩
  unfold skywaylaw4_ApproachSpeeds.f
  rw [fact]
  simp only [Option.bind_some, if_true]
  rw [show ((34 : Int) != 34) = false from rfl]
  simp only [skywaylaw4_ApproachSpeeds.j0]
  rw [if_neg (by decide)]
  by_cases h : Okd D s sl fa
  · have h' := h
    obtain ⟨h1, h2, h3, h4, h5, h6, h7⟩ := h'
    have b1 := mul_bd fa s 400 200000 (by omega) (by omega) h3 h4
    have b2 := mul_bd sl s 400 200000 (by omega) (by omega) h3 h4
    rw [as_in, as_in, as_in, as_in]
    rw [decide_eq_true (show 0 ≤ D ∧ D ≤ 4000000 from ⟨h1, h2⟩), decide_eq_true (show 0 ≤ s ∧ s ≤ 200000 from ⟨h3, h4⟩), decide_eq_true (show 1 ≤ fa ∧ fa ≤ 400 by omega), decide_eq_true (show 1 ≤ sl ∧ sl ≤ fa from ⟨h5, h6⟩)]
    simp only [Option.bind_some, if_true, Bool.not_true]
    by_cases hf : fa * s < D
    · have hsp : approach_Speed.f D s sl fa = some (0, 8) := by
        unfold approach_Speed.f
        rw [speeds_yes _ _ _ _ h]
        simp only [Option.bind_some, if_true]
        rw [as_w (fa * s) (by omega) (by omega), if_pos hf]
      have hwt : approach_Wait.f D s sl fa = some (0, 8) := by
        unfold approach_Wait.f
        rw [hsp]
        simp only [Option.bind_some]
        rw [if_neg (by decide)]
      rw [hsp, hwt]
      simp only [Option.bind_some, skywaylaw4_ApproachSpeeds.j1]
      rw [if_neg (by decide)]
      exact loop_none D s sl fa h hf (fa + 1 - sl).toNat _ sl (by omega) (by omega) (by omega) (by omega)
    · have hsp : ∃ n, approach_Speed.f D s sl fa = some (n, 0) ∧ ∀ v, sl ≤ v → D ≤ v * s → (v = sl ∨ (v - 1) * s < D) → n = v := by
        unfold approach_Speed.f
        rw [speeds_yes _ _ _ _ h]
        simp only [Option.bind_some, if_true]
        rw [as_w (fa * s) (by omega) (by omega), if_neg hf, as_w (sl * s) (by omega) (by omega)]
        by_cases hg : D ≤ sl * s
        · rw [if_pos hg]
          refine ⟨sl, rfl, fun v hv hv1 hv2 => ?_⟩
          rcases hv2 with hv2 | hv2
          · exact hv2.symm
          · rcases Int.lt_or_le sl v with hlt | hge
            · exfalso
              have : sl * s ≤ (v - 1) * s := Int.mul_le_mul_of_nonneg_right (by omega) h3
              omega
            · omega
        · rw [if_neg (by omega)]
          have hs0 : 0 < s := by
            rcases Int.lt_or_le 0 s with h0 | h0
            · exact h0
            · exfalso
              obtain rfl : s = 0 := by omega
              simp at hf hg
              omega
          obtain ⟨q, hq, q1, q2⟩ := up_spec D s hs0
          have hq0 : 0 ≤ q := by rw [← hq]; exact Int.ediv_nonneg (by omega) (by omega)
          have hq4 : q ≤ 4200000 := by
            rcases Int.lt_or_le q 4200001 with h0 | h0
            · omega
            · exfalso
              have := Int.mul_le_mul_of_nonneg_right h0 (show 0 ≤ s by omega)
              omega
          rw [if_neg (by omega), as_w (D + s) (by omega) (by omega), as_w (D + s - 1) (by omega) (by omega), Int.tdiv_eq_ediv_of_nonneg (by omega), hq, as_w q (by omega) (by omega)]
          refine ⟨q, rfl, fun v hv hv1 hv2 => ?_⟩
          rcases hv2 with rfl | hv2
          · omega
          · exact up_unique D s q v hs0 q1 q2 hv1 hv2
      obtain ⟨n, hsp, hn⟩ := hsp
      obtain ⟨w, hwt, hw⟩ := wait_of D s sl fa n h hsp
      rw [hsp, hwt]
      simp only [Option.bind_some, skywaylaw4_ApproachSpeeds.j1]
      rw [if_neg (by decide)]
      exact loop_found D s sl fa h n w (by omega) hn hw (fa - sl).toNat _ sl (by omega) (by omega) (.inl rfl) (by omega) (by omega)
  · have hsp : approach_Speed.f D s sl fa = some (0, 4) := by
      unfold approach_Speed.f
      rw [speeds_no _ _ _ _ h]
      simp only [Option.bind_some]
      rw [if_neg (by decide)]
    have hwt : approach_Wait.f D s sl fa = some (0, 4) := by
      unfold approach_Wait.f
      rw [hsp]
      simp only [Option.bind_some]
      rw [if_neg (by decide)]
    have hj : ∀ k, skywaylaw4_ApproachSpeeds.j1 (k + 1) D s sl fa 0 4 0 4 true = some true := fun k => by
      simp only [skywaylaw4_ApproachSpeeds.j1, if_true]; rfl
    rw [hsp, hwt, as_in, as_in, as_in, as_in]
    simp only [Option.bind_some]
    unfold Okd at h
    by_cases g1 : 0 ≤ D ∧ D ≤ 4000000
    · rw [decide_eq_true g1, if_pos rfl]
      by_cases g2 : 0 ≤ s ∧ s ≤ 200000
      · rw [decide_eq_true g2, if_pos rfl]
        by_cases g3 : 1 ≤ fa ∧ fa ≤ 400
        · rw [decide_eq_true g3, if_pos rfl, decide_eq_false (show ¬ (1 ≤ sl ∧ sl ≤ fa) by omega)]
          exact hj 998
        · rw [decide_eq_false g3, if_neg (by decide)]; exact hj 998
      · rw [decide_eq_false g2, if_neg (by decide)]; exact hj 998
    · rw [decide_eq_false g1, if_neg (by decide)]; exact hj 998

end Go.Proofs.Ytlaaeighanknpaa.Pure
