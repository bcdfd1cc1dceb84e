/- What is proved: the prediction of a track is the reference's, and so are its parts. No condition. -/
import Derived.Test.YtpndjpjpmcehbaaTk1
namespace Go.Proofs.YtpndjpjpmcehbaaTk
open Go Go.Proofs Go.Proofs.YtpndjpjpmcehbaaEv
set_option maxRecDepth 100000
set_option linter.unusedSimpArgs false
set_option linter.unusedVariables false
theorem td_gen (y k : Int) : y.tdiv k = if 0 ≤ y then y / k else -((-y) / k) := by
  split
  · exact Int.tdiv_eq_ediv_of_nonneg ‹_›
  · have : (-(-y)).tdiv k = -((-y).tdiv k) := Int.neg_tdiv _ _
    rw [Int.neg_neg] at this
    rw [this, Int.tdiv_eq_ediv_of_nonneg (by omega)]
theorem W_eq (n : Int) : ∃ m, W n = m ∧ -9223372036854775808 ≤ m ∧ m ≤ 9223372036854775807 ∧ (-9223372036854775808 ≤ n → n ≤ 9223372036854775807 → m = n) := by
  refine ⟨W n, rfl, ?_⟩
  unfold W; rw [IntKind.wrap_i64]; omega
theorem W_id (n : Int) (h0 : -9223372036854775808 ≤ n) (h1 : n ≤ 9223372036854775807) : W n = n := by
  obtain ⟨m, h, _, _, h4⟩ := W_eq n; rw [h]; exact h4 h0 h1
theorem dn_ref (y k : Int) (hk : k = 16 ∨ k = 2) (h0 : -9223372036854775808 ≤ y) (h1 : y ≤ 9223372036854775807) : (divDown y k).1 = y / k ∧ (divDown y k).2 = 0 ∧ refDown y k = y / k := by
  have t := td_gen y k
  have tm := Int.tmod_def y k
  unfold divDown refDown
  rw [if_neg (by omega)]
  rcases hk with rfl | rfl
  · have hq : W (y.tdiv 16) = y.tdiv 16 := W_id _ (by rw [t]; split <;> omega) (by rw [t]; split <;> omega)
    rw [hq, W_id (y.tdiv 16 * 16) (by rw [t]; split <;> omega) (by rw [t]; split <;> omega), W_id (y.tdiv 16 - 1) (by rw [t]; split <;> omega) (by rw [t]; split <;> omega)]
    refine ⟨?_, rfl, ?_⟩
    · show (if _ then _ else _) = _
      by_cases hy : 0 ≤ y
      · rw [if_pos hy] at t
        rw [if_neg (by simp; omega)]; omega
      · rw [if_neg hy] at t
        by_cases hz : y.tmod 16 = 0
        · rw [if_neg (by simp [hz])]; omega
        · rw [if_pos ⟨hz, by simp; omega⟩]; omega
    · by_cases hy : 0 ≤ y
      · rw [if_pos hy] at t; rw [if_neg (by omega)]; omega
      · rw [if_neg hy] at t; split <;> omega
  · have hq : W (y.tdiv 2) = y.tdiv 2 := W_id _ (by rw [t]; split <;> omega) (by rw [t]; split <;> omega)
    rw [hq, W_id (y.tdiv 2 * 2) (by rw [t]; split <;> omega) (by rw [t]; split <;> omega), W_id (y.tdiv 2 - 1) (by rw [t]; split <;> omega) (by rw [t]; split <;> omega)]
    refine ⟨?_, rfl, ?_⟩
    · show (if _ then _ else _) = _
      by_cases hy : 0 ≤ y
      · rw [if_pos hy] at t
        rw [if_neg (by simp; omega)]; omega
      · rw [if_neg hy] at t
        by_cases hz : y.tmod 2 = 0
        · rw [if_neg (by simp [hz])]; omega
        · rw [if_pos ⟨hz, by simp; omega⟩]; omega
    · by_cases hy : 0 ≤ y
      · rw [if_pos hy] at t; rw [if_neg (by omega)]; omega
      · rw [if_neg hy] at t; split <;> omega
theorem up_ref (y k : Int) (hk : k = 16 ∨ k = 2) (h0 : -9223372036854775807 ≤ y) (h1 : y ≤ 9223372036854775807) : (divUp y k).1 = refUp y k := by
  obtain ⟨a1, a2, _⟩ := dn_ref y k hk (by omega) h1
  obtain ⟨_, _, b3⟩ := dn_ref (0 - y) k hk (by omega) (by omega)
  have t := td_gen y k
  have tm := Int.tmod_def y k
  unfold divUp refUp
  rw [a1, a2, W_id (0 - y) (by omega) (by omega), b3]
  show (if _ then _ else _) = _
  rcases hk with rfl | rfl
  · rw [W_id (0 - (0 - y) / 16) (by omega) (by omega), W_id (y / 16 + 1) (by omega) (by omega)]
    by_cases hz : y.tmod 16 = 0
    · rw [if_neg (fun h => h.2 hz)]; split at t <;> omega
    · rw [if_pos ⟨rfl, hz⟩]; split at t <;> omega
  · rw [W_id (0 - (0 - y) / 2) (by omega) (by omega), W_id (y / 2 + 1) (by omega) (by omega)]
    by_cases hz : y.tmod 2 = 0
    · rw [if_neg (fun h => h.2 hz)]; split at t <;> omega
    · rw [if_pos ⟨rfl, hz⟩]; split at t <;> omega

theorem ne_of_bne {a b : Int} (h : (a != b) = true) : a ≠ b := by simpa using h
theorem eq_of_bne {a b : Int} (h : (a != b) = false) : a = b := by simpa using h
def outP (r : kFT.den × Int) : Option (PV × List Blk) := some (PV.tup [(⟨true, kFT⟩ : Sh).pv r.1, PV.sc (.int .i64 r.2)], [])
theorem q30 (a0 a1 a2 a3 a4 a5 a6 a7 a8 a9 a10 a11 a12 a13 a14 a15 a16 a17 a18 a19 a20 a21 : Int) : p30L a0 a1 a2 a3 a4 a5 a6 a7 a8 a9 a10 a11 a12 a13 a14 a15 a16 a17 a18 a19 a20 a21 = outP (predictS ((a0, a1, a2, (a3, a4), (a5, a6), a7, a8, a9, a10, a11, a12), a13, a14, (a15, a16), a17, a18, a19) a20 a21) := by
  refine (p30 a0 a1 a2 a3 a4 a5 a6 a7 a8 a9 a10 a11 a12 a13 a14 a15 a16 a17 a18 a19 a20 a21).trans ?_
  unfold predictS
  simp only [show timeOf ((a0, a1, a2, (a3, a4), (a5, a6), a7, a8, a9, a10, a11, a12), a13, a14, (a15, a16), a17, a18, a19) = a2 from rfl]
  refine cond_split (fun h0 => ?_) (fun h0 => ?_)
  · rw [if_pos (by simpa using h0)]; rfl
  rw [if_neg (show ¬ ¬ _ from fun k => k (by simpa using h0))]
  refine cond_split (fun h1 => ?_) (fun h1 => ?_)
  · rw [if_pos (by have := of_decide_eq_true h1; omega)]; rfl
  refine cond_split (fun h2 => ?_) (fun h2 => ?_)
  · rw [if_pos (by have := of_decide_eq_true h2; omega)]; rfl
  refine cond_split (fun h3 => ?_) (fun h3 => ?_)
  · rw [if_pos (by have := of_decide_eq_true h3; omega)]; rfl
  refine cond_split (fun h4 => ?_) (fun h4 => ?_)
  · rw [if_pos (by have := of_decide_eq_true h4; omega)]; rfl
  have k1 := of_decide_eq_false h1
  have k2 := of_decide_eq_false h2
  have k3 := of_decide_eq_false h3
  have k4 := of_decide_eq_false h4
  rw [if_neg (show ¬ (a20 < 0 ∨ 200000 < a20 ∨ a21 < 0 ∨ 20 < a21) by omega)]
  refine cond_split (fun h5 => ?_) (fun h5 => ?_)
  · rw [if_pos (show W (a20 - a2) < 0 ∨ 600 < W (a20 - a2) from Or.inl (of_decide_eq_true h5))]; rfl
  refine cond_split (fun h6 => ?_) (fun h6 => ?_)
  · rw [if_pos (show W (a20 - a2) < 0 ∨ 600 < W (a20 - a2) from Or.inr (of_decide_eq_true h6))]; rfl
  rw [if_neg (show ¬ (W (a20 - a2) < 0 ∨ 600 < W (a20 - a2)) from fun k => k.elim (of_decide_eq_false h5) (of_decide_eq_false h6))]
  refine cond_split (fun h7 => ?_) (fun h7 => ?_)
  · rw [if_pos (show W (a20 - a2) = 0 by simpa using h7)]; rfl
  rw [if_neg (show ¬ W (a20 - a2) = 0 by simpa using h7)]
  refine cond_split (fun h8 => ?_) (fun h8 => ?_)
  · rw [if_pos (show checkE (predictF dnI betweenS grownI ((a0, a1, a2, (a3, a4), (a5, a6), a7, a8, a9, a10, a11, a12), a13, a14, (a15, a16), a17, a18, a19) a20 a21) ≠ 0 from ne_of_bne h8)]; rfl
  · rw [if_neg (show ¬ (checkE (predictF dnI betweenS grownI ((a0, a1, a2, (a3, a4), (a5, a6), a7, a8, a9, a10, a11, a12), a13, a14, (a15, a16), a17, a18, a19) a20 a21) ≠ 0) from fun k => k (eq_of_bne h8))]; rfl
theorem T4_ok : TableOK Try.prog T4 := by
  refine ext_ok e33 (ext_ok (entV_ok Try.call30 (liftV T3_ok mixed Try.func30 rfl (kill := []) (noCuts_ok _) (by decide) ?_)) T3_ok)
  rintro ⟨⟨⟨a0, a1, a2, ⟨a3, a4⟩, ⟨a5, a6⟩, a7, a8, a9, a10, a11, a12⟩, a13, a14, ⟨a15, a16⟩, a17, a18, a19⟩, a20, a21, ⟨⟩⟩ _
  exact q30 a0 a1 a2 a3 a4 a5 a6 a7 a8 a9 a10 a11 a12 a13 a14 a15 a16 a17 a18 a19 a20 a21
theorem q31 (a0 a1 a2 a3 a4 a5 a6 a7 a8 a9 a10 a11 a12 a13 a14 a15 a16 a17 a18 a19 a20 a21 : Int) : p31L a0 a1 a2 a3 a4 a5 a6 a7 a8 a9 a10 a11 a12 a13 a14 a15 a16 a17 a18 a19 a20 a21 = outP (predictedS ((a0, a1, a2, (a3, a4), (a5, a6), a7, a8, a9, a10, a11, a12), a13, a14, (a15, a16), a17, a18, a19) a20 a21) := by
  refine (p31 a0 a1 a2 a3 a4 a5 a6 a7 a8 a9 a10 a11 a12 a13 a14 a15 a16 a17 a18 a19 a20 a21).trans ?_
  unfold predictedS
  simp only [show timeOf ((a0, a1, a2, (a3, a4), (a5, a6), a7, a8, a9, a10, a11, a12), a13, a14, (a15, a16), a17, a18, a19) = a2 from rfl, W]
  refine cond_split (fun h0 => ?_) (fun h0 => ?_)
  · rw [if_pos (by simpa using h0)]; rfl
  rw [if_neg (show ¬ ¬ _ from fun k => k (by simpa using h0))]
  refine cond_split (fun h1 => ?_) (fun h1 => ?_)
  · simp only [inS, Bool.not_eq_true', decide_eq_false_iff_not] at h1; rw [if_pos (by omega)]; rfl
  refine cond_split (fun h2 => ?_) (fun h2 => ?_)
  · simp only [inS, Bool.not_eq_true', decide_eq_false_iff_not] at h2; rw [if_pos (by omega)]; rfl
  simp only [inS, Bool.not_eq_false', decide_eq_true_eq] at h1 h2
  rw [if_neg (by omega)]
  refine cond_split (fun h5 => ?_) (fun h5 => ?_)
  · simp only [inS, Bool.not_eq_true', decide_eq_false_iff_not] at h5; rw [if_pos (by omega)]; rfl
  simp only [inS, Bool.not_eq_false', decide_eq_true_eq] at h5
  rw [if_neg (by omega)]
  refine cond_split (fun h8 => ?_) (fun h8 => ?_)
  · rw [if_pos (show checkE (predictF refDown clampS grownS ((a0, a1, a2, (a3, a4), (a5, a6), a7, a8, a9, a10, a11, a12), a13, a14, (a15, a16), a17, a18, a19) a20 a21) ≠ 0 from ne_of_bne h8)]; rfl
  · rw [if_neg (show ¬ (checkE (predictF refDown clampS grownS ((a0, a1, a2, (a3, a4), (a5, a6), a7, a8, a9, a10, a11, a12), a13, a14, (a15, a16), a17, a18, a19) a20 a21) ≠ 0) from fun k => k (eq_of_bne h8))]; rfl
theorem T5_ok : TableOK Try.prog T5 := by
  refine ext_ok (entV_ok Try.call31 (liftV T4_ok mixed Try.func31 rfl (kill := []) (noCuts_ok _) (by decide) ?_)) T4_ok
  rintro ⟨⟨⟨a0, a1, a2, ⟨a3, a4⟩, ⟨a5, a6⟩, a7, a8, a9, a10, a11, a12⟩, a13, a14, ⟨a15, a16⟩, a17, a18, a19⟩, a20, a21, ⟨⟩⟩ _
  exact q31 a0 a1 a2 a3 a4 a5 a6 a7 a8 a9 a10 a11 a12 a13 a14 a15 a16 a17 a18 a19 a20 a21
theorem checked {a0 a1 a2 a3 a4 a5 a6 a7 a8 a9 a10 a11 a12 a13 a14 a15 a16 a17 a18 a19 : Int} (h : checkE ((a0, a1, a2, (a3, a4), (a5, a6), a7, a8, a9, a10, a11, a12), a13, a14, (a15, a16), a17, a18, a19) = 0) : partOk a2 a3 a4 a7 a9 a10 ∧ restOk a0 a5 a6 a8 a11 a12 a13 := by
  simp only [checkE, checkS] at h
  by_cases hr : partOk a2 a3 a4 a7 a9 a10 ∧ restOk a0 a5 a6 a8 a11 a12 a13
  · exact hr
  · rw [if_neg hr] at h; exact absurd h (by decide)
theorem dnW (z : Int) : dnI (W z) 16 = refDown (W z) 16 := by
  obtain ⟨m, h, h1, h2, _⟩ := W_eq z
  obtain ⟨b1, _, b3⟩ := dn_ref m 16 (Or.inl rfl) h1 h2
  unfold dnI; rw [h, b1, b3]
theorem between_clamp (n : Int) : betweenS n 0 60000 = clampS n 0 60000 := by
  unfold betweenS clampS
  repeat' split
  all_goals omega
theorem grown_eq (s a d : Int) (h1 : 0 ≤ s) (h2 : s ≤ 409600) (h3 : 0 ≤ a) (h4 : a ≤ 20) (h5 : 0 ≤ d) (h6 : d ≤ 600) (h7 : d ≠ 0) : grownI s a d = grownS s a d := by
  have m1 : 0 ≤ s * d := Int.mul_nonneg h1 h5
  have m2 : s * d ≤ 409600 * 600 := Int.mul_le_mul h2 h6 h5 (by decide)
  have m3 : 0 ≤ a * d := Int.mul_nonneg h3 h5
  have m4 : a * d ≤ 20 * 600 := Int.mul_le_mul h4 h6 h5 (by decide)
  have m5 : 0 ≤ a * d * d := Int.mul_nonneg m3 h5
  have m6 : a * d * d ≤ 20 * 600 * 600 := Int.mul_le_mul m4 h6 h5 (by decide)
  unfold grownI grownS
  rw [if_neg h7, W_id (s * d) (by omega) (by omega), W_id (a * d) (by omega) (by omega), W_id (a * d * d) (by omega) (by omega), up_ref _ 16 (Or.inl rfl) (by omega) (by omega), up_ref _ 2 (Or.inr rfl) (by omega) (by omega)]
theorem still_same (a0 a1 a2 a3 a4 a5 a6 a7 a8 a9 a10 a11 a12 a13 a14 a15 a16 a17 a18 a19 a21 : Int) (hp : partOk a2 a3 a4 a7 a9 a10) (hr : restOk a0 a5 a6 a8 a11 a12 a13) : predictF refDown clampS grownS ((a0, a1, a2, (a3, a4), (a5, a6), a7, a8, a9, a10, a11, a12), a13, a14, (a15, a16), a17, a18, a19) a2 a21 = ((a0, a1, a2, (a3, a4), (a5, a6), a7, a8, a9, a10, a11, a12), a13, a14, (a15, a16), a17, a18, a19) := by
  have z : W (a2 - a2) = 0 := by rw [Int.sub_self]; rfl
  have r0 : refDown (W 0) 16 = 0 := by decide
  simp only [predictF, z, Int.mul_zero, r0, Int.add_zero]
  have g0 : grownS a13 a21 0 = 0 := if_pos rfl
  have w0 : W 0 = 0 := rfl
  rw [g0, Int.add_zero, w0, Int.add_zero, W_id a3 (by omega) (by omega), W_id a4 (by omega) (by omega), W_id a7 (by omega) (by omega), W_id a9 (by omega) (by omega), W_id a13 (by omega) (by omega)]
  have c0 : clampS a7 0 60000 = a7 := by unfold clampS; rw [if_neg (by omega), if_neg (by omega)]
  rw [c0]
theorem same_pred (a0 a1 a2 a3 a4 a5 a6 a7 a8 a9 a10 a11 a12 a13 a14 a15 a16 a17 a18 a19 a20 a21 : Int) : predictS ((a0, a1, a2, (a3, a4), (a5, a6), a7, a8, a9, a10, a11, a12), a13, a14, (a15, a16), a17, a18, a19) a20 a21 = predictedS ((a0, a1, a2, (a3, a4), (a5, a6), a7, a8, a9, a10, a11, a12), a13, a14, (a15, a16), a17, a18, a19) a20 a21 := by
  unfold predictS predictedS
  simp only [show timeOf ((a0, a1, a2, (a3, a4), (a5, a6), a7, a8, a9, a10, a11, a12), a13, a14, (a15, a16), a17, a18, a19) = a2 from rfl]
  by_cases c0 : checkE ((a0, a1, a2, (a3, a4), (a5, a6), a7, a8, a9, a10, a11, a12), a13, a14, (a15, a16), a17, a18, a19) = 0
  · rw [if_neg (show ¬ (checkE ((a0, a1, a2, (a3, a4), (a5, a6), a7, a8, a9, a10, a11, a12), a13, a14, (a15, a16), a17, a18, a19) ≠ 0) from fun k => k c0), if_neg (show ¬ (checkE ((a0, a1, a2, (a3, a4), (a5, a6), a7, a8, a9, a10, a11, a12), a13, a14, (a15, a16), a17, a18, a19) ≠ 0) from fun k => k c0)]
    by_cases c1 : a20 < 0 ∨ 200000 < a20 ∨ a21 < 0 ∨ 20 < a21
    · rw [if_pos c1, if_pos c1]
    · rw [if_neg c1, if_neg c1]
      by_cases c2 : W (a20 - a2) < 0 ∨ 600 < W (a20 - a2)
      · rw [if_pos c2, if_pos c2]
      · rw [if_neg c2, if_neg c2]
        obtain ⟨hp, hr⟩ := checked c0
        have hd : W (a20 - a2) = a20 - a2 := W_id _ (by omega) (by omega)
        by_cases c3 : W (a20 - a2) = 0
        · have ht : a20 = a2 := by omega
          rw [if_pos c3, ht, still_same a0 a1 a2 a3 a4 a5 a6 a7 a8 a9 a10 a11 a12 a13 a14 a15 a16 a17 a18 a19 a21 hp hr, if_neg (fun k => k c0)]
        · rw [if_neg c3]
          have e : predictF dnI betweenS grownI ((a0, a1, a2, (a3, a4), (a5, a6), a7, a8, a9, a10, a11, a12), a13, a14, (a15, a16), a17, a18, a19) a20 a21 = predictF refDown clampS grownS ((a0, a1, a2, (a3, a4), (a5, a6), a7, a8, a9, a10, a11, a12), a13, a14, (a15, a16), a17, a18, a19) a20 a21 := by
            simp only [predictF]
            rw [dnW, dnW, dnW, between_clamp, grown_eq a13 a21 (W (a20 - a2)) (by omega) (by omega) (by omega) (by omega) (by omega) (by omega) c3]
          rw [e]
  · rw [if_pos c0, if_pos c0]
end Go.Proofs.YtpndjpjpmcehbaaTk
