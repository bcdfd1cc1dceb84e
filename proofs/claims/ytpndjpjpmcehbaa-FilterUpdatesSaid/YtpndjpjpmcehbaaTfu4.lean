/- What is proved: the law FilterUpdates says true. No condition. -/
import Derived.Test.YtpndjpjpmcehbaaTfu3
namespace Go.Proofs.YtpndjpjpmcehbaaFt
open Go Go.Proofs Go.Proofs.YtpndjpjpmcehbaaEv
set_option maxRecDepth 100000
set_option linter.unusedSimpArgs false
set_option linter.unusedVariables false
theorem pred_ok (f : kFT.den) (t a : Int) (h : (predictedS f t a).2 = 0) : 0 ≤ a ∧ a ≤ 20 ∧ checkE (predictedS f t a).1 = 0 := by
  unfold predictedS at *
  by_cases c0 : checkE f ≠ 0
  · rw [if_pos c0] at h; exact absurd h c0
  · rw [if_neg c0] at h ⊢
    by_cases c1 : t < 0 ∨ 200000 < t ∨ a < 0 ∨ 20 < a
    · rw [if_pos c1] at h; exact absurd h (by decide)
    · rw [if_neg c1] at h ⊢
      by_cases c2 : W (t - timeOf f) < 0 ∨ 600 < W (t - timeOf f)
      · rw [if_pos c2] at h; exact absurd h (by decide)
      · rw [if_neg c2] at h ⊢
        by_cases c3 : checkE (predictF refDown clampS grownS f t a) ≠ 0
        · rw [if_pos c3] at h; exact absurd h (by decide)
        · rw [if_neg c3]
          exact ⟨by omega, by omega, Decidable.not_not.1 c3⟩
theorem last_ok {a0 a1 a2 a3 a4 a5 a6 a7 a8 a9 a10 a11 a12 a13 a14 a15 a16 a17 a18 a19 : Int} (h : checkE ((a0, a1, a2, (a3, a4), (a5, a6), a7, a8, a9, a10, a11, a12), a13, a14, (a15, a16), a17, a18, a19) = 0) : spotOk a14 a15 a16 a17 a18 a19 := by
  have hc := checked h
  simp only [checkE, checkS] at h
  rw [if_pos hc] at h
  by_cases h1 : 0 ≤ a1 ∧ a1 ≤ 2
  · rw [if_pos h1] at h
    by_cases hs : spotOk a14 a15 a16 a17 a18 a19
    · exact hs
    · rw [if_neg hs] at h; exact absurd h (by decide)
  · rw [if_neg h1] at h; exact absurd h (by decide)
theorem same_upd (a0 a1 a2 a3 a4 a5 a6 a7 a8 a9 a10 a11 a12 a13 a14 a15 a16 a17 a18 a19 a20 a21 a22 a23 a24 a25 a26 a27 a28 : Int) : updI ((a0, a1, a2, (a3, a4), (a5, a6), a7, a8, a9, a10, a11, a12), a13, a14, (a15, a16), a17, a18, a19) a14 a15 a16 a17 a19 a20 a21 a22 a23 a24 a25 a26 a27 a28 = updR ((a0, a1, a2, (a3, a4), (a5, a6), a7, a8, a9, a10, a11, a12), a13, a14, (a15, a16), a17, a18, a19) a14 a15 a16 a17 a19 a20 a21 a22 a23 a24 a25 a26 a27 a28 := by
  unfold updI updR updG
  rw [same a0 a1 a2 a3 a4 a5 a6 a7 a8 a9 a10 a11 a12 a13 a14 a15 a16 a17 a18 a19 a20 a26]
  by_cases c0 : checkE ((a0, a1, a2, (a3, a4), (a5, a6), a7, a8, a9, a10, a11, a12), a13, a14, (a15, a16), a17, a18, a19) ≠ 0
  · rw [if_pos c0, if_pos c0]
  rw [if_neg c0, if_neg c0]
  by_cases c1 : spotE a20 a21 a22 a23 a24 a25 ≠ 0
  · rw [if_pos c1, if_pos c1]
  rw [if_neg c1, if_neg c1]
  by_cases c2 : a27 < 0 ∨ 256 < a27 ∨ a28 < 0 ∨ 256 < a28
  · rw [if_pos c2, if_pos c2]
  rw [if_neg c2, if_neg c2]
  by_cases c3 : W (a20 - a14) ≤ 0
  · rw [if_pos c3, if_pos c3]
  rw [if_neg c3, if_neg c3]
  by_cases c4 : (predictedS ((a0, a1, a2, (a3, a4), (a5, a6), a7, a8, a9, a10, a11, a12), a13, a14, (a15, a16), a17, a18, a19) a20 a26).2 ≠ 0
  · rw [if_pos c4, if_pos c4]
  rw [if_neg c4, if_neg c4]
  obtain ⟨b1, b2, b3⟩ := pred_ok _ _ _ (Decidable.not_not.1 c4)
  have hl := last_ok (Decidable.not_not.1 c0)
  have hs : spotOk a20 a21 a22 a23 a24 a25 := by
    by_cases hs : spotOk a20 a21 a22 a23 a24 a25
    · exact hs
    · exact absurd (spotE_neg hs) (by rw [Decidable.not_not.1 c1]; decide)
  clear c4
  have key : updF dnI upI betweenS mixS cdI (predictedS ((a0, a1, a2, (a3, a4), (a5, a6), a7, a8, a9, a10, a11, a12), a13, a14, (a15, a16), a17, a18, a19) a20 a26).1 a14 a15 a16 a17 a19 a20 a21 a22 a23 a24 a25 a26 a27 a28 = updF refDown refUp clampS mixedS cdR (predictedS ((a0, a1, a2, (a3, a4), (a5, a6), a7, a8, a9, a10, a11, a12), a13, a14, (a15, a16), a17, a18, a19) a20 a26).1 a14 a15 a16 a17 a19 a20 a21 a22 a23 a24 a25 a26 a27 a28 := by
    revert b3
    generalize (predictedS ((a0, a1, a2, (a3, a4), (a5, a6), a7, a8, a9, a10, a11, a12), a13, a14, (a15, a16), a17, a18, a19) a20 a26).1 = p
    obtain ⟨⟨i, s, tp, ⟨px, py⟩, ⟨u, v⟩, h0, q, r, co, n, m⟩, sl, lt0, ⟨lx0, ly0⟩, lh0, lc0, le0⟩ := p
    intro b3
    obtain ⟨hp, hr⟩ := checked b3
    exact upd_eq i s tp px py u v h0 q r co n m sl lt0 lx0 ly0 lh0 lc0 le0 a14 a15 a16 a17 a19 a20 a21 a22 a23 a24 a25 a26 a27 a28 hp hr hs (by omega) ⟨b1, b2⟩ (by omega) c3
  rw [key]
theorem flaw_ok (a0 a1 a2 a3 a4 a5 a6 a7 a8 a9 a10 a11 a12 a13 a14 a15 a16 a17 a18 a19 a20 a21 a22 a23 a24 a25 a26 a27 a28 : Int) : CallOK Try.prog 7 (showL [sFT, sSpot, sI, sI, sI] (((a0, a1, a2, (a3, a4), (a5, a6), a7, a8, a9, a10, a11, a12), a13, a14, (a15, a16), a17, a18, a19), (a20, (a21, a22), a23, a24, a25), a26, a27, a28, ())) [] (.sc (.bool true)) [] := by
  refine lift T7_ok Try.func7 rfl ((u7 a0 a1 a2 a3 a4 a5 a6 a7 a8 a9 a10 a11 a12 a13 a14 a15 a16 a17 a18 a19 a20 a21 a22 a23 a24 a25 a26 a27 a28).trans ?_) _ rfl (by rw [showL_len]; decide)
  have e : updA updI (((a0, a1, a2, (a3, a4), (a5, a6), a7, a8, a9, a10, a11, a12), a13, a14, (a15, a16), a17, a18, a19), (a20, (a21, a22), a23, a24, a25), a26, a27, a28, ()) = updA updR (((a0, a1, a2, (a3, a4), (a5, a6), a7, a8, a9, a10, a11, a12), a13, a14, (a15, a16), a17, a18, a19), (a20, (a21, a22), a23, a24, a25), a26, a27, a28, ()) := same_upd a0 a1 a2 a3 a4 a5 a6 a7 a8 a9 a10 a11 a12 a13 a14 a15 a16 a17 a18 a19 a20 a21 a22 a23 a24 a25 a26 a27 a28
  rw [e]
  simp
end Go.Proofs.YtpndjpjpmcehbaaFt
namespace Go.Proofs.YtpndjpjpmcehbaaFu
open Go Go.Proofs Go.Proofs.YtpndjpjpmcehbaaEv Go.Proofs.YtpndjpjpmcehbaaFt
theorem lawOK (v : dens [⟨true, (Kd.pair (Kd.pair (Kd.int .i64) (Kd.pair (Kd.int .i64) (Kd.pair (Kd.int .i64) (Kd.pair (Kd.pair (Kd.int .i64) (Kd.int .i64)) (Kd.pair (Kd.pair (Kd.int .i64) (Kd.int .i64)) (Kd.pair (Kd.int .i64) (Kd.pair (Kd.int .i64) (Kd.pair (Kd.int .i64) (Kd.pair (Kd.int .i64) (Kd.pair (Kd.int .i64) (Kd.int .i64))))))))))) (Kd.pair (Kd.int .i64) (Kd.pair (Kd.int .i64) (Kd.pair (Kd.pair (Kd.int .i64) (Kd.int .i64)) (Kd.pair (Kd.int .i64) (Kd.pair (Kd.int .i64) (Kd.int .i64)))))))⟩, ⟨true, (Kd.pair (Kd.int .i64) (Kd.pair (Kd.pair (Kd.int .i64) (Kd.int .i64)) (Kd.pair (Kd.int .i64) (Kd.pair (Kd.int .i64) (Kd.int .i64)))))⟩, ⟨false, (Kd.int .i64)⟩, ⟨false, (Kd.int .i64)⟩, ⟨false, (Kd.int .i64)⟩]) (_ : (both (both (gInt .i64) (both (gInt .i64) (both (gInt .i64) (both (both (gInt .i64) (gInt .i64)) (both (both (gInt .i64) (gInt .i64)) (both (gInt .i64) (both (gInt .i64) (both (gInt .i64) (both (gInt .i64) (both (gInt .i64) (gInt .i64))))))))))) (both (gInt .i64) (both (gInt .i64) (both (both (gInt .i64) (gInt .i64)) (both (gInt .i64) (both (gInt .i64) (gInt .i64))))))) v.1 ∧ (both (gInt .i64) (both (both (gInt .i64) (gInt .i64)) (both (gInt .i64) (both (gInt .i64) (gInt .i64))))) v.2.1 ∧ (gInt .i64) v.2.2.1 ∧ (gInt .i64) v.2.2.2.1 ∧ (gInt .i64) v.2.2.2.2.1 ∧ True) : CallOK Try.prog 7 (showL [⟨true, (Kd.pair (Kd.pair (Kd.int .i64) (Kd.pair (Kd.int .i64) (Kd.pair (Kd.int .i64) (Kd.pair (Kd.pair (Kd.int .i64) (Kd.int .i64)) (Kd.pair (Kd.pair (Kd.int .i64) (Kd.int .i64)) (Kd.pair (Kd.int .i64) (Kd.pair (Kd.int .i64) (Kd.pair (Kd.int .i64) (Kd.pair (Kd.int .i64) (Kd.pair (Kd.int .i64) (Kd.int .i64))))))))))) (Kd.pair (Kd.int .i64) (Kd.pair (Kd.int .i64) (Kd.pair (Kd.pair (Kd.int .i64) (Kd.int .i64)) (Kd.pair (Kd.int .i64) (Kd.pair (Kd.int .i64) (Kd.int .i64)))))))⟩, ⟨true, (Kd.pair (Kd.int .i64) (Kd.pair (Kd.pair (Kd.int .i64) (Kd.int .i64)) (Kd.pair (Kd.int .i64) (Kd.pair (Kd.int .i64) (Kd.int .i64)))))⟩, ⟨false, (Kd.int .i64)⟩, ⟨false, (Kd.int .i64)⟩, ⟨false, (Kd.int .i64)⟩] v) [] (.sc (.bool true)) [] := by
  obtain ⟨⟨⟨a0, a1, a2, ⟨a3, a4⟩, ⟨a5, a6⟩, a7, a8, a9, a10, a11, a12⟩, a13, a14, ⟨a15, a16⟩, a17, a18, a19⟩, ⟨a20, ⟨a21, a22⟩, a23, a24, a25⟩, a26, a27, a28, ⟨⟩⟩ := v
  exact flaw_ok a0 a1 a2 a3 a4 a5 a6 a7 a8 a9 a10 a11 a12 a13 a14 a15 a16 a17 a18 a19 a20 a21 a22 a23 a24 a25 a26 a27 a28
end Go.Proofs.YtpndjpjpmcehbaaFu
