/- What is proved: filter.Update is its reference, and the law FilterUpdates says true. No condition. -/
import Derived.Test.YtpndjpjpmcehbaaTfu2
namespace Go.Proofs.YtpndjpjpmcehbaaFt
open Go Go.Proofs Go.Proofs.YtpndjpjpmcehbaaEv
set_option maxRecDepth 100000
set_option linter.unusedSimpArgs false
set_option linter.unusedVariables false
theorem prod_in (x g : Int) (h1 : -100000000 ≤ x) (h2 : x ≤ 100000000) (h3 : 0 ≤ g) (h4 : g ≤ 1000) : -100000000000 ≤ x * g ∧ x * g ≤ 100000000000 := by
  have a := Int.mul_le_mul_of_nonneg_right h1 h3
  have b := Int.mul_le_mul_of_nonneg_right h2 h3
  omega
theorem mix_eq (a b g : Int) (h1 : -40000000 ≤ a) (h2 : a ≤ 40000000) (h3 : -40000000 ≤ b) (h4 : b ≤ 40000000) (h5 : 0 ≤ g) (h6 : g ≤ 256) : mixS a b g = mixedS a b g := by
  have p1 := prod_in a g (by omega) (by omega) h5 (by omega)
  have p2 := prod_in b g (by omega) (by omega) h5 (by omega)
  have e1 : (b - a) * g = b * g - a * g := Int.sub_mul ..
  have e2 : a * (256 - g) = a * 256 - a * g := Int.mul_sub ..
  unfold mixS mixedS
  rw [W_id (b - a) (by omega) (by omega), e1, W_id (b * g - a * g) (by omega) (by omega), W_id (256 - g) (by omega) (by omega), e2, W_id (a * 256 - a * g) (by omega) (by omega), W_id (b * g) (by omega) (by omega),
    W_id (a * 256 - a * g + b * g) (by omega) (by omega), (dn_gen _ 256 (by decide) (by omega) (by omega)).1, ref_gen _ 256 (by decide) (by omega) (by omega), W_id _ (by omega) (by omega)]
  omega
theorem between_gen (n l h : Int) (k : l ≤ h) : betweenS n l h = clampS n l h := by
  unfold betweenS clampS
  repeat' split
  all_goals omega
theorem upd_eq (i s tp px py u v h0 q r co n m sl lt0 lx0 ly0 lh0 lc0 le0 lt lx ly lh le t x y h c e a pl sp : Int) (hp : partOk tp px py h0 r co) (hr : restOk i u v q n m sl) (hs : spotOk t x y h c e)
    (l1 : -1000000 ≤ lx ∧ lx ≤ 1000000 ∧ -1000000 ≤ ly ∧ ly ≤ 1000000 ∧ 0 ≤ lh ∧ lh ≤ 60000 ∧ 0 ≤ le ∧ le ≤ 1000000 ∧ 0 ≤ lt ∧ lt ≤ 200000) (ha : 0 ≤ a ∧ a ≤ 20) (hg : 0 ≤ pl ∧ pl ≤ 256 ∧ 0 ≤ sp ∧ sp ≤ 256) (hd : ¬ W (t - lt) ≤ 0) :
    updF dnI upI betweenS mixS cdI ((i, s, tp, (px, py), (u, v), h0, q, r, co, n, m), sl, lt0, (lx0, ly0), lh0, lc0, le0) lt lx ly lh le t x y h c e a pl sp = updF refDown refUp clampS mixedS cdR ((i, s, tp, (px, py), (u, v), h0, q, r, co, n, m), sl, lt0, (lx0, ly0), lh0, lc0, le0) lt lx ly lh le t x y h c e a pl sp := by
  have ed : W (t - lt) = t - lt := W_id _ (by omega) (by omega)
  rw [ed] at hd
  have ec : cdI c co = cdR c co := by unfold cdI cdR; repeat' split; all_goals omega
  have rd : ∀ z, -2000000 ≤ z → z ≤ 2000000 → dnI (W (16 * W z)) (t - lt) = refDown (W (16 * W z)) (t - lt) ∧ -40000000 ≤ refDown (W (16 * W z)) (t - lt) ∧ refDown (W (16 * W z)) (t - lt) ≤ 40000000 := by
    intro z z1 z2
    rw [W_id z (by omega) (by omega), W_id (16 * z) (by omega) (by omega), (dn_gen _ _ (by omega) (by omega) (by omega)).1, ref_gen _ _ (by omega) (by omega) (by omega)]
    have := ediv_abs (16 * z) (t - lt) 32000000 (by omega) (by omega) (by omega)
    omega
  obtain ⟨x1, x2, x3⟩ := rd (x - lx) (by omega) (by omega)
  obtain ⟨y1, y2, y3⟩ := rd (y - ly) (by omega) (by omega)
  obtain ⟨g1, _, _⟩ := rd (h - lh) (by omega) (by omega)
  have p1 := prod_in r (256 - pl) (by omega) (by omega) (by omega) (by omega)
  have p2 := prod_in e pl (by omega) (by omega) (by omega) (by omega)
  have r1 : upI (W (W (W (256 - pl) * r) + W (pl * e))) 256 = refUp (W (W (W (256 - pl) * r) + W (pl * e))) 256 := by
    rw [Int.mul_comm _ r, Int.mul_comm pl e, W_id (256 - pl) (by omega) (by omega), W_id (r * (256 - pl)) (by omega) (by omega), W_id (e * pl) (by omega) (by omega), W_id (_ + _) (by omega) (by omega)]
    exact upI_gen _ _ (by decide) (by omega) (by omega)
  have w1 : W (16 * W (e + le)) = 16 * (e + le) := by rw [W_id (e + le) (by omega) (by omega), W_id _ (by omega) (by omega)]
  have u1 : upI (16 * (e + le)) (t - lt) = refUp (16 * (e + le)) (t - lt) := upI_gen _ _ (by omega) (by omega) (by omega)
  have u2 : refUp (16 * (e + le)) (t - lt) = -((-(16 * (e + le))) / (t - lt)) := by
    have b := ceil_abs (16 * (e + le)) (t - lt) 32000000 (by omega) (by omega) (by omega)
    unfold refUp
    rw [W_id (0 - 16 * (e + le)) (by omega) (by omega), ref_gen _ _ (by omega) (by omega) (by omega), show (0 : Int) - 16 * (e + le) = -(16 * (e + le)) by omega, W_id _ (by omega) (by omega)]
    omega
  have u3 := ceil_abs (16 * (e + le)) (t - lt) 32000000 (by omega) (by omega) (by omega)
  have p3 : 0 ≤ 16 * a * (t - lt) ∧ 16 * a * (t - lt) ≤ 64000000 := by
    have a1 := Int.mul_le_mul_of_nonneg_right (show 16 * a ≤ 320 by omega) (show 0 ≤ t - lt by omega)
    have a2 := Int.mul_nonneg (show 0 ≤ 16 * a by omega) (show 0 ≤ t - lt by omega)
    omega
  generalize hm : W (W (refUp (16 * (e + le)) (t - lt) + W (W (16 * a) * W (t - lt))) + 2) = mm
  have m1 : -100000000 ≤ mm ∧ mm ≤ 100000000 := by
    rw [← hm, ed, u2, W_id (16 * a) (by omega) (by omega), W_id (16 * a * (t - lt)) (by omega) (by omega), W_id (_ + 16 * a * (t - lt)) (by omega) (by omega), W_id _ (by omega) (by omega)]
    omega
  have p4 := prod_in sl (256 - sp) (by omega) (by omega) (by omega) (by omega)
  have p5 := prod_in mm sp (by omega) (by omega) (by omega) (by omega)
  have r2 : upI (W (W (W (256 - sp) * sl) + W (sp * mm))) 256 = refUp (W (W (W (256 - sp) * sl) + W (sp * mm))) 256 := by
    rw [Int.mul_comm _ sl, Int.mul_comm sp mm, W_id (256 - sp) (by omega) (by omega), W_id (sl * (256 - sp)) (by omega) (by omega), W_id (mm * sp) (by omega) (by omega), W_id (_ + _) (by omega) (by omega)]
    exact upI_gen _ _ (by decide) (by omega) (by omega)
  rw [ed] at hm
  simp only [updF, ed]
  rw [x1, y1, g1, r1, w1, u1, hm, r2, ec, mix_eq px x pl (by omega) (by omega) (by omega) (by omega) (by omega) (by omega), mix_eq py y pl (by omega) (by omega) (by omega) (by omega) (by omega) (by omega),
    mix_eq u _ sp (by omega) (by omega) x2 x3 (by omega) (by omega), mix_eq v _ sp (by omega) (by omega) y2 y3 (by omega) (by omega), between_gen _ (-3200) 3200 (by decide)]
end Go.Proofs.YtpndjpjpmcehbaaFt
