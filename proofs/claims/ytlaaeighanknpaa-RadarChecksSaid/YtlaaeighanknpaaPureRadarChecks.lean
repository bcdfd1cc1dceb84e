/- What is proved: for every radar, plot, spot, place and range, the checks, errors and Covers of package radar return what the document says. No condition. -/
import Derived.Test.YtlaaeighanknpaaStRadarChecks
import Derived.Test.YtlaaeighanknpaaAid
namespace Go.Proofs.Ytlaaeighanknpaa.Pure
open Go.RowKit Go.Proofs.Ytlaaeighanknpaa.PRadarChecks Go.Proofs.YtlaaeighanknpaaW.PrintWords Go.Proofs.YtlaaeighanknpaaW.PrintLast Go.Proofs.YtlaaeighanknpaaW.PrintMore Go.Proofs.Ytlaaeighanknpaa.Aid

theorem gf_in (a b c : Int) : skywayref2_In.f a b c = some (decide (b ≤ a ∧ a ≤ c)) := by
  unfold skywayref2_In.f
  by_cases h : a ≥ b
  · rw [if_pos h]; simp; omega
  · rw [if_neg h]; simp; omega
theorem gf_down (a b : Int) (hb : 0 < b) (h0 : -1000000000000 ≤ a) (h1 : a ≤ 1000000000000) (hb' : b ≤ 1000000) : skywayref2_Down.f a b = some (a / b) := by
  have h2 := tdiv_abs a b 1000000000000 hb h0 h1
  have h3 := floor_prod a b hb
  have h5 := tdiv_tmod a b
  have h6 := tmod_range a b hb
  unfold skywayref2_Down.f
  rw [if_neg (by omega), w64 (Int.tdiv a b) (by omega) (by omega), w64 (Int.tdiv a b * b) (by omega) (by omega), w64 (Int.tdiv a b - 1) (by omega) (by omega), ← h3]
  by_cases h : a < Int.tdiv a b * b
  · rw [if_pos (by omega), if_pos h]
  · rw [if_neg (by omega), if_neg h]
theorem gf_up (a b : Int) (hb : 0 < b) (h0 : -1000000000000 ≤ a) (h1 : a ≤ 1000000000000) (hb' : b ≤ 1000000) : skywayref2_Up.f a b = some (-((-a) / b)) := by
  have h2 := ediv_abs (-a) b 1000000000000 hb (by omega) (by omega)
  unfold skywayref2_Up.f
  rw [w64 (-a) (by omega) (by omega), gf_down (-a) b hb (by omega) (by omega) hb']
  simp only [Option.bind_some]
  rw [w64 _ (by omega) (by omega)]
/-- DivUp, of numbers that are not negative. -/
theorem divup_val (k : Nat) (a b : Int) (hb : 0 < b) (h0 : 0 ≤ a) (h1 : a ≤ 1000000000000) (hb' : b ≤ 1000000) : num_DivUp.f (k + 1) a b = some (-((-a) / b), 0) := by
  have h2 := tdiv_abs a b 1000000000000 hb (by omega) h1
  have h3 := floor_spec (-a) b hb
  have h5 := tdiv_tmod a b
  have h6 := tmod_range a b hb
  have e : num_DivDown.f (k + 1) a b = some (Int.tdiv a b, 0) := by
    unfold num_DivDown.f
    rw [if_neg (by omega), if_neg (by omega)]
    simp only [num_DivDown.j0]
    rw [if_neg (by decide), if_neg (by omega), w64 (Int.tdiv a b) (by omega) (by omega)]
    by_cases h : Int.tmod a b = 0
    · rw [if_pos h]
    · rw [if_neg h, decide_eq_false (show ¬ a < 0 by omega), decide_eq_false (show ¬ b < 0 by omega), if_neg (by decide)]
  unfold num_DivUp.f
  rw [e]
  simp only [Option.bind_some, if_true]
  rw [if_neg (by omega)]
  by_cases h : Int.tmod a b = 0
  · rw [if_pos h]
    congr 2
    have := floor_unique (-a) b (-(Int.tdiv a b)) hb (by rw [Int.neg_mul]; omega) (by rw [Int.add_mul, Int.neg_mul, Int.one_mul]; omega)
    rw [this]; omega
  · rw [if_neg h, w64 (Int.tdiv a b + 1) (by omega) (by omega)]
    congr 2
    have := floor_unique (-a) b (-(Int.tdiv a b) - 1) hb (by rw [Int.sub_mul, Int.neg_mul, Int.one_mul]; omega) (by rw [show -(Int.tdiv a b) - 1 + 1 = -(Int.tdiv a b) by omega, Int.neg_mul]; omega)
    rw [this]; omega

abbrev Pl (x y : Int) : Prop := -1000000 ≤ x ∧ x ≤ 1000000 ∧ -1000000 ≤ y ∧ y ≤ 1000000
abbrev SiteOk (i x y r e a : Int) : Prop := 0 ≤ i ∧ i ≤ 255 ∧ Pl x y ∧ 1 ≤ r ∧ r ≤ 1000000 ∧ 1 ≤ e ∧ e ≤ 10000 ∧ 1 ≤ a ∧ a ≤ 100
theorem placed_val (x y : Int) : skywayref2_Placed.f x y = some (decide (Pl x y)) := by
  simp only [skywayref2_Placed.f, gf_in, Option.bind_some, decide_eq_true_eq]
  split
  · congr 1; rw [decide_eq_decide]; omega
  · rw [decide_eq_false (by omega)]
theorem rplaced_val (x y : Int) : radar_placed.f x y = some (decide (Pl x y)) := by
  simp only [radar_placed.f]
  repeat' split
  all_goals first | (congr 1; rw [decide_eq_decide]; omega) | (rw [decide_eq_false (by omega)])
theorem site_val (i x y r e a : Int) : radar_Check.f i x y r e a = some (if SiteOk i x y r e a then 0 else 4) := by
  simp only [radar_Check.f, rplaced_val, Option.bind_some, decide_eq_true_eq]
  repeat' split
  all_goals first | rfl | (exfalso; omega)
theorem siteerr_val (i x y r e a : Int) : skywayref2_SiteError.f i x y r e a = some (if SiteOk i x y r e a then 0 else 4) := by
  simp only [skywayref2_SiteError.f, gf_in, placed_val, Option.bind_some, decide_eq_true_eq]
  repeat' split
  all_goals first | rfl | (exfalso; omega)
abbrev PlotOk (a b c d e f : Int) : Prop := 0 ≤ a ∧ a ≤ 255 ∧ 0 ≤ b ∧ b ≤ 200000 ∧ 0 ≤ c ∧ c ≤ 2000000 ∧ 0 ≤ d ∧ d ≤ 4095 ∧ 0 ≤ e ∧ e ≤ 60000 ∧ -1 ≤ f ∧ f ≤ 4095
abbrev SpotOk (a b c d e f : Int) : Prop := 0 ≤ a ∧ a ≤ 200000 ∧ Pl b c ∧ 0 ≤ d ∧ d ≤ 60000 ∧ -1 ≤ e ∧ e ≤ 4095 ∧ 0 ≤ f ∧ f ≤ 1000000
theorem plot_val (a b c d e f : Int) : radar_CheckPlot.f a b c d e f = some (if PlotOk a b c d e f then 0 else 4) := by
  unfold radar_CheckPlot.f
  repeat (refine els (fun _ => by rw [if_neg (by omega)]) (fun _ => ?_))
  rw [if_pos (by omega)]
theorem ploterr_val (a b c d e f : Int) : skywayref2_PlotError.f a b c d e f = some (if PlotOk a b c d e f then 0 else 4) := by
  simp only [skywayref2_PlotError.f, gf_in, Option.bind_some, decide_eq_true_eq]
  repeat (refine els (fun _ => ?_) (fun _ => by rw [if_neg (by omega)]))
  rw [if_pos (by omega)]
theorem spot_val (a b c d e f : Int) : radar_CheckSpot.f a b c d e f = some (if SpotOk a b c d e f then 0 else 4) := by
  simp only [radar_CheckSpot.f, rplaced_val, Option.bind_some, decide_eq_true_eq]
  refine els (fun _ => by rw [if_neg (by omega)]) (fun _ => ?_)
  refine els (fun _ => by rw [if_neg (by omega)]) (fun _ => ?_)
  refine els (fun _ => ?_) (fun _ => by rw [if_neg (by omega)])
  repeat (refine els (fun _ => by rw [if_neg (by omega)]) (fun _ => ?_))
  rw [if_pos (by omega)]
theorem spoterr_val (a b c d e f : Int) : skywayref2_SpotError.f a b c d e f = some (if SpotOk a b c d e f then 0 else 4) := by
  simp only [skywayref2_SpotError.f, gf_in, placed_val, Option.bind_some, decide_eq_true_eq]
  repeat (refine els (fun _ => ?_) (fun _ => by rw [if_neg (by omega)]))
  rw [if_pos (by omega)]

def far (x y u v : Int) : Int := (x - u) * (x - u) + (y - v) * (y - v)
theorem far_eq (x y u v : Int) (h : Pl x y) (h' : Pl u v) :
    wrap64 ((wrap64 ((wrap64 (x - u)) * (wrap64 (x - u)))) + (wrap64 ((wrap64 (y - v)) * (wrap64 (y - v))))) = far x y u v := by
  have h1 := sq_bd (x - u) 2000000 (by omega) (by omega)
  have h2 := sq_bd (y - v) 2000000 (by omega) (by omega)
  rw [w64 (x - u) (by omega) (by omega), w64 (y - v) (by omega) (by omega), w64 ((x - u) * (x - u)) (by omega) (by omega), w64 ((y - v) * (y - v)) (by omega) (by omega), w64 _ (by omega) (by omega)]
  rfl
theorem covers_val (i x y r e a u v : Int) : radar_Covers.f i x y r e a u v = some (if SiteOk i x y r e a ∧ Pl u v then (decide (far x y u v ≤ r * r), 0) else (false, 4)) := by
  unfold radar_Covers.f
  rw [site_val]
  simp only [Option.bind_some]
  by_cases h : SiteOk i x y r e a
  · have hr := sq_bd r 1000000 (by omega) (by omega)
    rw [if_pos h, if_pos rfl, rplaced_val]
    simp only [Option.bind_some]
    by_cases g : Pl u v
    · rw [decide_eq_true g, if_pos rfl, if_pos ⟨h, g⟩]
      unfold radar_distance.f
      simp only [Option.bind_some]
      rw [far_eq x y u v (by omega) g, w64 (r * r) (by omega) (by omega)]
    · rw [decide_eq_false g, if_neg (by decide), if_neg (show ¬ (SiteOk i x y r e a ∧ Pl u v) from fun h => g h.2)]
  · rw [if_neg h, if_neg (by decide), if_neg (show ¬ (SiteOk i x y r e a ∧ _) from fun h' => h h'.1)]
def bound (e a n : Int) : Int := e + -((-(n * a)) / 651) + -((-n) / 23170) + 2
theorem error_val (k : Nat) (i x y r e a n : Int) : radar_Error.f (k + 2) i x y r e a n = some (if SiteOk i x y r e a ∧ 0 ≤ n ∧ n ≤ 2000000 then (bound e a n, 0) else (0, 4)) := by
  unfold radar_Error.f
  rw [site_val]
  simp only [Option.bind_some]
  by_cases h : SiteOk i x y r e a
  · rw [if_pos h, if_pos rfl]
    by_cases g : 0 ≤ n ∧ n ≤ 2000000
    · have hb := mul_bd n a 2000000 100 (by omega) (by omega) (by omega) (by omega)
      have e1 := ediv_abs (-(n * a)) 651 200000000 (by omega) (by omega) (by omega)
      have e2 := ediv_abs (-n) 23170 2000000 (by omega) (by omega) (by omega)
      rw [if_neg (by omega), decide_eq_false (by omega), if_pos ⟨h, g⟩]
      simp only [radar_Error.j0]
      rw [if_neg (by decide), w64 (n * a) (by omega) (by omega), divup_val _ _ _ (by omega) (by omega) (by omega) (by omega), divup_val _ _ _ (by omega) (by omega) (by omega) (by omega)]
      simp only [Option.bind_some]
      rw [w64 (e + -((-(n * a)) / 651)) (by omega) (by omega), w64 (e + -((-(n * a)) / 651) + -((-n) / 23170)) (by omega) (by omega), w64 _ (by omega) (by omega)]
      rfl
    · rw [if_neg (show ¬ (SiteOk i x y r e a ∧ 0 ≤ n ∧ n ≤ 2000000) from fun h' => g h'.2)]
      simp only [radar_Error.j0, if_true, decide_eq_true_eq]
      by_cases g1 : n < 0
      · rw [if_pos g1]
      · rw [if_neg g1, if_pos (by omega)]
  · rw [if_neg h, if_neg (by decide), if_neg (show ¬ (SiteOk i x y r e a ∧ _) from fun h' => h h'.1)]

section
variable (i x y r e a n : Int)
theorem last (k : Nat) (h : SiteOk i x y r e a) : skywaylaw2_RadarChecks.j2 (k + 1) n (if SiteOk i x y r e a ∧ 0 ≤ n ∧ n ≤ 2000000 then (bound e a n, (0 : Int)) else (0, 4)).1 (if SiteOk i x y r e a ∧ 0 ≤ n ∧ n ≤ 2000000 then (bound e a n, (0 : Int)) else (0, 4)).2 i x y r e a = some true := by
  simp only [skywaylaw2_RadarChecks.j2]
  rw [gf_in]
  simp only [Option.bind_some]
  by_cases g : 0 ≤ n ∧ n ≤ 2000000
  · have hb := mul_bd n a 2000000 100 (by omega) (by omega) (by omega) (by omega)
    have e1 := ediv_abs (-(n * a)) 651 200000000 (by omega) (by omega) (by omega)
    have e2 := ediv_abs (-n) 23170 2000000 (by omega) (by omega) (by omega)
    rw [decide_eq_true g, if_pos (show SiteOk i x y r e a ∧ 0 ≤ n ∧ n ≤ 2000000 from ⟨h, g⟩)]
    simp only [if_true]
    rw [w64 (n * a) (by omega) (by omega), gf_up _ _ (by omega) (by omega) (by omega) (by omega), gf_up _ _ (by omega) (by omega) (by omega) (by omega)]
    simp only [Option.bind_some]
    rw [w64 (e + -((-(n * a)) / 651)) (by omega) (by omega), w64 (e + -((-(n * a)) / 651) + -((-n) / 23170)) (by omega) (by omega), w64 _ (by omega) (by omega)]
    simp [bound]
  · rw [decide_eq_false g, if_neg (show ¬ (SiteOk i x y r e a ∧ 0 ≤ n ∧ n ≤ 2000000) from fun h' => g h'.2)]
    simp
end

theorem RadarChecks : RadarChecks.Stmt := by
  intro i x y r e a b0 b1 b2 b3 b4 b5 c0 c1 c2 c3 c4 c5 u v n
  intros
  refine ⟨20, ?_⟩
  unfold skywaylaw2_RadarChecks.f skywaylaw2_site.f
  simp only [Option.bind_some]
  rw [covers_val, if_pos (by decide)]
  simp only [Option.bind_some, if_true]
  rw [show (!decide (far 0 0 3 4 ≤ 5 * 5)) = false by decide]
  simp only [skywaylaw2_RadarChecks.j0]
  rw [if_neg (by decide), siteerr_val, site_val, plot_val, ploterr_val, spot_val, spoterr_val]
  simp only [Option.bind_some, if_true]
  rw [show ((if SpotOk c0 c1 c2 c3 c4 c5 then (0 : Int) else 4) != (if SpotOk c0 c1 c2 c3 c4 c5 then (0 : Int) else 4)) = false by simp]
  simp only [skywaylaw2_RadarChecks.j1]
  rw [if_neg (by decide), covers_val, error_val 16]
  simp only [Option.bind_some]
  by_cases h : SiteOk i x y r e a
  · have hr := sq_bd r 1000000 (by omega) (by omega)
    rw [if_pos h, placed_val]
    simp only [Option.bind_some, if_true]
    by_cases g : Pl u v
    · rw [decide_eq_true g, if_pos (show SiteOk i x y r e a ∧ Pl u v from ⟨h, g⟩)]
      simp only [if_true]
      unfold skywayref2_Far.f
      simp only [Option.bind_some]
      rw [far_eq x y u v (by omega) g, w64 (r * r) (by omega) (by omega), if_neg (by simp)]
      exact last i x y r e a n 17 h
    · rw [decide_eq_false g, if_neg (show ¬ (SiteOk i x y r e a ∧ Pl u v) from fun h' => g h'.2), if_neg (by decide)]
      simp only [if_true]
      rw [if_neg (by decide)]
      exact last i x y r e a n 17 h
  · rw [if_neg h, if_neg (by decide), if_neg (show ¬ (SiteOk i x y r e a ∧ Pl u v) from fun h' => h h'.1), if_neg (show ¬ (SiteOk i x y r e a ∧ 0 ≤ n ∧ n ≤ 2000000) from fun h' => h h'.1)]
    simp

end Go.Proofs.Ytlaaeighanknpaa.Pure
