/- What is proved: for every track, spot and number, gate.Reach and gate.Fits return what the document says. No condition. -/
import Derived.Test.YtlaaeighanknpaaStGateFits
import Derived.Test.YtlaaeighanknpaaAid
namespace Go.Proofs.Ytlaaeighanknpaa.Pure
open Go.RowKit Go.Proofs.Ytlaaeighanknpaa.PGateFits Go.Proofs.YtlaaeighanknpaaW.PrintWords Go.Proofs.YtlaaeighanknpaaW.PrintLast Go.Proofs.YtlaaeighanknpaaW.PrintMore Go.Proofs.Ytlaaeighanknpaa.Aid

theorem gf_in (a b c : Int) : skywayref2_In.f a b c = some (decide (b ≤ a ∧ a ≤ c)) := by
  unfold skywayref2_In.f
  by_cases h : a ≥ b
  · rw [if_pos h]; simp; omega
  · rw [if_neg h]; simp; omega
theorem gf_down (a b : Int) (hb : 0 < b) (h0 : -1000000000000 ≤ a) (h1 : a ≤ 1000000000000) (hb' : b ≤ 1000000) : skywayref2_Down.f a b = some (a / b) := by
  have h2 := tdiv_abs a b 1000000000000 hb h0 h1
  have h3 := floor_prod a b hb
  have h5 := tdiv_tmod a b
  have h6 := tmod_range a b hb
  unfold skywayref2_Down.f
  rw [if_neg (by omega), w64 (Int.tdiv a b) (by omega) (by omega), w64 (Int.tdiv a b * b) (by omega) (by omega), w64 (Int.tdiv a b - 1) (by omega) (by omega), ← h3]
  by_cases h : a < Int.tdiv a b * b
  · rw [if_pos (by omega), if_pos h]
  · rw [if_neg (by omega), if_neg h]
theorem gf_up (a b : Int) (hb : 0 < b) (h0 : -1000000000000 ≤ a) (h1 : a ≤ 1000000000000) (hb' : b ≤ 1000000) : skywayref2_Up.f a b = some (-((-a) / b)) := by
  have h2 := ediv_abs (-a) b 1000000000000 hb (by omega) (by omega)
  unfold skywayref2_Up.f
  rw [w64 (-a) (by omega) (by omega), gf_down (-a) b hb (by omega) (by omega) hb']
  simp only [Option.bind_some]
  rw [w64 _ (by omega) (by omega)]

/-! ### Reach -/
abbrev Slack (x a : Int) : Prop := 0 ≤ x ∧ x ≤ 409600 ∧ 0 ≤ a ∧ a ≤ 20
def grown (x a s : Int) : Int := if s = 0 then 0 else (x * s + 15) / 16 + (a * s * s + 1) / 2 + 2
theorem reach_val (k : Nat) (x a s : Int) : gate_Reach.f (k + 2) x a s = some (if Slack x a then (if 0 ≤ s ∧ s ≤ 600 then (grown x a s, 0) else (0, 12)) else (0, 4)) := by
  have h0 : ∀ b, gate_Reach.j1 (k + 1) x a s b = if b = true then some (0, 12) else if s = 0 then some (0, 0) else (some (wrap64 ((wrap64 ((wrap64 (Int.tdiv (wrap64 ((wrap64 ((wrap64 (x * s)) + 16)) - 1)) 16)) + (wrap64 (Int.tdiv (wrap64 ((wrap64 ((wrap64 (a * s)) * s)) + 1)) 2)))) + 2), 0)) := fun b => rfl
  by_cases hs : Slack x a
  · rw [if_pos hs]
    have hs' := hs
    unfold Slack at hs'
    have e0 : gate_Reach.f (k + 2) x a s = if s < 0 then gate_Reach.j1 (k + 1) x a s true else gate_Reach.j1 (k + 1) x a s (decide (s > 600)) := by
      unfold gate_Reach.f
      rw [if_neg (by omega), if_neg (by omega), if_neg (by omega), decide_eq_false (by omega)]
      rfl
    rw [e0, h0, h0]
    by_cases h1 : s < 0
    · rw [if_pos h1, if_neg (show ¬ (0 ≤ s ∧ s ≤ 600) by omega), if_pos rfl]
    · rw [if_neg h1]
      by_cases h2 : s > 600
      · rw [decide_eq_true h2, if_neg (show ¬ (0 ≤ s ∧ s ≤ 600) by omega), if_pos rfl]
      · rw [decide_eq_false h2, if_pos (show 0 ≤ s ∧ s ≤ 600 by omega), if_neg (show ¬ false = true by decide)]
        unfold grown
        by_cases h3 : s = 0
        · rw [if_pos h3, if_pos h3]
        · have b1 := mul_bd x s 409600 600 (by omega) (by omega) (by omega) (by omega)
          have b2 := mul_bd a s 20 600 (by omega) (by omega) (by omega) (by omega)
          have b3 := mul_bd (a * s) s 12000 600 (by omega) (by omega) (by omega) (by omega)
          rw [if_neg h3, if_neg h3, w64 (x * s) (by omega) (by omega), w64 (x * s + 16) (by omega) (by omega), w64 (x * s + 16 - 1) (by omega) (by omega), w64 (a * s) (by omega) (by omega), w64 (a * s * s) (by omega) (by omega),
            w64 (a * s * s + 1) (by omega) (by omega), tdiv_nonneg _ _ (by omega), tdiv_nonneg _ _ (by omega), show x * s + 16 - 1 = x * s + 15 by omega,
            w64 ((x * s + 15) / 16) (by omega) (by omega), w64 ((a * s * s + 1) / 2) (by omega) (by omega), w64 ((x * s + 15) / 16 + (a * s * s + 1) / 2) (by omega) (by omega), w64 _ (by omega) (by omega)]
  · rw [if_neg hs]
    have hs' := hs
    unfold Slack at hs'
    simp only [gate_Reach.f, gate_Reach.j0, if_true, decide_eq_true_eq]
    repeat' split
    all_goals first | rfl | (exfalso; omega)
theorem grown_val (x a s : Int) (hs : Slack x a) (h0 : 0 ≤ s) (h1 : s ≤ 600) : skywayref2_Grown.f x a s = some (grown x a s) := by
  unfold Slack at hs
  have b1 := mul_bd x s 409600 600 (by omega) (by omega) (by omega) (by omega)
  have b2 := mul_bd a s 20 600 (by omega) (by omega) (by omega) (by omega)
  have b3 := mul_bd (a * s) s 12000 600 (by omega) (by omega) (by omega) (by omega)
  unfold skywayref2_Grown.f grown
  by_cases h3 : s = 0
  · rw [if_pos h3, if_pos h3]
  · rw [if_neg h3, if_neg h3, w64 (x * s) (by omega) (by omega), w64 (a * s) (by omega) (by omega), w64 (a * s * s) (by omega) (by omega), gf_up _ _ (by omega) (by omega) (by omega) (by omega), gf_up _ _ (by omega) (by omega) (by omega) (by omega)]
    simp only [Option.bind_some]
    rw [w64 (-(-(x * s) / 16) + -(-(a * s * s) / 2)) (by omega) (by omega), w64 _ (by omega) (by omega)]
    congr 1
    omega

/-! ### Fits -/
abbrev TrackOk (t1 x y h r c : Int) : Prop := 0 ≤ t1 ∧ t1 ≤ 200000 ∧ -1000000 ≤ x ∧ x ≤ 1000000 ∧ -1000000 ≤ y ∧ y ≤ 1000000 ∧ 0 ≤ h ∧ h ≤ 60000 ∧ 0 ≤ r ∧ r ≤ 4000000 ∧ -1 ≤ c ∧ c ≤ 4095
abbrev SpotOk (t x y h c e : Int) : Prop := 0 ≤ t ∧ t ≤ 200000 ∧ -1000000 ≤ x ∧ x ≤ 1000000 ∧ -1000000 ≤ y ∧ y ≤ 1000000 ∧ 0 ≤ h ∧ h ≤ 60000 ∧ -1 ≤ c ∧ c ≤ 4095 ∧ 0 ≤ e ∧ e ≤ 1000000
theorem placed_val (x y : Int) : skywayref2_Placed.f x y = some (decide (-1000000 ≤ x ∧ x ≤ 1000000 ∧ -1000000 ≤ y ∧ y ≤ 1000000)) := by
  simp only [skywayref2_Placed.f, gf_in, Option.bind_some, decide_eq_true_eq]
  split
  · congr 1; rw [decide_eq_decide]; omega
  · rw [decide_eq_false (by omega)]
theorem rplaced_val (x y : Int) : radar_placed.f x y = some (decide (-1000000 ≤ x ∧ x ≤ 1000000 ∧ -1000000 ≤ y ∧ y ≤ 1000000)) := by
  simp only [radar_placed.f]
  repeat' split
  all_goals first | (congr 1; rw [decide_eq_decide]; omega) | (rw [decide_eq_false (by omega)])
section
variable (k : Nat) (a0 a1 a2 a3 a4 a5 a6 a7 a8 a9 a10 a11 a12 b0 b1 b2 b3 b4 b5 band : Int)
theorem check_val : gate_check.f a0 a1 a2 a3 a4 a5 a6 a7 a8 a9 a10 a11 a12 = some (if TrackOk a2 a3 a4 a7 a9 a10 then 0 else 4) := by
  unfold gate_check.f
  repeat (refine els (fun _ => by rw [if_neg (by omega)]) (fun _ => ?_))
  rw [if_pos (by omega)]
theorem part_val : skywayref2_TrackPart.f a0 a1 a2 a3 a4 a5 a6 a7 a8 a9 a10 a11 a12 = some (if TrackOk a2 a3 a4 a7 a9 a10 then 0 else 4) := by
  simp only [skywayref2_TrackPart.f, gf_in, placed_val, Option.bind_some, decide_eq_true_eq]
  repeat (refine els (fun _ => ?_) (fun _ => by rw [if_neg (by omega)]))
  rw [if_pos (by omega)]
theorem spot_val : radar_CheckSpot.f b0 b1 b2 b3 b4 b5 = some (if SpotOk b0 b1 b2 b3 b4 b5 then 0 else 4) := by
  simp only [radar_CheckSpot.f, rplaced_val, Option.bind_some, decide_eq_true_eq]
  refine els (fun _ => by rw [if_neg (by omega)]) (fun _ => ?_)
  refine els (fun _ => by rw [if_neg (by omega)]) (fun _ => ?_)
  refine els (fun _ => ?_) (fun _ => by rw [if_neg (by omega)])
  repeat (refine els (fun _ => by rw [if_neg (by omega)]) (fun _ => ?_))
  rw [if_pos (by omega)]
theorem spoterr_val : skywayref2_SpotError.f b0 b1 b2 b3 b4 b5 = some (if SpotOk b0 b1 b2 b3 b4 b5 then 0 else 4) := by
  simp only [skywayref2_SpotError.f, gf_in, placed_val, Option.bind_some, decide_eq_true_eq]
  repeat (refine els (fun _ => ?_) (fun _ => by rw [if_neg (by omega)]))
  rw [if_pos (by omega)]
def far (x y u v : Int) : Int := (x - u) * (x - u) + (y - v) * (y - v)
theorem far_eq (x y u v : Int) (h : -1000000 ≤ x ∧ x ≤ 1000000 ∧ -1000000 ≤ y ∧ y ≤ 1000000) (h' : -1000000 ≤ u ∧ u ≤ 1000000 ∧ -1000000 ≤ v ∧ v ≤ 1000000) :
    wrap64 ((wrap64 ((wrap64 (x - u)) * (wrap64 (x - u)))) + (wrap64 ((wrap64 (y - v)) * (wrap64 (y - v))))) = far x y u v := by
  have h1 := sq_bd (x - u) 2000000 (by omega) (by omega)
  have h2 := sq_bd (y - v) 2000000 (by omega) (by omega)
  rw [w64 (x - u) (by omega) (by omega), w64 (y - v) (by omega) (by omega), w64 ((x - u) * (x - u)) (by omega) (by omega), w64 ((y - v) * (y - v)) (by omega) (by omega), w64 _ (by omega) (by omega)]
  rfl
/-- The errors of Fits come ahead of its answer. -/
theorem fits_err (h : ¬ (TrackOk a2 a3 a4 a7 a9 a10 ∧ SpotOk b0 b1 b2 b3 b4 b5 ∧ 0 ≤ band ∧ band ≤ 60000)) :
    gate_Fits.f (k + 1) a0 a1 a2 a3 a4 a5 a6 a7 a8 a9 a10 a11 a12 b0 b1 b2 b3 b4 b5 band = some (false, 4) := by
  unfold gate_Fits.f
  rw [check_val]
  simp only [Option.bind_some]
  by_cases h1 : TrackOk a2 a3 a4 a7 a9 a10
  · rw [if_pos h1, if_pos rfl, spot_val]
    simp only [Option.bind_some]
    by_cases h2 : SpotOk b0 b1 b2 b3 b4 b5
    · rw [if_pos h2, if_pos rfl]
      simp only [gate_Fits.j0, if_true, decide_eq_true_eq]
      have h3 : ¬ (0 ≤ band ∧ band ≤ 60000) := fun h4 => h ⟨h1, h2, h4⟩
      by_cases h4 : band < 0
      · rw [if_pos h4]
      · rw [if_neg h4, if_pos (by omega)]
    · rw [if_neg h2, if_neg (by decide)]
  · rw [if_neg h1, if_neg (by decide)]
abbrev fit : Prop := far a3 a4 b1 b2 ≤ (a9 + b5) * (a9 + b5) ∧ (a10 < 0 ∨ b4 < 0 ∨ a10 = b4) ∧ a7 - b3 ≤ band ∧ b3 - a7 ≤ band
theorem fits_val (h1 : TrackOk a2 a3 a4 a7 a9 a10) (h2 : SpotOk b0 b1 b2 b3 b4 b5) (h3 : 0 ≤ band ∧ band ≤ 60000) :
    gate_Fits.f (k + 1) a0 a1 a2 a3 a4 a5 a6 a7 a8 a9 a10 a11 a12 b0 b1 b2 b3 b4 b5 band = some (if a2 = b0 then (decide (fit a3 a4 a7 a9 a10 b1 b2 b3 b4 b5 band), 0) else (false, 12)) := by
  unfold gate_Fits.f
  rw [check_val]
  simp only [Option.bind_some]
  rw [if_pos h1, if_pos rfl, spot_val]
  simp only [Option.bind_some]
  rw [if_pos h2, if_pos rfl, if_neg (by omega), decide_eq_false (by omega)]
  simp only [gate_Fits.j0]
  rw [if_neg (by decide)]
  by_cases h4 : a2 = b0
  · rw [if_pos h4, if_pos h4]
    unfold TrackOk at h1; unfold SpotOk at h2
    have hr := sq_bd (a9 + b5) 5000000 (by omega) (by omega)
    unfold gate_square.f gate_near.f
    simp only [Option.bind_some]
    rw [far_eq a3 a4 b1 b2 (by omega) (by omega), w64 (a9 + b5) (by omega) (by omega), w64 ((a9 + b5) * (a9 + b5)) (by omega) (by omega), w64 (a7 - b3) (by omega) (by omega), w64 (b3 - a7) (by omega) (by omega)]
    unfold fit
    by_cases c1 : far a3 a4 b1 b2 ≤ (a9 + b5) * (a9 + b5)
    · rw [if_pos c1]
      have key : ∀ b : Bool, (b = true ↔ (a10 < 0 ∨ b4 < 0 ∨ a10 = b4)) → (if b = true then (if a7 - b3 ≤ band then some (decide (b3 - a7 ≤ band), (0 : Int)) else some (false, 0)) else some (false, 0)) =
          some (decide (far a3 a4 b1 b2 ≤ (a9 + b5) * (a9 + b5) ∧ (a10 < 0 ∨ b4 < 0 ∨ a10 = b4) ∧ a7 - b3 ≤ band ∧ b3 - a7 ≤ band), 0) := by
        intro b hb
        by_cases c2 : b = true
        · rw [if_pos c2]
          have c3 := hb.1 c2
          by_cases c4 : a7 - b3 ≤ band
          · rw [if_pos c4]; congr 2; rw [decide_eq_decide]; exact ⟨fun h => ⟨c1, c3, c4, h⟩, fun h => h.2.2.2⟩
          · rw [if_neg c4, decide_eq_false (fun h => c4 h.2.2.1)]
        · rw [if_neg c2, decide_eq_false (fun h => c2 (hb.2 h.2.1))]
      by_cases c5 : a10 < 0
      · rw [if_pos c5]; exact key true ⟨fun _ => .inl c5, fun _ => rfl⟩
      · rw [if_neg c5]
        by_cases c6 : b4 < 0
        · rw [if_pos c6]; exact key true ⟨fun _ => .inr (.inl c6), fun _ => rfl⟩
        · rw [if_neg c6]; exact key (a10 == b4) ⟨fun h => .inr (.inr (by simpa using h)), fun h => by simp; omega⟩
    · rw [if_neg c1, decide_eq_false (fun h => c1 h.1)]
  · rw [if_neg h4, if_neg h4]

/-- The law's second half. -/
theorem half (hk : 10 ≤ k) : skywaylaw2_GateFits.j2 k band a0 a1 a2 a3 a4 a5 a6 a7 a8 a9 a10 a11 a12 b0 b1 b2 b3 b4 b5 = some true := by
  obtain ⟨k, rfl⟩ : ∃ m, k = m + 10 := ⟨k - 10, by omega⟩
  simp only [skywaylaw2_GateFits.j2]
  rw [part_val, spoterr_val]
  simp only [Option.bind_some]
  by_cases h1 : TrackOk a2 a3 a4 a7 a9 a10
  · rw [if_pos h1]
    simp only [if_true]
    by_cases h2 : SpotOk b0 b1 b2 b3 b4 b5
    · rw [if_pos h2]
      simp only [skywaylaw2_GateFits.j3, if_true, gf_in, Option.bind_some]
      by_cases h3 : 0 ≤ band ∧ band ≤ 60000
      · rw [fits_val (k + 8) a0 a1 a2 a3 a4 a5 a6 a7 a8 a9 a10 a11 a12 b0 b1 b2 b3 b4 b5 band h1 h2 h3]
        simp only [skywaylaw2_GateFits.j4, Option.bind_some]
        rw [decide_eq_true h3, if_neg (by decide)]
        simp only [skywaylaw2_GateFits.j5, if_true, skywaylaw2_GateFits.j6]
        by_cases h4 : a2 = b0
        · rw [if_pos h4, if_neg (by simp [h4])]
          simp only [skywaylaw2_GateFits.j7, if_true]
          unfold TrackOk at h1; unfold SpotOk at h2
          have hr := sq_bd (a9 + b5) 5000000 (by omega) (by omega)
          unfold skywayref2_Far.f skywayref2_Apart.f
          simp only [Option.bind_some]
          rw [far_eq a3 a4 b1 b2 (by omega) (by omega), w64 (a9 + b5) (by omega) (by omega), w64 ((a9 + b5) * (a9 + b5)) (by omega) (by omega), w64 (a7 - b3) (by omega) (by omega), w64 (b3 - a7) (by omega) (by omega)]
          by_cases c1 : far a3 a4 b1 b2 ≤ (a9 + b5) * (a9 + b5)
          · rw [if_pos c1]
            have key : ∀ d : Int, (d ≤ band ↔ a7 - b3 ≤ band ∧ b3 - a7 ≤ band) → (if d ≤ band then (if a10 = b4 then some (decide (fit a3 a4 a7 a9 a10 b1 b2 b3 b4 b5 band) == true) else if a10 = -1 then some (decide (fit a3 a4 a7 a9 a10 b1 b2 b3 b4 b5 band) == true)
                else some (decide (fit a3 a4 a7 a9 a10 b1 b2 b3 b4 b5 band) == (b4 == -1))) else some (decide (fit a3 a4 a7 a9 a10 b1 b2 b3 b4 b5 band) == false)) = some true := by
              intro d hd
              by_cases c2 : d ≤ band
              · rw [if_pos c2]
                have c3 := hd.1 c2
                by_cases c4 : a10 = b4
                · rw [if_pos c4, decide_eq_true (show fit a3 a4 a7 a9 a10 b1 b2 b3 b4 b5 band from ⟨c1, .inr (.inr c4), c3⟩)]; rfl
                · rw [if_neg c4]
                  by_cases c5 : a10 = -1
                  · rw [if_pos c5, decide_eq_true (show fit a3 a4 a7 a9 a10 b1 b2 b3 b4 b5 band from ⟨c1, .inl (by omega), c3⟩)]; rfl
                  · rw [if_neg c5]
                    by_cases c6 : b4 = -1
                    · rw [decide_eq_true (show fit a3 a4 a7 a9 a10 b1 b2 b3 b4 b5 band from ⟨c1, .inr (.inl (by omega)), c3⟩), c6]; rfl
                    · rw [decide_eq_false (show ¬ fit a3 a4 a7 a9 a10 b1 b2 b3 b4 b5 band from fun h => by have := h.2.1; omega), beq_eq_false_iff_ne.2 c6]; rfl
              · rw [if_neg c2, decide_eq_false (show ¬ fit a3 a4 a7 a9 a10 b1 b2 b3 b4 b5 band from fun h => c2 (hd.2 h.2.2))]; rfl
            by_cases c7 : a7 < b3
            · rw [if_pos c7]; exact key _ (by omega)
            · rw [if_neg c7]; exact key _ (by omega)
          · rw [if_neg c1, decide_eq_false (show ¬ fit a3 a4 a7 a9 a10 b1 b2 b3 b4 b5 band from fun h => c1 h.1)]; rfl
        · rw [if_neg h4, if_pos (by simp [h4])]
          simp only [skywaylaw2_GateFits.j7]
          rw [if_neg (by decide), if_pos trivial]; rfl
      · rw [fits_err (k + 8) a0 a1 a2 a3 a4 a5 a6 a7 a8 a9 a10 a11 a12 b0 b1 b2 b3 b4 b5 band (fun h => h3 h.2.2)]
        simp only [skywaylaw2_GateFits.j4, Option.bind_some]
        rw [decide_eq_false h3, if_pos (by decide)]
        simp only [skywaylaw2_GateFits.j5, skywaylaw2_GateFits.j6, skywaylaw2_GateFits.j7]
        rw [if_neg (by decide), if_neg (by decide), if_neg (by decide), if_pos trivial]; rfl
    · rw [if_neg h2]
      rw [fits_err (k + 8) a0 a1 a2 a3 a4 a5 a6 a7 a8 a9 a10 a11 a12 b0 b1 b2 b3 b4 b5 band (fun h => h2 h.2.1)]
      simp only [skywaylaw2_GateFits.j3, skywaylaw2_GateFits.j4, skywaylaw2_GateFits.j5, skywaylaw2_GateFits.j6, skywaylaw2_GateFits.j7, Option.bind_some]
      rw [if_neg (by decide), if_neg (by decide), if_neg (by decide), if_neg (by decide), if_neg (by decide), if_pos trivial]; rfl
  · rw [if_neg h1, fits_err (k + 8) a0 a1 a2 a3 a4 a5 a6 a7 a8 a9 a10 a11 a12 b0 b1 b2 b3 b4 b5 band (fun h => h1 h.1)]
    simp only [Option.bind_some]
    rw [if_neg (show ¬ (4 : Int) = 0 by decide)]
    simp only [skywaylaw2_GateFits.j3, skywaylaw2_GateFits.j4, skywaylaw2_GateFits.j5, skywaylaw2_GateFits.j6, skywaylaw2_GateFits.j7]
    rw [if_neg (by decide), if_neg (by decide), if_neg (by decide), if_neg (by decide), if_neg (by decide), if_pos trivial]; rfl
end

theorem GateFits : GateFits.Stmt := by
  intro a0 a1 a2 a3 a4 a5 a6 a7 a8 a9 a10 a11 a12 b0 b1 b2 b3 b4 b5 band slack accel secs
  intros
  refine ⟨20, ?_⟩
  unfold skywaylaw2_GateFits.f
  rw [reach_val 18, if_pos (by decide), if_pos (by decide)]
  simp only [Option.bind_some, if_true]
  rw [show (grown 16 2 10 != 112) = false by decide]
  simp only [skywaylaw2_GateFits.j0]
  rw [if_neg (by decide), reach_val 17, gf_in, gf_in]
  simp only [Option.bind_some]
  have done : ∀ k, 10 ≤ k → skywaylaw2_GateFits.j2 k band a0 a1 a2 a3 a4 a5 a6 a7 a8 a9 a10 a11 a12 b0 b1 b2 b3 b4 b5 = some true := fun k hk => half k a0 a1 a2 a3 a4 a5 a6 a7 a8 a9 a10 a11 a12 b0 b1 b2 b3 b4 b5 band hk
  by_cases h : Slack slack accel
  · rw [if_pos h]
    have h' := h
    unfold Slack at h'
    rw [decide_eq_true (show 0 ≤ slack ∧ slack ≤ 409600 by omega), if_pos rfl, decide_eq_true (show 0 ≤ accel ∧ accel ≤ 20 by omega)]
    simp only [skywaylaw2_GateFits.j1]
    rw [if_neg (by decide), gf_in]
    simp only [Option.bind_some]
    by_cases h1 : 0 ≤ secs ∧ secs ≤ 600
    · rw [if_pos h1, decide_eq_true h1, if_pos rfl, if_pos rfl, grown_val slack accel secs h h1.1 h1.2]
      simp only [Option.bind_some, if_true]
      exact done 18 (by omega)
    · rw [if_neg h1, decide_eq_false h1, if_neg (by decide)]
      simp only [if_true]
      exact done 18 (by omega)
  · rw [if_neg h]
    unfold Slack at h
    by_cases h1 : 0 ≤ slack ∧ slack ≤ 409600
    · rw [decide_eq_true h1, if_pos rfl, decide_eq_false (show ¬ (0 ≤ accel ∧ accel ≤ 20) by omega)]
      simp only [skywaylaw2_GateFits.j1, Bool.not_false, if_true]
      exact done 18 (by omega)
    · rw [decide_eq_false h1, if_neg (by decide)]
      simp only [skywaylaw2_GateFits.j1, if_true]
      exact done 18 (by omega)

end Go.Proofs.Ytlaaeighanknpaa.Pure
