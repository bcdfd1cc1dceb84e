/- What is proved: for every view and every point, screen.Check and screen.Cell return what the reference returns. No condition. -/
import Derived.Test.YtlaaeighanknpaaStScreenCells
import Derived.Test.YtlaaeighanknpaaAid
namespace Go.Proofs.Ytlaaeighanknpaa.Pure
open Go.RowKit Go.Proofs.Ytlaaeighanknpaa.PScreenCells Go.Proofs.YtlaaeighanknpaaW.PrintWords Go.Proofs.YtlaaeighanknpaaW.PrintLast Go.Proofs.YtlaaeighanknpaaW.PrintMore Go.Proofs.Ytlaaeighanknpaa.Aid

theorem sc_in (a b c : Int) : skywayref4_In.f a b c = some (decide (b ≤ a ∧ a ≤ c)) := by
  unfold skywayref4_In.f
  by_cases h : a ≥ b
  · rw [if_pos h]; simp; omega
  · rw [if_neg h]; simp; omega
abbrev View (a b s w h : Int) : Prop := -1000000 ≤ a ∧ a ≤ 1000000 ∧ -1000000 ≤ b ∧ b ≤ 1000000 ∧ 1 ≤ s ∧ s ≤ 50000 ∧ 1 ≤ w ∧ w ≤ 60 ∧ 1 ≤ h ∧ h ≤ 60
abbrev Here (x y : Int) : Prop := -1000000 ≤ x ∧ x ≤ 1000000 ∧ -1000000 ≤ y ∧ y ≤ 1000000

theorem check_val (k : Nat) (a b s w h : Int) : screen_Check.f (k + 1) a b s w h = some (if View a b s w h then 0 else 4) := by
  simp only [screen_Check.f, screen_Check.j0, if_true, decide_eq_true_eq, View]
  repeat' split
  all_goals first | rfl | (exfalso; omega)
theorem point_val (x y : Int) : screen_point.f x y = some (decide (Here x y)) := by
  simp only [screen_point.f, Here]
  repeat' split
  all_goals first | (congr 1; rw [decide_eq_decide]; omega) | (rw [decide_eq_false (by omega)])
theorem placed_val (x y : Int) : skywayref4_Placed.f x y = some (decide (Here x y)) := by
  simp only [skywayref4_Placed.f, sc_in, Option.bind_some, decide_eq_true_eq, Here]
  split
  · congr 1; rw [decide_eq_decide]; omega
  · rw [decide_eq_false (by omega)]
theorem error_val (a b s w h : Int) : skywayref4_ViewError.f a b s w h = some (if View a b s w h then 0 else 4) := by
  simp only [skywayref4_ViewError.f, placed_val, sc_in, Option.bind_some, decide_eq_true_eq, View, Here]
  repeat' split
  all_goals first | rfl | (exfalso; omega)

/-- Division rounded down, by the remainder. -/
theorem down_val (a b : Int) (hb : 0 < b) (h0 : -4000000 ≤ a) (h1 : a ≤ 4000000) : screen_down.f a b = some (a / b) := by
  have h2 := tdiv_abs a b 4000000 hb h0 h1
  have h3 := floor_rem a b hb
  unfold screen_down.f
  rw [if_neg (by omega), w64 (Int.tdiv a b) (by omega) (by omega), w64 (Int.tdiv a b - 1) (by omega) (by omega), ← h3]
  split <;> rfl
/-- The same, by trying. -/
theorem floor_val (k : Nat) (a b : Int) (hb : 0 < b) (hb' : b ≤ 50000) (h0 : -4000000 ≤ a) (h1 : a ≤ 4000000) : skywayref4_Floor.f (k + 2) a b = some (a / b) := by
  have h2 := tdiv_abs a b 4000000 hb h0 h1
  have h4 := floor_spec a b hb
  have h5 := tdiv_tmod a b
  have h6 := tmod_range a b hb
  have h3 := floor_prod a b hb
  have h7 : (Int.tdiv a b - 1) * b = Int.tdiv a b * b - b := by rw [Int.sub_mul, Int.one_mul]
  unfold skywayref4_Floor.f
  rw [if_neg (by omega), w64 (Int.tdiv a b) (by omega) (by omega)]
  simp only [skywayref4_Floor.l0]
  rw [w64 (Int.tdiv a b * b) (by omega) (by omega), w64 (Int.tdiv a b - 1) (by omega) (by omega), w64 ((Int.tdiv a b - 1) * b) (by omega) (by omega)]
  by_cases h : a < Int.tdiv a b * b
  · rw [if_pos h] at h3
    rw [if_pos h, if_neg (by omega), h3]
  · rw [if_neg h] at h3
    rw [if_neg (by omega), h3]

/-- The cell of a point. -/
def cellX (a s w x : Int) : Int := (x - a) / s + w / 2
theorem cell_val (a b s w h x y : Int) (hv : View a b s w h) (hp : Here x y) : screen_cell.f a b s w h x y = some (cellX a s w x, cellX b s h y) := by
  unfold View at hv; unfold Here at hp
  have e1 := ediv_abs (x - a) s 2000000 (by omega) (by omega) (by omega)
  have e2 := ediv_abs (y - b) s 2000000 (by omega) (by omega) (by omega)
  unfold screen_cell.f cellX
  rw [w64 (x - a) (by omega) (by omega), w64 (y - b) (by omega) (by omega), down_val _ _ (by omega) (by omega) (by omega), down_val _ _ (by omega) (by omega) (by omega)]
  simp only [Option.bind_some]
  rw [tdiv_nonneg w 2 (by omega), tdiv_nonneg h 2 (by omega), w64 (w / 2) (by omega) (by omega), w64 (h / 2) (by omega) (by omega), w64 _ (by omega) (by omega), w64 _ (by omega) (by omega)]
theorem ref_val (k : Nat) (a b s w h x y : Int) (hv : View a b s w h) (hp : Here x y) : skywayref4_ViewCell.f (k + 2) a b s w h x y = some (cellX a s w x, cellX b s h y) := by
  unfold View at hv; unfold Here at hp
  have e1 := ediv_abs (x - a) s 2000000 (by omega) (by omega) (by omega)
  have e2 := ediv_abs (y - b) s 2000000 (by omega) (by omega) (by omega)
  unfold skywayref4_ViewCell.f cellX
  rw [w64 (x - a) (by omega) (by omega), w64 (y - b) (by omega) (by omega), floor_val _ _ _ (by omega) (by omega) (by omega) (by omega), floor_val _ _ _ (by omega) (by omega) (by omega) (by omega)]
  simp only [Option.bind_some]
  rw [tdiv_nonneg w 2 (by omega), tdiv_nonneg h 2 (by omega), w64 (w / 2) (by omega) (by omega), w64 (h / 2) (by omega) (by omega), w64 _ (by omega) (by omega), w64 _ (by omega) (by omega)]
theorem visible_val (a b s w h x y : Int) : screen_visible.f a b s w h x y = some (decide (0 ≤ x ∧ x < w ∧ 0 ≤ y ∧ y < h)) := by
  simp only [screen_visible.f]
  repeat' split
  all_goals first | (congr 1; rw [decide_eq_decide]; omega) | (rw [decide_eq_false (by omega)])
theorem Cell_val (k : Nat) (a b s w h x y : Int) : screen_Cell.f (k + 1) a b s w h x y =
    some (if View a b s w h ∧ Here x y then (cellX a s w x, cellX b s h y, decide (0 ≤ cellX a s w x ∧ cellX a s w x < w ∧ 0 ≤ cellX b s h y ∧ cellX b s h y < h), 0) else (0, 0, false, 4)) := by
  unfold screen_Cell.f
  rw [check_val]
  simp only [Option.bind_some]
  by_cases hv : View a b s w h
  · rw [if_pos hv, if_pos rfl, point_val]
    simp only [Option.bind_some]
    by_cases hp : Here x y
    · rw [decide_eq_true hp, if_pos rfl, cell_val a b s w h x y hv hp]
      simp only [Option.bind_some]
      rw [visible_val, if_pos ⟨hv, hp⟩]
      rfl
    · rw [decide_eq_false hp, if_neg (by decide), if_neg (fun h => hp h.2)]
  · rw [if_neg hv, if_neg (by decide), if_neg (fun h => hv h.1)]

theorem ScreenCells : ScreenCells.Stmt := by
  intro a b s w h x y _ _ _ _ _ _ _
  refine ⟨10, ?_⟩
  unfold skywaylaw4_ScreenCells.f
  rw [Cell_val 9, if_pos (by decide)]
  simp only [Option.bind_some]
  rw [show cellX 0 10 5 (-1) = 1 by decide, show cellX 0 10 3 0 = 1 by decide]
  simp only [if_true]
  rw [if_pos (by decide), show (!((1 : Int) == 1) || !((1 : Int) == 1)) = false from rfl]
  simp only [skywaylaw4_ScreenCells.j0]
  rw [if_neg (by decide), Cell_val 8, error_val, check_val 8]
  simp only [Option.bind_some, if_true]
  by_cases hv : View a b s w h
  · rw [if_pos hv, if_pos rfl, placed_val]
    simp only [Option.bind_some]
    by_cases hp : Here x y
    · rw [if_pos ⟨hv, hp⟩, decide_eq_true hp]
      simp only [skywaylaw4_ScreenCells.j1, skywaylaw4_ScreenCells.j2]
      rw [if_neg (by decide)]
      simp only [if_true]
      rw [ref_val 5 a b s w h x y hv hp]
      simp only [Option.bind_some]
      unfold View at hv
      rw [if_pos (by simp), sc_in, w64 (w - 1) (by omega) (by omega), w64 (h - 1) (by omega) (by omega), sc_in]
      simp only [Option.bind_some]
      by_cases h1 : 0 ≤ cellX a s w x ∧ cellX a s w x ≤ w - 1
      · rw [decide_eq_true h1, if_pos rfl]
        simp only [Option.some.injEq, beq_iff_eq, decide_eq_decide]
        omega
      · rw [decide_eq_false h1, if_neg (by decide), decide_eq_false (by omega)]
        rfl
    · rw [if_neg (fun h => hp h.2), decide_eq_false hp]
      simp only [skywaylaw4_ScreenCells.j1, skywaylaw4_ScreenCells.j2]
      rw [if_pos (by decide), if_neg (by decide), if_pos trivial, if_neg (by decide)]
      rfl
  · rw [if_neg hv, if_neg (by decide), if_neg (fun h => hv h.1)]
    simp only [skywaylaw4_ScreenCells.j1, skywaylaw4_ScreenCells.j2]
    rw [if_neg (by decide), if_neg (by decide), if_pos trivial, if_neg (by decide)]
    rfl

end Go.Proofs.Ytlaaeighanknpaa.Pure
