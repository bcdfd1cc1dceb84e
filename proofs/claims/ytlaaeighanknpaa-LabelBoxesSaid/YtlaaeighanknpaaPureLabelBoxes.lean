/- What is proved: for every label and every position, label.Check and label.Box return what the reference returns. No condition. -/
import Derived.Test.YtlaaeighanknpaaStLabelBoxes
import Derived.Test.YtlaaeighanknpaaAid
namespace Go.Proofs.Ytlaaeighanknpaa.Pure
open Go.RowKit Go.Proofs.Ytlaaeighanknpaa.MLabelBoxes Go.Proofs.YtlaaeighanknpaaW.PrintWords Go.Proofs.YtlaaeighanknpaaW.PrintLast Go.Proofs.YtlaaeighanknpaaW.PrintMore Go.Proofs.Ytlaaeighanknpaa.Aid

theorem lb_in (a b c : Int) : skywayref4_In.f a b c = some (decide (b ≤ a ∧ a ≤ c)) := by
  unfold skywayref4_In.f
  by_cases h : a ≥ b
  · rw [if_pos h]; simp; omega
  · rw [if_neg h]; simp; omega
abbrev Item (a b c d : Int) : Prop := -1000 ≤ a ∧ a ≤ 1000 ∧ -1000 ≤ b ∧ b ≤ 1000 ∧ 1 ≤ c ∧ c ≤ 40 ∧ 1 ≤ d ∧ d ≤ 40
theorem chk (k : Nat) (hk : 2 ≤ k) (a b c d : Int) : label_Check.f k [(⟨a, b, c, d⟩ : S58)] = some (if Item a b c d then 0 else 4) := by
  obtain ⟨K, rfl⟩ : ∃ K, k = K + 1 := ⟨k - 1, by omega⟩
  unfold label_Check.f
  rw [if_neg (by simp)]
  show label_Check.l0 (K + 1) [(⟨a, b, c, d⟩ : S58)] 1 0 = _
  have e : ∀ X, label_Check.l0 K X 1 1 = some 0 := by
    intro X
    obtain ⟨K, rfl⟩ : ∃ m, K = m + 1 := ⟨K - 1, by omega⟩
    simp only [label_Check.l0]; rw [if_neg (by omega)]
  simp only [label_Check.l0]
  rw [if_pos (by omega), if_pos (by omega), if_pos (by simp), w64 (0 + 1) (by omega) (by omega), show (0 + 1 : Int) = 1 from rfl, e]
  show (if a < -1000 then some 4 else if a > 1000 then some 4 else if b < -1000 then some 4 else if b > 1000 then some 4 else if c < 1 then some 4 else if c > 40 then some 4 else if d < 1 then some 4 else if d > 40 then some 4 else some 0) = _
  repeat (refine els (fun _ => by rw [if_neg (by omega)]) (fun _ => ?_))
  rw [if_pos (by omega)]
theorem err (k : Nat) (hk : 2 ≤ k) (a b c d : Int) : skywayref4_LabelError.f k [(⟨a, b, c, d⟩ : S58)] = some (if Item a b c d then 0 else 4) := by
  obtain ⟨K, rfl⟩ : ∃ K, k = K + 1 := ⟨k - 1, by omega⟩
  unfold skywayref4_LabelError.f
  rw [if_neg (by simp)]
  show skywayref4_LabelError.l0 (K + 1) [(⟨a, b, c, d⟩ : S58)] 1 0 = _
  have e : ∀ X, skywayref4_LabelError.l0 K X 1 1 = some 0 := by
    intro X
    obtain ⟨K, rfl⟩ : ∃ m, K = m + 1 := ⟨K - 1, by omega⟩
    simp only [skywayref4_LabelError.l0]; rw [if_neg (by omega)]
  simp only [skywayref4_LabelError.l0, lb_in, Option.bind_some, decide_eq_true_eq]
  rw [if_pos (by omega), if_pos (by omega), if_pos (by simp), w64 (0 + 1) (by omega) (by omega), show (0 + 1 : Int) = 1 from rfl, e]
  show (if -1000 ≤ a ∧ a ≤ 1000 then (if -1000 ≤ b ∧ b ≤ 1000 then (if 1 ≤ c ∧ c ≤ 40 then (if 1 ≤ d ∧ d ≤ 40 then some 0 else some 4) else some 4) else some 4) else some 4) = _
  repeat (refine els (fun _ => ?_) (fun _ => by rw [if_neg (by omega)]))
  rw [if_pos (by omega)]
theorem box_val (k : Nat) (a b c d s : Int) (h0 : 0 ≤ s) (h1 : s ≤ 7) : ∃ x y z t, label_box.f (k + 3) a b c d s = some (x, y, z, t) ∧ skywayref4_LabelBox.f a b c d s = some (x, y, z, t) := by
  have hs : s = 0 ∨ s = 1 ∨ s = 2 ∨ s = 3 ∨ s = 4 ∨ s = 5 ∨ s = 6 ∨ s = 7 := by omega
  rcases hs with rfl | rfl | rfl | rfl | rfl | rfl | rfl | rfl
  all_goals
    refine ⟨_, _, _, _, ?_, rfl⟩
    simp [label_box.f, label_box.j0, label_box.j1, label_box.j2]
theorem Box_val (k : Nat) (a b c d s : Int) : (∃ x y z t, label_Box.f (k + 3) a b c d s = some (x, y, z, t, 0) ∧ skywayref4_LabelBox.f a b c d s = some (x, y, z, t) ∧ Item a b c d ∧ 0 ≤ s ∧ s ≤ 7) ∨
    (label_Box.f (k + 3) a b c d s = some (0, 0, 0, 0, 1) ∧ Item a b c d ∧ ¬ (0 ≤ s ∧ s ≤ 7)) ∨ (label_Box.f (k + 3) a b c d s = some (0, 0, 0, 0, 4) ∧ ¬ Item a b c d) := by
  unfold label_Box.f
  rw [chk (k + 3) (by omega)]
  simp only [Option.bind_some]
  by_cases h : Item a b c d
  · rw [if_pos h, if_pos rfl]
    by_cases h1 : 0 ≤ s ∧ s ≤ 7
    · obtain ⟨x, y, z, t, e1, e2⟩ := box_val k a b c d s h1.1 h1.2
      rw [if_neg (by omega), if_neg (by omega), e1]
      exact .inl ⟨x, y, z, t, rfl, e2, h, h1⟩
    · refine .inr (.inl ⟨?_, h, h1⟩)
      by_cases h2 : s < 0
      · rw [if_pos h2]
      · rw [if_neg h2, if_pos (by omega)]
  · rw [if_neg h, if_neg (by decide)]
    exact .inr (.inr ⟨rfl, h⟩)

theorem LabelBoxes : LabelBoxes.Stmt := by
  intro a b c d s _ _ _ _ _
  refine ⟨10, ?_⟩
  unfold skywaylaw4_LabelBoxes.f
  have f1 : label_Box.f 10 0 0 3 2 5 = some (-3, -1, 3, 2, 0) := by
    rcases Box_val 7 0 0 3 2 5 with ⟨x, y, z, t, e1, e2, _⟩ | ⟨_, _, h⟩ | ⟨_, h⟩
    · have : skywayref4_LabelBox.f 0 0 3 2 5 = some (-3, -1, 3, 2) := by decide +kernel
      rw [this] at e2
      simp only [Option.some.injEq, Prod.mk.injEq] at e2
      obtain ⟨rfl, rfl, rfl, rfl⟩ := e2
      exact e1
    · exact absurd (by decide) h
    · exact absurd (by decide) h
  rw [f1]
  simp only [Option.bind_some, if_true]
  rw [show (!((-3 : Int) == -3) || (!((-1 : Int) == -1) || (!((3 : Int) == 3) || (!((2 : Int) == 2))))) = false by decide]
  simp only [skywaylaw4_LabelBoxes.j0]
  rw [if_neg (by decide), err 9 (by omega), chk 9 (by omega)]
  simp only [Option.bind_some, if_true]
  rw [lb_in]
  rcases Box_val 6 a b c d s with ⟨x, y, z, t, e1, e2, hi, hs⟩ | ⟨e1, hi, hs⟩ | ⟨e1, hi⟩
  · rw [e1, decide_eq_true (show 0 ≤ s ∧ s ≤ 7 from hs)]
    simp only [Option.bind_some, if_pos hi, if_true, skywaylaw4_LabelBoxes.j1]
    rw [if_neg (by decide), e2]
    simp
  · rw [e1, decide_eq_false hs]
    simp only [Option.bind_some, if_pos hi, if_true, skywaylaw4_LabelBoxes.j1]
    simp
  · rw [e1]
    simp only [Option.bind_some, if_neg hi, skywaylaw4_LabelBoxes.j1]
    simp

end Go.Proofs.Ytlaaeighanknpaa.Pure
