/- What is proved here: the comparison of strings, byte by byte, is a total order; a list sorted by a strict total order is the only one of its permutations. Pure lists; no condition. -/
import Derived.Lib.Bytealg
import Derived.Sort.Statements
import GoSem.Op.String
namespace Go.Proofs.YtokephobkllfgaaStr
open Go Go.Lib
abbrev cB := compareBytes
theorem cB_cons (a b : UInt8) (x y : List UInt8) : cB (a :: x) (b :: y) = if a < b then -1 else if b < a then 1 else cB x y := rfl
theorem u_irr (a : UInt8) : ¬ a < a := UInt8.lt_irrefl a
theorem u_asym {a b : UInt8} (h : a < b) : ¬ b < a := UInt8.lt_asymm h
theorem u_eq {a b : UInt8} (h1 : ¬ a < b) (h2 : ¬ b < a) : a = b := by
  rw [UInt8.lt_iff_toNat_lt] at h1 h2
  exact UInt8.toNat_inj.1 (by omega)
theorem u_trans {a b c : UInt8} (h1 : a < b) (h2 : b < c) : a < c := UInt8.lt_trans h1 h2
theorem cB_self : ∀ x : List UInt8, cB x x = 0
  | [] => rfl
  | a :: x => by rw [cB_cons, if_neg (u_irr a), if_neg (u_irr a)]; exact cB_self x
theorem cB_flip : ∀ x y : List UInt8, cB y x = -cB x y
  | [], [] => rfl
  | [], _ :: _ => rfl
  | _ :: _, [] => rfl
  | a :: x, b :: y => by
    rw [cB_cons, cB_cons]
    by_cases h1 : a < b
    · rw [if_pos h1, if_neg (u_asym h1), if_pos h1]; rfl
    · by_cases h2 : b < a
      · rw [if_pos h2, if_neg h1, if_pos h2]
      · rw [if_neg h2, if_neg h1, if_neg h1, if_neg h2]; exact cB_flip x y
theorem cB_zero : ∀ {x y : List UInt8}, cB x y = 0 → x = y
  | [], [], _ => rfl
  | [], _ :: _, h => absurd (show (-1 : Int) = 0 from h) (by decide)
  | _ :: _, [], h => absurd (show (1 : Int) = 0 from h) (by decide)
  | a :: x, b :: y, h => by
    rw [cB_cons] at h
    by_cases h1 : a < b
    · rw [if_pos h1] at h; omega
    · by_cases h2 : b < a
      · rw [if_neg h1, if_pos h2] at h; omega
      · rw [if_neg h1, if_neg h2] at h
        rw [cB_zero h, u_eq h1 h2]
theorem cB_trans : ∀ {x y z : List UInt8}, cB x y ≤ 0 → cB y z ≤ 0 → cB x z ≤ 0 ∧ (cB x y < 0 ∨ cB y z < 0 → cB x z < 0)
  | [], [], [], _, _ => ⟨by decide, fun h => by rcases h with h | h <;> exact absurd h (by decide)⟩
  | [], [], _ :: _, _, _ => ⟨show (-1 : Int) ≤ 0 by decide, fun _ => show (-1 : Int) < 0 by decide⟩
  | [], _ :: _, [], _, h => absurd (show (1 : Int) ≤ 0 from h) (by decide)
  | [], _ :: _, _ :: _, _, _ => ⟨show (-1 : Int) ≤ 0 by decide, fun _ => show (-1 : Int) < 0 by decide⟩
  | _ :: _, [], _, h, _ => absurd (show (1 : Int) ≤ 0 from h) (by decide)
  | _ :: _, _ :: _, [], _, h => absurd (show (1 : Int) ≤ 0 from h) (by decide)
  | a :: x, b :: y, c :: z, h3, h4 => by
    rw [cB_cons] at h3 h4 ⊢
    rw [cB_cons, cB_cons]
    have ih := @cB_trans x y z
    by_cases e1 : a < b
    · have hc : ¬ c < b := fun e => by rw [if_neg (u_asym e), if_pos e] at h4; omega
      have hac : a < c := by
        by_cases e3 : b < c
        · exact u_trans e1 e3
        · rw [← u_eq e3 hc]; exact e1
      rw [if_pos hac]
      exact ⟨by omega, fun _ => by omega⟩
    · by_cases e2 : b < a
      · rw [if_neg e1, if_pos e2] at h3; omega
      · rw [if_neg e1, if_neg e2] at h3 ⊢
        obtain rfl : a = b := u_eq e1 e2
        by_cases e3 : a < c
        · rw [if_pos e3, if_pos e3]; exact ⟨by omega, fun _ => by omega⟩
        · by_cases e4 : c < a
          · rw [if_neg e3, if_pos e4] at h4; omega
          · rw [if_neg e3, if_neg e4] at h4
            rw [if_neg e3, if_neg e4, if_neg e3, if_neg e4]
            exact ih h3 h4
theorem cB_vals : ∀ x y : List UInt8, cB x y = -1 ∨ cB x y = 0 ∨ cB x y = 1
  | [], [] => Or.inr (Or.inl rfl)
  | [], _ :: _ => Or.inl rfl
  | _ :: _, [] => Or.inr (Or.inr rfl)
  | a :: x, b :: y => by
    rw [cB_cons]
    by_cases h1 : a < b
    · rw [if_pos h1]; exact Or.inl rfl
    · by_cases h2 : b < a
      · rw [if_neg h1, if_pos h2]; exact Or.inr (Or.inr rfl)
      · rw [if_neg h1, if_neg h2]; exact cB_vals x y
theorem bL_cB : ∀ x y : List UInt8, Op.bytesLess x y = decide (cB x y < 0)
  | [], [] => rfl
  | [], _ :: _ => rfl
  | _ :: _, [] => rfl
  | a :: x, b :: y => by
    rw [Op.bytesLess, cB_cons, bL_cB x y]
    by_cases h1 : a < b
    · rw [if_pos h1]; simp [h1]
    · by_cases h2 : b < a
      · rw [if_neg h1, if_pos h2]
        have : a ≠ b := fun e => by subst e; exact u_irr a h2
        simp [h1, this]
      · rw [if_neg h1, if_neg h2]
        obtain rfl := u_eq h1 h2
        simp [h1]
/-! ### Sorted lists -/
/-- Of a list's permutations, one at most is sorted by a strict order that parts its elements. -/
theorem sorted_one {α : Type} {r : α → α → Prop} (has : ∀ x y, r x y → r y x → False) : ∀ {l m : List α}, l.Perm m → l.Pairwise r → m.Pairwise r → l = m
  | [], m, h, _, _ => (List.nil_perm.1 h).symm
  | a :: l, m, h, h1, h2 => by
    cases m with
    | nil => exact absurd h.length_eq (by simp)
    | cons b m =>
      rw [List.pairwise_cons] at h1 h2
      have hab : a = b := by
        rcases List.mem_cons.1 (h.mem_iff.1 (List.mem_cons_self ..)) with h3 | h3
        · exact h3
        · rcases List.mem_cons.1 (h.mem_iff.2 (List.mem_cons_self ..)) with h4 | h4
          · exact h4.symm
          · exact (has _ _ (h2.1 a h3) (h1.1 b h4)).elim
      subst hab
      rw [sorted_one has h.cons_inv h1.2 h2.2]
theorem sortedIn_pw {α : Type} [Inhabited α] {lt : α → α → Bool} {d : Array α} (h : Go.Sort.SortedIn lt 0 d.size d) : d.toList.Pairwise fun x y => lt y x = false := by
  rw [List.pairwise_iff_getElem]
  intro i j hi hj hij
  have hi' : i < d.size := by simpa using hi
  have hj' : j < d.size := by simpa using hj
  have := h i j (Nat.zero_le _) hij hj'
  simpa [hi', hj'] using this
end Go.Proofs.YtokephobkllfgaaStr
