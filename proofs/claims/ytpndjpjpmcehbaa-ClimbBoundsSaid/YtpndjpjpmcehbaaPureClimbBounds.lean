/- What is proved: for every list of reports and every time, climb.Rates and climb.Heights return the tightest bounds of all pairs of reports. No condition. -/
import Derived.Test.YtpndjpjpmcehbaaStClimbBounds
import Derived.Test.YtpndjpjpmcehbaaAid
namespace Go.Proofs.Ytpndjpjpmcehbaa.Pure
open Go.RowKit Go.Proofs.Ytpndjpjpmcehbaa.PClimbBounds Go.Proofs.YtpndjpjpmcehbaaW.PrintWords Go.Proofs.YtpndjpjpmcehbaaW.PrintLast Go.Proofs.YtpndjpjpmcehbaaW.PrintMore Go.Proofs.Ytpndjpjpmcehbaa.Aid

theorem cb_in (a b c : Int) : skywayref2_In.f a b c = some (decide (b ≤ a ∧ a ≤ c)) := by
  unfold skywayref2_In.f
  by_cases h : a ≥ b
  · rw [if_pos h]; simp; omega
  · rw [if_neg h]; simp; omega
theorem cb_down (a b : Int) (hb : 0 < b) (h0 : -1000000000000 ≤ a) (h1 : a ≤ 1000000000000) (hb' : b ≤ 1000000) : skywayref2_Down.f a b = some (a / b) := by
  have h2 := tdiv_abs a b 1000000000000 hb h0 h1
  have h3 := floor_prod a b hb
  have h5 := tdiv_tmod a b
  have h6 := tmod_range a b hb
  unfold skywayref2_Down.f
  rw [if_neg (by omega), w64 (Int.tdiv a b) (by omega) (by omega), w64 (Int.tdiv a b * b) (by omega) (by omega), w64 (Int.tdiv a b - 1) (by omega) (by omega), ← h3]
  by_cases h : a < Int.tdiv a b * b
  · rw [if_pos (by omega), if_pos h]
  · rw [if_neg (by omega), if_neg h]
theorem cb_up (a b : Int) (hb : 0 < b) (h0 : -1000000000000 ≤ a) (h1 : a ≤ 1000000000000) (hb' : b ≤ 1000000) : skywayref2_Up.f a b = some (-((-a) / b)) := by
  have h2 := ediv_abs (-a) b 1000000000000 hb (by omega) (by omega)
  unfold skywayref2_Up.f
  rw [w64 (-a) (by omega) (by omega), cb_down (-a) b hb (by omega) (by omega) hb']
  simp only [Option.bind_some]
  rw [w64 _ (by omega) (by omega)]
theorem divdown_val (k : Nat) (hk : 1 ≤ k) (a b : Int) (hb : 0 < b) (h0 : -1000000000000 ≤ a) (h1 : a ≤ 1000000000000) (hb' : b ≤ 1000000) : num_DivDown.f k a b = some (a / b, 0) := by
  obtain ⟨k, rfl⟩ : ∃ m, k = m + 1 := ⟨k - 1, by omega⟩
  have h2 := tdiv_abs a b 1000000000000 hb h0 h1
  have h3 := floor_cases a b hb
  unfold num_DivDown.f
  rw [if_neg (by omega), if_neg (by omega)]
  simp only [num_DivDown.j0]
  rw [if_neg (by decide), if_neg (by omega), w64 (Int.tdiv a b) (by omega) (by omega), w64 (Int.tdiv a b - 1) (by omega) (by omega), h3]
  by_cases h : Int.tmod a b = 0
  · rw [if_pos h, if_pos h]
  · rw [if_neg h, if_neg h, decide_eq_false (show ¬ b < 0 by omega)]
    by_cases g : a < 0
    · rw [decide_eq_true g, if_pos (by decide), if_pos g]
    · rw [decide_eq_false g, if_neg (by decide), if_neg g]
theorem divup_val (k : Nat) (hk : 1 ≤ k) (a b : Int) (hb : 0 < b) (h0 : -1000000000000 ≤ a) (h1 : a ≤ 1000000000000) (hb' : b ≤ 1000000) : num_DivUp.f k a b = some (-((-a) / b), 0) := by
  have h2 := ediv_abs a b 1000000000000 hb h0 h1
  have h3 := ceil_cases a b hb
  unfold num_DivUp.f
  rw [divdown_val k hk a b hb h0 h1 hb']
  simp only [Option.bind_some, if_true]
  rw [if_neg (by omega), w64 (a / b + 1) (by omega) (by omega), h3]
  by_cases h : Int.tmod a b = 0
  · rw [if_pos h, if_pos h]
  · rw [if_neg h, if_neg h]

/-! ### The check, twice -/
def tm (l : List S40) (i : Nat) : Int := (rd_T40 l (i : Int)).f0
def lv (l : List S40) (i : Nat) : Int := (rd_T40 l (i : Int)).f1
abbrev Rng (l : List S40) (i : Nat) : Prop := 0 ≤ tm l i ∧ tm l i ≤ 200000 ∧ 0 ≤ lv l i ∧ lv l i ≤ 600
/-- The error from report i on. -/
def err (l : List S40) : Nat → Nat → Int
  | 0, _ => 0
  | d + 1, i => if Rng l i then (if 0 < i ∧ tm l i ≤ tm l (i - 1) then 12 else err l d (i + 1)) else 4
theorem err_step (l : List S40) (d i : Nat) : err l (d + 1) i = if Rng l i then (if 0 < i ∧ tm l i ≤ tm l (i - 1) then 12 else err l d (i + 1)) else 4 := rfl
theorem err_zero (l : List S40) (d : Nat) : ∀ i, err l d i = 0 → ∀ j, i ≤ j → j < i + d → Rng l j ∧ (0 < j → tm l (j - 1) < tm l j) := by
  induction d with
  | zero => intro i _ j h1 h2; omega
  | succ d ih =>
    intro i h j h1 h2
    rw [err_step] at h
    by_cases c : Rng l i
    · rw [if_pos c] at h
      by_cases c2 : 0 < i ∧ tm l i ≤ tm l (i - 1)
      · rw [if_pos c2] at h; omega
      · rw [if_neg c2] at h
        rcases Nat.lt_or_ge i j with h3 | h3
        · exact ih (i + 1) h j (by omega) (by omega)
        · obtain rfl : i = j := by omega
          exact ⟨c, fun h4 => by omega⟩
    · rw [if_neg c] at h; omega

theorem check_loop (l : List S40) (hl : l.length ≤ 64) (d : Nat) : ∀ (i k : Nat), i + d = l.length → 2 * d + 1 ≤ k → climb_Check.l0 k l l (l.length : Int) (i : Int) = some (err l d i) := by
  induction d with
  | zero =>
    intro i k h hk
    obtain ⟨k, rfl⟩ : ∃ m, k = m + 1 := ⟨k - 1, by omega⟩
    simp only [climb_Check.l0]
    rw [if_neg (by omega)]; rfl
  | succ d ih =>
    intro i k h hk
    obtain ⟨k, rfl⟩ : ∃ m, k = m + 2 := ⟨k - 2, by omega⟩
    have hj : ∀ b, climb_Check.j1 (k + 1) l (i : Int) l (l.length : Int) (i : Int) b (tm l i) (lv l i) = if b = true then some 4 else some (if 0 < i ∧ tm l i ≤ tm l (i - 1) then 12 else err l d (i + 1)) := by
      intro b
      simp only [climb_Check.j1]
      by_cases hb : b = true
      · rw [if_pos hb, if_pos hb]
      · rw [if_neg hb, if_neg hb, w64 ((i : Int) - 1) (by omega) (by omega), w64 ((i : Int) + 1) (by omega) (by omega)]
        have e := ih (i + 1) k (by omega) (by omega)
        rw [show ((i + 1 : Nat) : Int) = (i : Int) + 1 by omega] at e
        rw [e]
        by_cases h0 : 0 < i
        · have ei : (i : Int) - 1 = ((i - 1 : Nat) : Int) := by omega
          rw [if_pos (by omega), if_pos (by omega), if_pos (by omega), ei]
          show (if tm l i ≤ tm l (i - 1) then some 12 else _) = _
          by_cases h1 : tm l i ≤ tm l (i - 1)
          · rw [if_pos h1, if_pos ⟨h0, h1⟩]
          · rw [if_neg h1, if_neg (show ¬ (0 < i ∧ tm l i ≤ tm l (i - 1)) from fun h2 => h1 h2.2)]
        · rw [if_neg (by omega), if_neg (show ¬ (0 < i ∧ tm l i ≤ tm l (i - 1)) from fun h2 => h0 h2.1)]
    simp only [climb_Check.l0]
    rw [if_pos (by omega), if_pos (by omega), if_pos (by omega)]
    show (if tm l i < 0 then climb_Check.j1 (k + 1) l (i : Int) l (l.length : Int) (i : Int) true (tm l i) (lv l i) else if tm l i > 200000 then climb_Check.j1 (k + 1) l (i : Int) l (l.length : Int) (i : Int) true (tm l i) (lv l i)
      else if lv l i < 0 then climb_Check.j1 (k + 1) l (i : Int) l (l.length : Int) (i : Int) true (tm l i) (lv l i) else climb_Check.j1 (k + 1) l (i : Int) l (l.length : Int) (i : Int) (decide (lv l i > 600)) (tm l i) (lv l i)) = _
    rw [hj, hj, err_step]
    refine els (fun _ => by rw [if_pos rfl, if_neg (show ¬ Rng l i by omega)]) fun _ => ?_
    refine els (fun _ => by rw [if_pos rfl, if_neg (show ¬ Rng l i by omega)]) fun _ => ?_
    refine els (fun _ => by rw [if_pos rfl, if_neg (show ¬ Rng l i by omega)]) fun _ => ?_
    by_cases c : lv l i > 600
    · rw [decide_eq_true c, if_pos rfl, if_neg (show ¬ Rng l i by omega)]
    · rw [decide_eq_false c, if_neg (show ¬ false = true by decide), if_pos (show Rng l i by omega)]
theorem error_loop (l : List S40) (hl : l.length ≤ 64) (d : Nat) : ∀ (i k : Nat), i + d = l.length → 2 * d + 1 ≤ k → skywayref2_ReportsError.l0 k l l (l.length : Int) (i : Int) = some (err l d i) := by
  induction d with
  | zero =>
    intro i k h hk
    obtain ⟨k, rfl⟩ : ∃ m, k = m + 1 := ⟨k - 1, by omega⟩
    simp only [skywayref2_ReportsError.l0]
    rw [if_neg (by omega)]; rfl
  | succ d ih =>
    intro i k h hk
    obtain ⟨k, rfl⟩ : ∃ m, k = m + 2 := ⟨k - 2, by omega⟩
    have hj : ∀ b, skywayref2_ReportsError.j1 (k + 1) l (i : Int) l (l.length : Int) (i : Int) b (tm l i) (lv l i) = if b = true then some 4 else some (if 0 < i ∧ tm l i ≤ tm l (i - 1) then 12 else err l d (i + 1)) := by
      intro b
      simp only [skywayref2_ReportsError.j1]
      by_cases hb : b = true
      · rw [if_pos hb, if_pos hb]
      · rw [if_neg hb, if_neg hb, w64 ((i : Int) - 1) (by omega) (by omega), w64 ((i : Int) + 1) (by omega) (by omega)]
        have e := ih (i + 1) k (by omega) (by omega)
        rw [show ((i + 1 : Nat) : Int) = (i : Int) + 1 by omega] at e
        rw [e]
        by_cases h0 : 0 < i
        · have ei : (i : Int) - 1 = ((i - 1 : Nat) : Int) := by omega
          rw [if_pos (by omega), if_pos (by omega), if_pos (by omega), ei]
          show (if tm l i ≤ tm l (i - 1) then some 12 else _) = _
          by_cases h1 : tm l i ≤ tm l (i - 1)
          · rw [if_pos h1, if_pos ⟨h0, h1⟩]
          · rw [if_neg h1, if_neg (show ¬ (0 < i ∧ tm l i ≤ tm l (i - 1)) from fun h2 => h1 h2.2)]
        · rw [if_neg (by omega), if_neg (show ¬ (0 < i ∧ tm l i ≤ tm l (i - 1)) from fun h2 => h0 h2.1)]
    simp only [skywayref2_ReportsError.l0]
    rw [if_pos (by omega), if_pos (by omega), if_pos (by omega)]
    show ((skywayref2_In.f (tm l i) 0 200000).bind fun t134 => if t134 = true then (skywayref2_In.f (lv l i) 0 600).bind fun t135 => skywayref2_ReportsError.j1 (k + 1) l (i : Int) l (l.length : Int) (i : Int) (!t135) (tm l i) (lv l i)
      else skywayref2_ReportsError.j1 (k + 1) l (i : Int) l (l.length : Int) (i : Int) true (tm l i) (lv l i)) = _
    rw [cb_in, cb_in]
    simp only [Option.bind_some]
    rw [hj, hj, err_step]
    by_cases c1 : 0 ≤ tm l i ∧ tm l i ≤ 200000
    · rw [decide_eq_true c1, if_pos rfl]
      by_cases c2 : 0 ≤ lv l i ∧ lv l i ≤ 600
      · rw [decide_eq_true c2, if_neg (by decide), if_pos (show Rng l i by omega)]
      · rw [decide_eq_false c2, if_pos (by decide), if_neg (show ¬ Rng l i by omega)]
    · rw [decide_eq_false c1, if_neg (show ¬ false = true by decide), if_pos rfl, if_neg (show ¬ Rng l i by omega)]
def code (l : List S40) : Int := if 64 < l.length then 2 else err l l.length 0
theorem check_val (l : List S40) (k : Nat) (hk : 200 ≤ k) : climb_Check.f k l = some (code l) := by
  unfold climb_Check.f code
  by_cases h : 64 < l.length
  · rw [if_pos (by omega), if_pos h]
  · rw [if_neg (by omega), if_neg h]
    exact check_loop l (by omega) l.length 0 k (by omega) (by omega)
theorem error_val (l : List S40) (k : Nat) (hk : 200 ≤ k) : skywayref2_ReportsError.f k l = some (code l) := by
  unfold skywayref2_ReportsError.f code
  by_cases h : 64 < l.length
  · rw [if_pos (by omega), if_pos h]
  · rw [if_neg (by omega), if_neg h]
    exact error_loop l (by omega) l.length 0 k (by omega) (by omega)
def Valid (l : List S40) : Prop := l.length ≤ 64 ∧ (∀ i, i < l.length → Rng l i) ∧ ∀ i j, i < j → j < l.length → tm l i < tm l j
theorem valid_of (l : List S40) (h : code l = 0) : Valid l := by
  unfold code at h
  by_cases h1 : 64 < l.length
  · rw [if_pos h1] at h; omega
  · rw [if_neg h1] at h
    have h2 := err_zero l l.length 0 h
    refine ⟨by omega, fun i hi => (h2 i (by omega) (by omega)).1, ?_⟩
    intro i j hij hj
    induction j with
    | zero => omega
    | succ j ih =>
      have h3 := (h2 (j + 1) (by omega) (by omega)).2 (by omega)
      rw [show j + 1 - 1 = j by omega] at h3
      rcases Nat.lt_or_ge i j with h4 | h4
      · have := ih h4 (by omega); omega
      · obtain rfl : i = j := by omega
        exact h3

/-! ### The rates -/
def num (l : List S40) (i j : Nat) : Int := 100 * lv l i - 100 * lv l j
def dif (l : List S40) (i j : Nat) : Int := tm l i - tm l j
def lo1 (l : List S40) (i j : Nat) : Int := (16 * num l i j - 1584) / dif l i j
def hi1 (l : List S40) (i j : Nat) : Int := -((-(16 * num l i j + 1584)) / dif l i j)
def inn (l : List S40) (i : Nat) : Nat → Nat → Int → Int → Int × Int
  | 0, _, a, b => (a, b)
  | d + 1, j, a, b => inn l i d (j + 1) (mx a (lo1 l i j)) (mn b (hi1 l i j))
def out (l : List S40) : Nat → Nat → Int → Int → Int × Int
  | 0, _, a, b => (a, b)
  | d + 1, i, a, b => out l d (i + 1) (inn l i i 0 a b).1 (inn l i i 0 a b).2
def Bd (a b : Int) : Prop := -3200 ≤ a ∧ a ≤ 1000000 ∧ -1000000 ≤ b ∧ b ≤ 3200
theorem inn_step (l : List S40) (i d j : Nat) (a b : Int) : inn l i (d + 1) j a b = inn l i d (j + 1) (mx a (lo1 l i j)) (mn b (hi1 l i j)) := rfl
theorem out_step (l : List S40) (d i : Nat) (a b : Int) : out l (d + 1) i a b = out l d (i + 1) (inn l i i 0 a b).1 (inn l i i 0 a b).2 := rfl
theorem pair_bd (l : List S40) (hv : Valid l) (i j : Nat) (hij : j < i) (hi : i < l.length) : 0 < dif l i j ∧ dif l i j ≤ 200000 ∧ -60000 ≤ num l i j ∧ num l i j ≤ 60000 ∧ -1000000 ≤ lo1 l i j ∧ lo1 l i j ≤ 1000000 ∧ -1000000 ≤ hi1 l i j ∧ hi1 l i j ≤ 1000000 := by
  have h1 := hv.2.1 i hi
  have h2 := hv.2.1 j (by omega)
  have h3 := hv.2.2 j i hij hi
  have hd : 0 < dif l i j := by unfold dif; omega
  have hn : -60000 ≤ num l i j ∧ num l i j ≤ 60000 := by unfold num; omega
  have e1 := ediv_abs (16 * num l i j - 1584) (dif l i j) 1000000 hd (by omega) (by omega)
  have e2 := ceil_abs (16 * num l i j + 1584) (dif l i j) 1000000 hd (by omega) (by omega)
  refine ⟨hd, by unfold dif; omega, hn.1, hn.2, e1.1, e1.2, e2.1, e2.2⟩
theorem step_bd (l : List S40) (hv : Valid l) (i j : Nat) (hij : j < i) (hi : i < l.length) (a b : Int) (h : Bd a b) : Bd (mx a (lo1 l i j)) (mn b (hi1 l i j)) := by
  have := pair_bd l hv i j hij hi
  unfold Bd mx mn at *
  split <;> split <;> omega
theorem inn_bd (l : List S40) (hv : Valid l) (i : Nat) (hi : i < l.length) (d : Nat) : ∀ (j : Nat) (a b : Int), j + d = i → Bd a b → Bd (inn l i d j a b).1 (inn l i d j a b).2 := by
  induction d with
  | zero => intro j a b _ h; exact h
  | succ d ih =>
    intro j a b hj h
    exact ih (j + 1) _ _ (by omega) (step_bd l hv i j (by omega) hi a b h)
theorem out_bd (l : List S40) (hv : Valid l) (d : Nat) : ∀ (i : Nat) (a b : Int), i + d = l.length → Bd a b → Bd (out l d i a b).1 (out l d i a b).2 := by
  induction d with
  | zero => intro i a b _ h; exact h
  | succ d ih =>
    intro i a b hi h
    exact ih (i + 1) _ _ (by omega) (inn_bd l hv i (by omega) i 0 a b (by omega) h)

theorem rd_take (l : List S40) (i j : Nat) (h : j < i) : rd_T40 (l.take i) (j : Int) = rd_T40 l (j : Int) := by
  unfold rd_T40
  simp [List.getD_eq_getElem?_getD, h]

theorem rates_inner (l : List S40) (hv : Valid l) (i : Nat) (hi : i < l.length) (d : Nat) : ∀ (j k : Nat) (a b : Int), j + d = i → Bd a b → 1 ≤ k →
    climb_Rates.l1 (k + d + 1) l a b l (l.length : Int) (i : Int) (l.take i) ((l.take i).length : Int) (j : Int) (tm l i) (lv l i) = climb_Rates.l0 k l (inn l i d j a b).1 (inn l i d j a b).2 l (l.length : Int) ((i : Int) + 1) := by
  have hlen : (l.take i).length = i := by rw [List.length_take]; omega
  have hl := hv.1
  induction d with
  | zero =>
    intro j k a b hj hb hk
    rw [show k + 0 + 1 = k + 1 by omega]
    obtain rfl : j = i := by omega
    simp only [climb_Rates.l1]
    rw [hlen, if_neg (by omega), w64 ((j : Int) + 1) (by omega) (by omega)]
    rfl
  | succ d ih =>
    intro j k a b hj hb hk
    have hp := pair_bd l hv i j (by omega) hi
    have e1 : (rd_T40 (l.take i) (j : Int)).f1 = lv l j := by rw [rd_take l i j (by omega)]; rfl
    have e0 : (rd_T40 (l.take i) (j : Int)).f0 = tm l j := by rw [rd_take l i j (by omega)]; rfl
    have r1 := hv.2.1 i hi
    have r2 := hv.2.1 j (by omega)
    have n1 : 16 * (100 * (lv l i - lv l j) - 100 + 1) = 16 * num l i j - 1584 := by unfold num; omega
    have n2 : 16 * (100 * (lv l i - lv l j) + 100 - 1) = 16 * num l i j + 1584 := by unfold num; omega
    have n3 : tm l i - tm l j = dif l i j := rfl
    obtain ⟨K, hK⟩ : ∃ K, K = k + d + 1 := ⟨_, rfl⟩
    rw [show k + (d + 1) + 1 = K + 1 by omega, inn_step]
    simp only [climb_Rates.l1]
    rw [e0, e1, w64 (lv l i - lv l j) (by omega) (by omega), w64 (100 * (lv l i - lv l j)) (by omega) (by omega), w64 (100 * (lv l i - lv l j) - 100) (by omega) (by omega), w64 (100 * (lv l i - lv l j) - 100 + 1) (by omega) (by omega),
      w64 (100 * (lv l i - lv l j) + 100) (by omega) (by omega), w64 (100 * (lv l i - lv l j) + 100 - 1) (by omega) (by omega), n1, n2, w64 (16 * num l i j - 1584) (by omega) (by omega), w64 (16 * num l i j + 1584) (by omega) (by omega), w64 (tm l i - tm l j) (by omega) (by omega), n3,
      divdown_val K (by omega) _ _ hp.1 (by omega) (by omega) (by omega), divup_val K (by omega) _ _ hp.1 (by omega) (by omega) (by omega)]
    simp only [Option.bind_some]
    rw [hlen, if_pos (by omega), if_pos (by omega), if_pos (by omega), w64 ((j : Int) + 1) (by omega) (by omega)]
    have := ih (j + 1) k (mx a (lo1 l i j)) (mn b (hi1 l i j)) (by omega) (step_bd l hv i j (by omega) hi a b hb) hk
    rw [hlen, show ((j + 1 : Nat) : Int) = (j : Int) + 1 by omega, ← hK] at this
    exact this
def told (p : Int × Int) : Int × Int × Int := if p.2 < p.1 then (0, 0, 8) else (p.1, p.2, 0)
theorem rates_outer (l : List S40) (hv : Valid l) (d : Nat) : ∀ (i k : Nat) (a b : Int), i + d = l.length → Bd a b → 70 * d + 2 ≤ k → climb_Rates.l0 k l a b l (l.length : Int) (i : Int) = some (told (out l d i a b)) := by
  have hl := hv.1
  induction d with
  | zero =>
    intro i k a b hi hb hk
    obtain ⟨k, rfl⟩ : ∃ m, k = m + 1 := ⟨k - 1, by omega⟩
    simp only [climb_Rates.l0]
    rw [if_neg (by omega)]
    show _ = some (told (a, b))
    unfold told
    by_cases h : a > b
    · rw [if_pos h, if_pos (by exact h)]
    · rw [if_neg h, if_neg (by exact h)]
  | succ d ih =>
    intro i k a b hi hb hk
    obtain ⟨k, rfl⟩ : ∃ m, k = (m + i + 1) + 1 := ⟨k - i - 2, by omega⟩
    simp only [climb_Rates.l0]
    rw [if_pos (by omega), if_pos (by omega), if_pos (by omega), if_pos (by omega)]
    simp only [Option.bind_some]
    rw [show ((i : Int)).toNat = i by omega]
    have := rates_inner l hv i (by omega) i 0 k a b (by omega) hb (by omega)
    rw [show ((0 : Nat) : Int) = 0 from rfl] at this
    show climb_Rates.l1 (k + i + 1) l a b l (l.length : Int) (i : Int) (l.take i) ((l.take i).length : Int) 0 (tm l i) (lv l i) = _
    rw [this]
    have e := ih (i + 1) k _ _ (by omega) (inn_bd l hv i (by omega) i 0 a b (by omega) hb) (by omega)
    rw [show ((i + 1 : Nat) : Int) = (i : Int) + 1 by omega] at e
    rw [e, out_step]
def rates (l : List S40) : Int × Int := out l l.length 0 (-3200) 3200
theorem rates_val (l : List S40) (k : Nat) (hk : 5000 ≤ k) : climb_Rates.f k l = some (if code l = 0 then told (rates l) else (0, 0, code l)) := by
  unfold climb_Rates.f
  rw [check_val l k (by omega)]
  simp only [Option.bind_some]
  by_cases h : code l = 0
  · rw [if_pos h, if_pos h]
    have hv := valid_of l h
    have hl := hv.1
    exact rates_outer l hv l.length 0 k _ _ (by omega) (by unfold Bd; omega) (by omega)
  · rw [if_neg h, if_neg h]

/-! ### The heights -/
def lo2 (l : List S40) (x y t : Int) (i : Nat) : Int := 100 * lv l i + (mn (x * (t - tm l i)) (y * (t - tm l i))) / 16
def hi2 (l : List S40) (x y t : Int) (i : Nat) : Int := 100 * lv l i + 99 + -((-(mx (x * (t - tm l i)) (y * (t - tm l i)))) / 16)
def hts (l : List S40) (x y t : Int) : Nat → Nat → Int → Int → Int × Int
  | 0, _, a, b => (a, b)
  | d + 1, i, a, b => hts l x y t d (i + 1) (mx a (lo2 l x y t i)) (mn b (hi2 l x y t i))
theorem hts_step (l : List S40) (x y t : Int) (d i : Nat) (a b : Int) : hts l x y t (d + 1) i a b = hts l x y t d (i + 1) (mx a (lo2 l x y t i)) (mn b (hi2 l x y t i)) := rfl
theorem h_bd (l : List S40) (hv : Valid l) (x y t : Int) (hb : Bd x y) (hx : x ≤ y) (ht : 0 ≤ t ∧ t ≤ 200000) (i : Nat) (hi : i < l.length) :
    -800000000000 ≤ x * (t - tm l i) ∧ x * (t - tm l i) ≤ 800000000000 ∧ -800000000000 ≤ y * (t - tm l i) ∧ y * (t - tm l i) ≤ 800000000000 ∧ (t - tm l i < 0 → y * (t - tm l i) ≤ x * (t - tm l i)) ∧ (0 ≤ t - tm l i → x * (t - tm l i) ≤ y * (t - tm l i)) := by
  have r := hv.2.1 i hi
  unfold Bd at hb
  have m1 := mul_abs x (t - tm l i) 1000000 200000 (by omega) (by omega) (by omega) (by omega)
  have m2 := mul_abs y (t - tm l i) 1000000 200000 (by omega) (by omega) (by omega) (by omega)
  refine ⟨by omega, by omega, by omega, by omega, fun h => ?_, fun h => ?_⟩
  · exact Int.mul_le_mul_of_nonpos_right hx (by omega)
  · exact Int.mul_le_mul_of_nonneg_right hx h
def Bh (a b : Int) : Prop := -900000000000 ≤ a ∧ a ≤ 900000000000 ∧ -900000000000 ≤ b ∧ b ≤ 900000000000
theorem lohi_bd (l : List S40) (hv : Valid l) (x y t : Int) (hb : Bd x y) (hx : x ≤ y) (ht : 0 ≤ t ∧ t ≤ 200000) (i : Nat) (hi : i < l.length) :
    -810000000000 ≤ lo2 l x y t i ∧ lo2 l x y t i ≤ 810000000000 ∧ -810000000000 ≤ hi2 l x y t i ∧ hi2 l x y t i ≤ 810000000000 := by
  have h := h_bd l hv x y t hb hx ht i hi
  have r := hv.2.1 i hi
  have b1 : -800000000000 ≤ mn (x * (t - tm l i)) (y * (t - tm l i)) ∧ mn (x * (t - tm l i)) (y * (t - tm l i)) ≤ 800000000000 := by unfold mn; split <;> omega
  have b2 : -800000000000 ≤ mx (x * (t - tm l i)) (y * (t - tm l i)) ∧ mx (x * (t - tm l i)) (y * (t - tm l i)) ≤ 800000000000 := by unfold mx; split <;> omega
  have e1 := ediv_abs _ 16 800000000000 (by omega) b1.1 b1.2
  have e2 := ceil_abs _ 16 800000000000 (by omega) b2.1 b2.2
  unfold lo2 hi2
  omega
theorem heights_loop (l : List S40) (hv : Valid l) (x y t : Int) (hb : Bd x y) (hx : x ≤ y) (ht : 0 ≤ t ∧ t ≤ 200000) (d : Nat) : ∀ (i k : Nat) (a b : Int), i + d = l.length → Bh a b → d + 2 ≤ k →
    climb_Heights.l0 k t x y a b l (l.length : Int) (i : Int) = some (told (hts l x y t d i a b)) := by
  have hl := hv.1
  induction d with
  | zero =>
    intro i k a b hi hB hk
    obtain ⟨k, rfl⟩ : ∃ m, k = m + 1 := ⟨k - 1, by omega⟩
    simp only [climb_Heights.l0]
    rw [if_neg (by omega)]
    show _ = some (told (a, b))
    unfold told
    by_cases h : a > b
    · rw [if_pos h, if_pos (by exact h)]
    · rw [if_neg h, if_neg (by exact h)]
  | succ d ih =>
    intro i k a b hi hB hk
    obtain ⟨k, rfl⟩ : ∃ m, k = m + 1 := ⟨k - 1, by omega⟩
    have r := hv.2.1 i (by omega)
    have h := h_bd l hv x y t hb hx ht i (by omega)
    have hlh := lohi_bd l hv x y t hb hx ht i (by omega)
    have next := ih (i + 1) k (mx a (lo2 l x y t i)) (mn b (hi2 l x y t i)) (by omega) (by unfold Bh mx mn at *; split <;> split <;> omega) (by omega)
    rw [show ((i + 1 : Nat) : Int) = (i : Int) + 1 by omega] at next
    simp only [climb_Heights.l0]
    rw [if_pos (by omega), if_pos (by omega), if_pos (by omega)]
    show (if wrap64 (t - tm l i) < 0 then ((num_DivDown.f k (wrap64 (y * wrap64 (t - tm l i))) 16).bind fun bt124 => (num_DivUp.f k (wrap64 (x * wrap64 (t - tm l i))) 16).bind fun bt126 =>
        climb_Heights.l0 k t x y (mx a (wrap64 (wrap64 (100 * lv l i) + bt124.1))) (mn b (wrap64 (wrap64 (wrap64 (wrap64 (100 * lv l i) + 100) - 1) + bt126.1))) l (l.length : Int) (wrap64 ((i : Int) + 1)))
      else ((num_DivDown.f k (wrap64 (x * wrap64 (t - tm l i))) 16).bind fun bt128 => (num_DivUp.f k (wrap64 (y * wrap64 (t - tm l i))) 16).bind fun bt130 =>
        climb_Heights.l0 k t x y (mx a (wrap64 (wrap64 (100 * lv l i) + bt128.1))) (mn b (wrap64 (wrap64 (wrap64 (wrap64 (100 * lv l i) + 100) - 1) + bt130.1))) l (l.length : Int) (wrap64 ((i : Int) + 1)))) = _
    rw [w64 (t - tm l i) (by omega) (by omega), w64 (x * (t - tm l i)) (by omega) (by omega), w64 (y * (t - tm l i)) (by omega) (by omega), divdown_val k (by omega) _ _ (by omega) (by omega) (by omega) (by omega), divdown_val k (by omega) _ _ (by omega) (by omega) (by omega) (by omega),
      divup_val k (by omega) _ _ (by omega) (by omega) (by omega) (by omega), divup_val k (by omega) _ _ (by omega) (by omega) (by omega) (by omega)]
    simp only [Option.bind_some]
    have e1 := ediv_abs (x * (t - tm l i)) 16 800000000000 (by omega) (by omega) (by omega)
    have e2 := ediv_abs (y * (t - tm l i)) 16 800000000000 (by omega) (by omega) (by omega)
    have e3 := ceil_abs (x * (t - tm l i)) 16 800000000000 (by omega) (by omega) (by omega)
    have e4 := ceil_abs (y * (t - tm l i)) 16 800000000000 (by omega) (by omega) (by omega)
    rw [w64 (100 * lv l i) (by omega) (by omega), w64 (100 * lv l i + 100) (by omega) (by omega), w64 (100 * lv l i + 100 - 1) (by omega) (by omega), w64 ((i : Int) + 1) (by omega) (by omega)]
    by_cases c : t - tm l i < 0
    · rw [if_pos c, w64 (100 * lv l i + y * (t - tm l i) / 16) (by omega) (by omega), w64 (100 * lv l i + 100 - 1 + -(-(x * (t - tm l i)) / 16)) (by omega) (by omega)]
      have q1 : lo2 l x y t i = 100 * lv l i + y * (t - tm l i) / 16 := by
        unfold lo2 mn
        have := h.2.2.2.2.1 c
        by_cases g : y * (t - tm l i) < x * (t - tm l i)
        · rw [if_pos g]
        · rw [if_neg g, show x * (t - tm l i) = y * (t - tm l i) by omega]
      have q2 : hi2 l x y t i = 100 * lv l i + 100 - 1 + -(-(x * (t - tm l i)) / 16) := by
        unfold hi2 mx
        have := h.2.2.2.2.1 c
        rw [if_neg (by omega)]; omega
      rw [q1, q2] at next
      rw [hts_step, q1, q2]
      exact next
    · rw [if_neg c, w64 (100 * lv l i + x * (t - tm l i) / 16) (by omega) (by omega), w64 (100 * lv l i + 100 - 1 + -(-(y * (t - tm l i)) / 16)) (by omega) (by omega)]
      have q1 : lo2 l x y t i = 100 * lv l i + x * (t - tm l i) / 16 := by
        unfold lo2 mn
        have := h.2.2.2.2.2 (by omega)
        rw [if_neg (by omega)]
      have q2 : hi2 l x y t i = 100 * lv l i + 100 - 1 + -(-(y * (t - tm l i)) / 16) := by
        unfold hi2 mx
        have := h.2.2.2.2.2 (by omega)
        by_cases g : x * (t - tm l i) < y * (t - tm l i)
        · rw [if_pos g]; omega
        · rw [if_neg g, show x * (t - tm l i) = y * (t - tm l i) by omega]; omega
      rw [q1, q2] at next
      rw [hts_step, q1, q2]
      exact next
def heights (l : List S40) (x y t : Int) : Int × Int := hts l x y t l.length 0 0 60000
theorem heights_val (l : List S40) (t : Int) (k : Nat) (hk : 5000 ≤ k) : climb_Heights.f k l t =
    some (if code l = 0 then (if (rates l).2 < (rates l).1 then (0, 0, 8) else if 0 ≤ t ∧ t ≤ 200000 then told (heights l (rates l).1 (rates l).2 t) else (0, 0, 4)) else (0, 0, code l)) := by
  unfold climb_Heights.f
  rw [rates_val l k hk]
  simp only [Option.bind_some]
  by_cases h : code l = 0
  · rw [if_pos h, if_pos h]
    have hv := valid_of l h
    have hl := hv.1
    unfold told
    by_cases h1 : (rates l).2 < (rates l).1
    · rw [if_pos h1, if_neg (by decide), if_pos h1]
    · rw [if_neg h1, if_pos rfl, if_neg h1]
      obtain ⟨k, rfl⟩ : ∃ m, k = m + 1 := ⟨k - 1, by omega⟩
      by_cases ht : 0 ≤ t ∧ t ≤ 200000
      · rw [if_neg (by omega), decide_eq_false (by omega), if_pos ht]
        simp only [climb_Heights.j0]
        rw [if_neg (by decide)]
        exact heights_loop l hv _ _ t (out_bd l hv l.length 0 _ _ (by omega) (by unfold Bd; omega)) (by unfold rates at h1; omega) ht l.length 0 k 0 60000 (by omega) (by unfold Bh; omega) (by omega)
      · rw [if_neg ht]
        simp only [climb_Heights.j0]
        by_cases g : t < 0
        · rw [if_pos g]; rfl
        · rw [if_neg g, decide_eq_true (show t > 200000 by omega)]; rfl
  · rw [if_neg h, if_neg h, if_neg (show ¬ ((0, 0, code l) : Int × Int × Int).2.2 = 0 from h)]

/-! ### The law -/
theorem law_heights (l : List S40) (hv : Valid l) (x y t : Int) (hb : Bd x y) (hx : x ≤ y) (ht : 0 ≤ t ∧ t ≤ 200000) (F : Int × Int × Int) (d : Nat) : ∀ (i k : Nat) (a b : Int), i + d = l.length → Bh a b → d + 2 ≤ k → F = told (hts l x y t d i a b) →
    skywaylaw2_ClimbBounds.l2 k t F.1 F.2.1 F.2.2 x y a b l (l.length : Int) (i : Int) = some true := by
  have hl := hv.1
  induction d with
  | zero =>
    intro i k a b hi hB hk hF
    obtain ⟨k, rfl⟩ : ∃ m, k = m + 1 := ⟨k - 1, by omega⟩
    subst hF
    simp only [skywaylaw2_ClimbBounds.l2]
    rw [if_neg (by omega)]
    show (if a > b then (if (told (a, b)).2.2 = 8 then (if (told (a, b)).1 = 0 then some ((told (a, b)).2.1 == 0) else some false) else some false) else (if (told (a, b)).2.2 = 0 then (if (told (a, b)).1 = a then some ((told (a, b)).2.1 == b) else some false) else some false)) = some true
    by_cases h : b < a
    · have e : told (a, b) = (0, 0, 8) := if_pos h
      rw [e, if_pos (show a > b from h)]; rfl
    · have e : told (a, b) = (a, b, 0) := if_neg h
      rw [e, if_neg (show ¬ a > b from h)]; simp
  | succ d ih =>
    intro i k a b hi hB hk hF
    obtain ⟨k, rfl⟩ : ∃ m, k = m + 1 := ⟨k - 1, by omega⟩
    have r := hv.2.1 i (by omega)
    have h := h_bd l hv x y t hb hx ht i (by omega)
    have hlh := lohi_bd l hv x y t hb hx ht i (by omega)
    have next := ih (i + 1) k (mx a (lo2 l x y t i)) (mn b (hi2 l x y t i)) (by omega) (by unfold Bh mx mn at *; split <;> split <;> omega) (by omega) (by rw [hF, hts_step])
    rw [show ((i + 1 : Nat) : Int) = (i : Int) + 1 by omega] at next
    have b1 : -800000000000 ≤ mn (x * (t - tm l i)) (y * (t - tm l i)) ∧ mn (x * (t - tm l i)) (y * (t - tm l i)) ≤ 800000000000 := by unfold mn; split <;> omega
    have b2 : -800000000000 ≤ mx (x * (t - tm l i)) (y * (t - tm l i)) ∧ mx (x * (t - tm l i)) (y * (t - tm l i)) ≤ 800000000000 := by unfold mx; split <;> omega
    simp only [skywaylaw2_ClimbBounds.l2]
    rw [if_pos (by omega), if_pos (by omega), if_pos (by omega)]
    show ((skywayref2_Down.f (mn (wrap64 (x * wrap64 (t - tm l i))) (wrap64 (y * wrap64 (t - tm l i)))) 16).bind fun t161 => (skywayref2_Up.f (mx (wrap64 (x * wrap64 (t - tm l i))) (wrap64 (y * wrap64 (t - tm l i)))) 16).bind fun t162 =>
      skywaylaw2_ClimbBounds.l2 k t F.1 F.2.1 F.2.2 x y (mx a (wrap64 (wrap64 (100 * lv l i) + t161))) (mn b (wrap64 (wrap64 (wrap64 (100 * lv l i) + 99) + t162))) l (l.length : Int) (wrap64 ((i : Int) + 1))) = some true
    rw [w64 (t - tm l i) (by omega) (by omega), w64 (x * (t - tm l i)) (by omega) (by omega), w64 (y * (t - tm l i)) (by omega) (by omega), cb_down _ _ (by omega) (by omega) (by omega) (by omega), cb_up _ _ (by omega) (by omega) (by omega) (by omega)]
    simp only [Option.bind_some]
    unfold lo2 hi2 at hlh
    rw [w64 (100 * lv l i) (by omega) (by omega), w64 (100 * lv l i + 99) (by omega) (by omega), w64 ((i : Int) + 1) (by omega) (by omega), w64 (100 * lv l i + mn (x * (t - tm l i)) (y * (t - tm l i)) / 16) (by omega) (by omega),
      w64 (100 * lv l i + 99 + -((-(mx (x * (t - tm l i)) (y * (t - tm l i)))) / 16)) (by omega) (by omega)]
    exact next
/-- Behind both loops. -/
def After (l : List S40) (t : Int) (E : Int × Int × Int) (F : Int × Int × Int) : Prop :=
  E = told (rates l) ∧ F = (if (rates l).2 < (rates l).1 then (0, 0, 8) else if 0 ≤ t ∧ t ≤ 200000 then told (heights l (rates l).1 (rates l).2 t) else (0, 0, 4))
theorem law_end (l : List S40) (hv : Valid l) (t : Int) (E F : Int × Int × Int) (hA : After l t E F) (k : Nat) (hk : 100 ≤ k) :
    skywaylaw2_ClimbBounds.l0 k l t E.1 E.2.1 E.2.2 F.1 F.2.1 F.2.2 (rates l).1 (rates l).2 (l.length : Int) (l.length : Int) = some true := by
  have hl := hv.1
  obtain ⟨k, rfl⟩ : ∃ m, k = m + 2 := ⟨k - 2, by omega⟩
  obtain ⟨rfl, rfl⟩ := hA
  have hb := out_bd l hv l.length 0 (-3200) 3200 (by omega) (by unfold Bd; omega)
  simp only [skywaylaw2_ClimbBounds.l0]
  rw [if_neg (show ¬ (l.length : Int) < (l.length : Int) by omega)]
  by_cases h1 : (rates l).2 < (rates l).1
  · unfold told
    rw [if_pos h1, if_pos (show (rates l).1 > (rates l).2 from h1), if_pos h1]
    simp
  · have e : told (rates l) = ((rates l).1, (rates l).2, 0) := by unfold told; rw [if_neg h1]
    rw [e, if_neg h1, if_neg (show ¬ (rates l).1 > (rates l).2 from h1)]
    simp only [if_true]
    rw [show ((rates l).2 != (rates l).2) = false by simp]
    simp only [skywaylaw2_ClimbBounds.j3]
    rw [if_neg (show ¬ false = true by decide), cb_in]
    simp only [Option.bind_some]
    by_cases ht : 0 ≤ t ∧ t ≤ 200000
    · rw [decide_eq_true ht, if_pos rfl, if_pos ht]
      exact law_heights l hv (rates l).1 (rates l).2 t hb (by omega) ht _ l.length 0 k 0 60000 (by omega) (by unfold Bh; omega) (by omega) rfl
    · rw [decide_eq_false ht, if_neg (show ¬ false = true by decide), if_neg ht]
      rfl
theorem law_inner (l : List S40) (hv : Valid l) (t : Int) (E F : Int × Int × Int) (i : Nat) (hi : i < l.length) (d : Nat) : ∀ (j k : Nat) (a b : Int), j + d = i → Bd a b → 1 ≤ k →
    skywaylaw2_ClimbBounds.l1 (k + d + 1) l t E.1 E.2.1 E.2.2 F.1 F.2.1 F.2.2 a b (i : Int) (l.length : Int) (i : Int) (i : Int) (j : Int) = skywaylaw2_ClimbBounds.l0 k l t E.1 E.2.1 E.2.2 F.1 F.2.1 F.2.2 (inn l i d j a b).1 (inn l i d j a b).2 (l.length : Int) ((i : Int) + 1) := by
  have hl := hv.1
  induction d with
  | zero =>
    intro j k a b hj hb hk
    rw [show k + 0 + 1 = k + 1 by omega]
    obtain rfl : j = i := by omega
    simp only [skywaylaw2_ClimbBounds.l1]
    rw [if_neg (by omega), w64 ((j : Int) + 1) (by omega) (by omega)]
    rfl
  | succ d ih =>
    intro j k a b hj hb hk
    have hp := pair_bd l hv i j (by omega) hi
    have r1 := hv.2.1 i hi
    have r2 := hv.2.1 j (by omega)
    have n1 : 16 * (100 * lv l i - 100 * lv l j) = 16 * num l i j := rfl
    have n3 : tm l i - tm l j = dif l i j := rfl
    obtain ⟨K, hK⟩ : ∃ K, K = k + d + 1 := ⟨_, rfl⟩
    rw [show k + (d + 1) + 1 = K + 1 by omega, inn_step]
    simp only [skywaylaw2_ClimbBounds.l1]
    rw [if_pos (by omega), if_pos (by omega), if_pos (by omega), if_pos (by omega), if_pos (by omega)]
    show ((skywayref2_Down.f (wrap64 (wrap64 (16 * wrap64 (wrap64 (100 * lv l i) - wrap64 (100 * lv l j))) - 1584)) (wrap64 (tm l i - tm l j))).bind fun t156 => (skywayref2_Up.f (wrap64 (wrap64 (16 * wrap64 (wrap64 (100 * lv l i) - wrap64 (100 * lv l j))) + 1584)) (wrap64 (tm l i - tm l j))).bind fun t157 =>
      skywaylaw2_ClimbBounds.l1 K l t E.1 E.2.1 E.2.2 F.1 F.2.1 F.2.2 (mx a t156) (mn b t157) (i : Int) (l.length : Int) (i : Int) (i : Int) (wrap64 ((j : Int) + 1))) = _
    rw [w64 (100 * lv l i) (by omega) (by omega), w64 (100 * lv l j) (by omega) (by omega), w64 (100 * lv l i - 100 * lv l j) (by omega) (by omega), w64 (16 * (100 * lv l i - 100 * lv l j)) (by omega) (by omega), n1,
      w64 (16 * num l i j - 1584) (by omega) (by omega), w64 (16 * num l i j + 1584) (by omega) (by omega), w64 (tm l i - tm l j) (by omega) (by omega), n3, cb_down _ _ hp.1 (by omega) (by omega) (by omega), cb_up _ _ hp.1 (by omega) (by omega) (by omega)]
    simp only [Option.bind_some]
    rw [w64 ((j : Int) + 1) (by omega) (by omega)]
    have this := ih (j + 1) k (mx a (lo1 l i j)) (mn b (hi1 l i j)) (by omega) (step_bd l hv i j (by omega) hi a b hb) hk
    rw [show ((j + 1 : Nat) : Int) = (j : Int) + 1 by omega, ← hK] at this
    exact this
theorem law_outer (l : List S40) (hv : Valid l) (t : Int) (E F : Int × Int × Int) (hA : After l t E F) (d : Nat) : ∀ (i k : Nat) (a b : Int), i + d = l.length → Bd a b → 70 * d + 200 ≤ k → out l d i a b = rates l →
    skywaylaw2_ClimbBounds.l0 k l t E.1 E.2.1 E.2.2 F.1 F.2.1 F.2.2 a b (l.length : Int) (i : Int) = some true := by
  have hl := hv.1
  induction d with
  | zero =>
    intro i k a b hi hb hk ho
    obtain rfl : i = l.length := by omega
    have := law_end l hv t E F hA k (by omega)
    rw [← ho] at this
    exact this
  | succ d ih =>
    intro i k a b hi hb hk ho
    obtain ⟨k, rfl⟩ : ∃ m, k = (m + i + 1) + 1 := ⟨k - i - 2, by omega⟩
    simp only [skywaylaw2_ClimbBounds.l0]
    rw [if_pos (by omega)]
    have := law_inner l hv t E F i (by omega) i 0 k a b (by omega) hb (by omega)
    rw [show ((0 : Nat) : Int) = 0 from rfl] at this
    rw [this]
    rw [out_step] at ho
    have e := ih (i + 1) k _ _ (by omega) (inn_bd l hv i (by omega) i 0 a b (by omega) hb) (by omega) ho
    rw [show ((i + 1 : Nat) : Int) = (i : Int) + 1 by omega] at e
    exact e

theorem ClimbBounds : ClimbBounds.Stmt := by
  intro l t _ _
  obtain ⟨N, hN⟩ : ∃ N, N = 10000 := ⟨_, rfl⟩
  refine ⟨N + 1, ?_⟩
  unfold skywaylaw2_ClimbBounds.f
  rw [rates_val _ _ (by omega)]
  simp only [Option.bind_some]
  have f1 : (if code [(⟨0, 10⟩ : S40), (⟨100, 20⟩ : S40)] = 0 then told (rates [(⟨0, 10⟩ : S40), (⟨100, 20⟩ : S40)]) else (0, 0, code [(⟨0, 10⟩ : S40), (⟨100, 20⟩ : S40)])) = (144, 176, 0) := by decide
  rw [f1]
  simp only [if_true]
  rw [show ((176 : Int) != 176) = false by decide]
  simp only [skywaylaw2_ClimbBounds.j0]
  rw [if_neg (show ¬ false = true by decide), rates_val l N (by omega), heights_val l t N (by omega), error_val l N (by omega), check_val l N (by omega)]
  simp only [Option.bind_some]
  by_cases h : code l = 0
  · have hv := valid_of l h
    have hl := hv.1
    rw [if_pos h, if_pos h, if_pos h]
    exact law_outer l hv t _ _ ⟨rfl, rfl⟩ l.length 0 N (-3200) 3200 (by omega) (by unfold Bd; omega) (by omega) rfl
  · rw [if_neg h, if_neg h, if_neg h]
    simp

end Go.Proofs.Ytpndjpjpmcehbaa.Pure
