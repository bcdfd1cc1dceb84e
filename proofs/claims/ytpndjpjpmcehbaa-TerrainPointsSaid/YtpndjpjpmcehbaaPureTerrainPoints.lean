/- What is proved: for every grid, place and radius, terrain.Check, Height and Highest return what the reference finds point by point. No condition. -/
import Derived.Test.YtpndjpjpmcehbaaStTerrainPoints
import Derived.Test.YtpndjpjpmcehbaaAid
namespace Go.Proofs.Ytpndjpjpmcehbaa.Pure
open Go.RowKit Go.Proofs.Ytpndjpjpmcehbaa.PTerrainPoints Go.Proofs.YtpndjpjpmcehbaaW.PrintWords Go.Proofs.YtpndjpjpmcehbaaW.PrintLast Go.Proofs.YtpndjpjpmcehbaaW.PrintMore Go.Proofs.Ytpndjpjpmcehbaa.Aid
set_option linter.unusedVariables false

theorem tp_in (a b c : Int) : skywayref2_In.f a b c = some (decide (b ≤ a ∧ a ≤ c)) := by
  unfold skywayref2_In.f
  by_cases h : a ≥ b
  · rw [if_pos h]; simp; omega
  · rw [if_neg h]; simp; omega
theorem divdown_val (k : Nat) (hk : 1 ≤ k) (a b : Int) (hb : 0 < b) (h0 : -1000000000000 ≤ a) (h1 : a ≤ 1000000000000) (hb' : b ≤ 1000000) : num_DivDown.f k a b = some (a / b, 0) := by
  obtain ⟨k, rfl⟩ : ∃ m, k = m + 1 := ⟨k - 1, by omega⟩
  have h2 := tdiv_abs a b 1000000000000 hb h0 h1
  have h3 := floor_cases a b hb
  unfold num_DivDown.f
  rw [if_neg (by omega), if_neg (by omega)]
  simp only [num_DivDown.j0]
  rw [if_neg (by decide), if_neg (by omega), w64 (Int.tdiv a b) (by omega) (by omega), w64 (Int.tdiv a b - 1) (by omega) (by omega), h3]
  by_cases h : Int.tmod a b = 0
  · rw [if_pos h, if_pos h]
  · rw [if_neg h, if_neg h, decide_eq_false (show ¬ b < 0 by omega)]
    by_cases g : a < 0
    · rw [decide_eq_true g, if_pos (by decide), if_pos g]
    · rw [decide_eq_false g, if_neg (by decide), if_neg g]

/-! ### The check, twice -/
abbrev Pl (x y : Int) : Prop := -1000000 ≤ x ∧ x ≤ 1000000 ∧ -1000000 ≤ y ∧ y ≤ 1000000
abbrev Par (ax ay sz nx ny : Int) : Prop := Pl ax ay ∧ 1 ≤ sz ∧ sz ≤ 1000000 ∧ 1 ≤ nx ∧ nx ≤ 32 ∧ 1 ≤ ny ∧ ny ≤ 32
theorem placed_val (x y : Int) : skywayref2_Placed.f x y = some (decide (Pl x y)) := by
  simp only [skywayref2_Placed.f, tp_in, Option.bind_some, decide_eq_true_eq]
  split
  · congr 1; rw [decide_eq_decide]; omega
  · rw [decide_eq_false (by omega)]
/-- The error of the heights from number i on. -/
def herr (hs : List Int) : Nat → Nat → Int
  | 0, _ => 0
  | d + 1, i => if 0 ≤ rd hs i ∧ rd hs i ≤ 60000 then herr hs d (i + 1) else 4
theorem herr_step (hs : List Int) (d i : Nat) : herr hs (d + 1) i = if 0 ≤ rd hs i ∧ rd hs i ≤ 60000 then herr hs d (i + 1) else 4 := rfl
theorem herr_zero (hs : List Int) (d : Nat) : ∀ i, herr hs d i = 0 → ∀ j : Nat, i ≤ j → j < i + d → 0 ≤ rd hs j ∧ rd hs j ≤ 60000 := by
  induction d with
  | zero => intro i _ j h1 h2; omega
  | succ d ih =>
    intro i h j h1 h2
    rw [herr_step] at h
    by_cases c : 0 ≤ rd hs i ∧ rd hs i ≤ 60000
    · rw [if_pos c] at h
      rcases Nat.lt_or_ge i j with h3 | h3
      · exact ih (i + 1) h j (by omega) (by omega)
      · obtain rfl : i = j := by omega
        exact c
    · rw [if_neg c] at h; omega
theorem check_loop (hs : List Int) (hl : hs.length ≤ 2000) (d : Nat) : ∀ (i k : Nat), i + d = hs.length → d + 1 ≤ k → terrain_Check.l0 k hs (hs.length : Int) (i : Int) = some (herr hs d i) := by
  induction d with
  | zero =>
    intro i k h hk
    obtain ⟨k, rfl⟩ : ∃ m, k = m + 1 := ⟨k - 1, by omega⟩
    simp only [terrain_Check.l0]
    rw [if_neg (by omega)]; rfl
  | succ d ih =>
    intro i k h hk
    obtain ⟨k, rfl⟩ : ∃ m, k = m + 1 := ⟨k - 1, by omega⟩
    have e := ih (i + 1) k (by omega) (by omega)
    rw [show ((i + 1 : Nat) : Int) = (i : Int) + 1 by omega] at e
    simp only [terrain_Check.l0]
    rw [if_pos (by omega), if_pos (by omega), if_pos (by omega), w64 ((i : Int) + 1) (by omega) (by omega), e, herr_step]
    refine els (fun _ => by rw [if_neg (by omega)]) fun _ => ?_
    refine els (fun _ => by rw [if_neg (by omega)]) fun _ => ?_
    rw [if_pos (by omega)]
theorem error_loop (hs : List Int) (hl : hs.length ≤ 2000) (d : Nat) : ∀ (i k : Nat), i + d = hs.length → d + 1 ≤ k → skywayref2_GridError.l0 k hs (hs.length : Int) (i : Int) = some (herr hs d i) := by
  induction d with
  | zero =>
    intro i k h hk
    obtain ⟨k, rfl⟩ : ∃ m, k = m + 1 := ⟨k - 1, by omega⟩
    simp only [skywayref2_GridError.l0]
    rw [if_neg (by omega)]; rfl
  | succ d ih =>
    intro i k h hk
    obtain ⟨k, rfl⟩ : ∃ m, k = m + 1 := ⟨k - 1, by omega⟩
    have e := ih (i + 1) k (by omega) (by omega)
    rw [show ((i + 1 : Nat) : Int) = (i : Int) + 1 by omega] at e
    simp only [skywayref2_GridError.l0]
    rw [if_pos (by omega), if_pos (by omega), if_pos (by omega), w64 ((i : Int) + 1) (by omega) (by omega), e, herr_step, tp_in]
    simp only [Option.bind_some, decide_eq_true_eq]
    by_cases c : 0 ≤ rd hs i ∧ rd hs i ≤ 60000
    · rw [if_pos c, if_pos c]
    · rw [if_neg c, if_neg c]
def code (ax ay sz nx ny : Int) (hs : List Int) : Int := if Par ax ay sz nx ny then (if (hs.length : Int) = nx * ny then herr hs hs.length 0 else 3) else 4

section
variable (ax ay sz nx ny : Int) (hs : List Int)
theorem check_j1 (k : Nat) (hk : 1200 ≤ k) (b : Bool) (hb : b = false → Par ax ay sz nx ny) (hb' : b = true → ¬ Par ax ay sz nx ny) : terrain_Check.j1 k b ax ay sz nx ny hs = some (code ax ay sz nx ny hs) := by
  obtain ⟨k, rfl⟩ : ∃ m, k = m + 1 := ⟨k - 1, by omega⟩
  simp only [terrain_Check.j1]
  unfold code
  cases b with
  | true => rw [if_pos rfl, if_neg (hb' rfl)]
  | false =>
    have hp := hb rfl
    have hm := mul_bd nx ny 32 32 (by omega) (by omega) (by omega) (by omega)
    rw [if_neg (by decide), if_pos hp, w64 (nx * ny) (by omega) (by omega)]
    by_cases h : (hs.length : Int) = nx * ny
    · rw [if_pos h, if_pos h]
      exact check_loop hs (by omega) hs.length 0 k (by omega) (by omega)
    · rw [if_neg h, if_neg h]
theorem check_j0 (k : Nat) (hk : 1201 ≤ k) (b : Bool) (hb : b = false → 1 ≤ sz ∧ sz ≤ 1000000 ∧ 1 ≤ nx ∧ nx ≤ 32 ∧ 1 ≤ ny ∧ ny ≤ 32) (hb' : b = true → ¬ (1 ≤ sz ∧ sz ≤ 1000000 ∧ 1 ≤ nx ∧ nx ≤ 32 ∧ 1 ≤ ny ∧ ny ≤ 32)) :
    terrain_Check.j0 k b ax ay sz nx ny hs = some (code ax ay sz nx ny hs) := by
  obtain ⟨k, rfl⟩ : ∃ m, k = m + 1 := ⟨k - 1, by omega⟩
  simp only [terrain_Check.j0]
  cases b with
  | true =>
    rw [if_pos rfl]
    exact check_j1 ax ay sz nx ny hs k (by omega) true (fun h => by cases h) (fun _ h => hb' rfl h.2)
  | false =>
    have hp := hb rfl
    rw [if_neg (by decide)]
    refine els (fun _ => check_j1 ax ay sz nx ny hs k (by omega) true (fun h => by cases h) (fun _ => by omega)) fun _ => ?_
    refine els (fun _ => check_j1 ax ay sz nx ny hs k (by omega) true (fun h => by cases h) (fun _ => by omega)) fun _ => ?_
    refine els (fun _ => check_j1 ax ay sz nx ny hs k (by omega) true (fun h => by cases h) (fun _ => by omega)) fun _ => ?_
    refine check_j1 ax ay sz nx ny hs k (by omega) _ (fun h => ?_) (fun h => ?_)
    · have := of_decide_eq_false h; omega
    · have := of_decide_eq_true h; omega
theorem check_val (k : Nat) (hk : 1201 ≤ k) : terrain_Check.f k ax ay sz nx ny hs = some (code ax ay sz nx ny hs) := by
  unfold terrain_Check.f
  refine els (fun _ => check_j0 ax ay sz nx ny hs k hk true (fun h => by cases h) (fun _ => by omega)) fun _ => ?_
  refine els (fun _ => check_j0 ax ay sz nx ny hs k hk true (fun h => by cases h) (fun _ => by omega)) fun _ => ?_
  refine els (fun _ => check_j0 ax ay sz nx ny hs k hk true (fun h => by cases h) (fun _ => by omega)) fun _ => ?_
  refine els (fun _ => check_j0 ax ay sz nx ny hs k hk true (fun h => by cases h) (fun _ => by omega)) fun _ => ?_
  refine els (fun _ => check_j0 ax ay sz nx ny hs k hk true (fun h => by cases h) (fun _ => by omega)) fun _ => ?_
  refine check_j0 ax ay sz nx ny hs k hk _ (fun h => ?_) (fun h => ?_)
  · have := of_decide_eq_false h; omega
  · have := of_decide_eq_true h; omega
theorem err_j0 (k : Nat) (hk : 1201 ≤ k) (b : Bool) (hb : b = false → Par ax ay sz nx ny) (hb' : b = true → ¬ Par ax ay sz nx ny) : skywayref2_GridError.j0 k b ax ay sz nx ny hs = some (code ax ay sz nx ny hs) := by
  obtain ⟨k, rfl⟩ : ∃ m, k = m + 1 := ⟨k - 1, by omega⟩
  simp only [skywayref2_GridError.j0]
  unfold code
  cases b with
  | true => rw [if_pos rfl, if_neg (hb' rfl)]
  | false =>
    have hp := hb rfl
    have hm := mul_bd nx ny 32 32 (by omega) (by omega) (by omega) (by omega)
    rw [if_neg (by decide), if_pos hp, w64 (nx * ny) (by omega) (by omega)]
    by_cases h : (hs.length : Int) = nx * ny
    · rw [if_pos h, if_pos h]
      exact error_loop hs (by omega) hs.length 0 k (by omega) (by omega)
    · rw [if_neg h, if_neg h]
theorem error_val (k : Nat) (hk : 1201 ≤ k) : skywayref2_GridError.f k ax ay sz nx ny hs = some (code ax ay sz nx ny hs) := by
  simp only [skywayref2_GridError.f, tp_in, placed_val, Option.bind_some, decide_eq_true_eq]
  refine els (fun _ => ?_) (fun _ => err_j0 ax ay sz nx ny hs k hk true (fun h => by cases h) (fun _ => by omega))
  refine els (fun _ => ?_) (fun _ => err_j0 ax ay sz nx ny hs k hk true (fun h => by cases h) (fun _ => by omega))
  refine els (fun _ => ?_) (fun _ => err_j0 ax ay sz nx ny hs k hk true (fun h => by cases h) (fun _ => by omega))
  refine err_j0 ax ay sz nx ny hs k hk _ (fun h => ?_) (fun h => ?_)
  · have := of_decide_eq_true (by simpa using h); omega
  · have : ¬ Pl ax ay := fun h' => by rw [decide_eq_true h'] at h; exact absurd h (by decide)
    omega
structure Grid : Prop where
  par : Par ax ay sz nx ny
  len : (hs.length : Int) = nx * ny
  rng : ∀ j : Nat, j < hs.length → 0 ≤ rd hs j ∧ rd hs j ≤ 60000
theorem grid_of (h : code ax ay sz nx ny hs = 0) : Grid ax ay sz nx ny hs := by
  unfold code at h
  by_cases h1 : Par ax ay sz nx ny
  · rw [if_pos h1] at h
    by_cases h2 : (hs.length : Int) = nx * ny
    · rw [if_pos h2] at h
      exact ⟨h1, h2, fun j hj => herr_zero hs hs.length 0 h j (by omega) (by omega)⟩
    · rw [if_neg h2] at h; omega
  · rw [if_neg h1] at h; omega

/-! ### The height of a place -/
abbrev Near (x y : Int) : Prop := -2000000 ≤ x ∧ x ≤ 2000000 ∧ -2000000 ≤ y ∧ y ≤ 2000000
def cx (x : Int) : Int := (x - ax) / sz
abbrev Inside (x y : Int) : Prop := 0 ≤ cx ax sz x ∧ cx ax sz x < nx ∧ 0 ≤ cx ay sz y ∧ cx ay sz y < ny
def gr (x y : Int) : Int := if Inside ax ay sz nx ny x y then rd hs (cx ay sz y * nx + cx ax sz x) else 0
theorem index_bd (g : Grid ax ay sz nx ny hs) (a b : Int) (h1 : 0 ≤ a) (h2 : a < nx) (h3 : 0 ≤ b) (h4 : b < ny) : 0 ≤ b * nx + a ∧ b * nx + a < (hs.length : Int) ∧ b * nx ≤ 1024 := by
  have hp := g.par
  have h5 : (b + 1) * nx ≤ ny * nx := Int.mul_le_mul_of_nonneg_right (by omega) (by omega)
  have h6 := mul_bd b nx 32 32 h3 (by omega) (by omega) (by omega)
  rw [Int.add_mul, Int.one_mul, Int.mul_comm ny nx, ← g.len] at h5
  omega
/-- A coordinate is in a cell: that cell is the quotient. -/
theorem in_cell (h0 : 0 < sz) (x c : Int) : (0 ≤ x - ax - c * sz ∧ x - ax - c * sz ≤ sz - 1) ↔ c = cx ax sz x := by
  unfold cx
  have h := floor_spec (x - ax) sz h0
  constructor
  · intro h1
    exact (floor_unique (x - ax) sz c h0 (by omega) (by rw [Int.add_mul, Int.one_mul]; omega)).symm
  · rintro rfl; omega
theorem height_val (g : Grid ax ay sz nx ny hs) (k : Nat) (hk : 1300 ≤ k) (x y : Int) : terrain_Height.f k ax ay sz nx ny hs x y = some (if Pl x y then (gr ax ay sz nx ny hs x y, 0) else (0, 4)) := by
  have hp := g.par
  have hj : ∀ b, (b = false → Pl x y) → (b = true → ¬ Pl x y) → terrain_Height.j0 k b ax ay sz nx ny hs x y = some (if Pl x y then (gr ax ay sz nx ny hs x y, 0) else (0, 4)) := by
    intro b hb hb'
    obtain ⟨k, rfl⟩ : ∃ m, k = m + 1 := ⟨k - 1, by omega⟩
    simp only [terrain_Height.j0]
    cases b with
    | true => rw [if_pos rfl, if_neg (hb' rfl)]
    | false =>
      have hxy := hb rfl
      have e1 := ediv_abs (x - ax) sz 2000000 (by omega) (by omega) (by omega)
      have e2 := ediv_abs (y - ay) sz 2000000 (by omega) (by omega) (by omega)
      unfold terrain_cell.f
      rw [if_neg (by decide), if_pos hxy, w64 (x - ax) (by omega) (by omega), w64 (y - ay) (by omega) (by omega), divdown_val k (by omega) _ _ (by omega) (by omega) (by omega) (by omega), divdown_val k (by omega) _ _ (by omega) (by omega) (by omega) (by omega)]
      simp only [Option.bind_some]
      unfold gr
      show (if cx ax sz x < 0 then _ else if cx ax sz x ≥ nx then _ else if cx ay sz y < 0 then _ else if cx ay sz y ≥ ny then _ else if 0 ≤ wrap64 (wrap64 (cx ay sz y * nx) + cx ax sz x) then (if wrap64 (wrap64 (cx ay sz y * nx) + cx ax sz x) < (hs.length : Int) then some (rd hs (wrap64 (wrap64 (cx ay sz y * nx) + cx ax sz x)), (0 : Int)) else none) else none) = _
      refine els (fun _ => by rw [if_neg (by omega)]) fun _ => ?_
      refine els (fun _ => by rw [if_neg (by omega)]) fun _ => ?_
      refine els (fun _ => by rw [if_neg (by omega)]) fun _ => ?_
      refine els (fun _ => by rw [if_neg (by omega)]) fun _ => ?_
      have hi := index_bd ax ay sz nx ny hs g (cx ax sz x) (cx ay sz y) (by omega) (by omega) (by omega) (by omega)
      rw [w64 (cx ay sz y * nx) (by omega) (by omega), w64 (cx ay sz y * nx + cx ax sz x) (by omega) (by omega), if_pos (by omega), if_pos (by omega), if_pos (show Inside ax ay sz nx ny x y by omega)]
  unfold terrain_Height.f
  have hc : terrain_Check.f k ax ay sz nx ny hs = some 0 := by
    rw [check_val ax ay sz nx ny hs k (by omega)]
    unfold code
    rw [if_pos hp, if_pos g.len]
    congr 1
    have : ∀ d i, i + d ≤ hs.length → herr hs d i = 0 := by
      intro d
      induction d with
      | zero => intro i _; rfl
      | succ d ih => intro i hi; rw [herr_step, if_pos (g.rng i (by omega))]; exact ih (i + 1) (by omega)
    exact this hs.length 0 (by omega)
  rw [hc]
  simp only [Option.bind_some, if_true]
  refine els (fun _ => hj true (fun h => by cases h) (fun _ => by omega)) fun _ => ?_
  refine els (fun _ => hj true (fun h => by cases h) (fun _ => by omega)) fun _ => ?_
  refine els (fun _ => hj true (fun h => by cases h) (fun _ => by omega)) fun _ => ?_
  refine hj _ (fun h => ?_) (fun h => ?_)
  · have := of_decide_eq_false h; omega
  · have := of_decide_eq_true h; omega

/-- One row of the reference's search. -/
theorem ground_row (g : Grid ax ay sz nx ny hs) (x y : Int) (hn : Near x y) (r : Nat) (hr : (r : Int) < ny) (d : Nat) : ∀ (j k : Nat), (j : Int) + d = nx →
    skywayref2_Ground.l1 (k + d + 1) (r : Int) ny (r : Int) nx (j : Int) ax ay sz nx ny hs x y =
      if (r : Int) = cx ay sz y ∧ (j : Int) ≤ cx ax sz x ∧ cx ax sz x < nx then some (rd hs ((r : Int) * nx + cx ax sz x)) else skywayref2_Ground.l0 k ny ((r : Int) + 1) ax ay sz nx ny hs x y := by
  have hp := g.par
  induction d with
  | zero =>
    intro j k hj
    rw [show k + 0 + 1 = k + 1 by omega]
    simp only [skywayref2_Ground.l1]
    rw [if_neg (by omega), w64 ((r : Int) + 1) (by omega) (by omega), if_neg (by omega)]
  | succ d ih =>
    intro j k hj
    obtain ⟨K, hK⟩ : ∃ K, K = k + d + 1 := ⟨_, rfl⟩
    have next := ih (j + 1) k (by omega)
    rw [show ((j + 1 : Nat) : Int) = (j : Int) + 1 by omega, ← hK] at next
    have m1 := mul_bd (j : Int) sz 32 1000000 (by omega) (by omega) (by omega) (by omega)
    have m2 := mul_bd (r : Int) sz 32 1000000 (by omega) (by omega) (by omega) (by omega)
    have c1 := in_cell ax sz (by omega) x j
    have c2 := in_cell ay sz (by omega) y r
    rw [show k + (d + 1) + 1 = K + 1 by omega]
    simp only [skywayref2_Ground.l1]
    rw [if_pos (by omega), w64 (x - ax) (by omega) (by omega), w64 ((j : Int) * sz) (by omega) (by omega), w64 (x - ax - (j : Int) * sz) (by omega) (by omega), w64 (y - ay) (by omega) (by omega), w64 ((r : Int) * sz) (by omega) (by omega), w64 (y - ay - (r : Int) * sz) (by omega) (by omega),
      w64 (sz - 1) (by omega) (by omega), tp_in, tp_in, w64 ((j : Int) + 1) (by omega) (by omega), next]
    simp only [Option.bind_some, decide_eq_true_eq]
    by_cases h1 : 0 ≤ x - ax - (j : Int) * sz ∧ x - ax - (j : Int) * sz ≤ sz - 1
    · have e1 := c1.1 h1
      rw [if_pos h1]
      by_cases h2 : 0 ≤ y - ay - (r : Int) * sz ∧ y - ay - (r : Int) * sz ≤ sz - 1
      · have e2 := c2.1 h2
        have hi := index_bd ax ay sz nx ny hs g (j : Int) (r : Int) (by omega) (by omega) (by omega) hr
        rw [if_pos h2, w64 ((r : Int) * nx) (by omega) (by omega), w64 ((r : Int) * nx + (j : Int)) (by omega) (by omega), if_pos (by omega), if_pos (by omega), if_pos (by omega), ← e1]
      · have e2 : ¬ (r : Int) = cx ay sz y := fun h => h2 (c2.2 h)
        rw [if_neg h2, if_neg (by omega), if_neg (by omega)]
    · have e1 : ¬ (j : Int) = cx ax sz x := fun h => h1 (c1.2 h)
      rw [if_neg h1]
      by_cases h3 : (r : Int) = cx ay sz y ∧ (j : Int) + 1 ≤ cx ax sz x ∧ cx ax sz x < nx
      · rw [if_pos h3, if_pos (by omega)]
      · rw [if_neg h3, if_neg (by omega)]
theorem ground_from (g : Grid ax ay sz nx ny hs) (x y : Int) (hn : Near x y) (d : Nat) : ∀ (r k : Nat), (r : Int) + d = ny → 40 * d + 1 ≤ k →
    skywayref2_Ground.l0 k ny (r : Int) ax ay sz nx ny hs x y = some (if (r : Int) ≤ cx ay sz y ∧ cx ay sz y < ny ∧ 0 ≤ cx ax sz x ∧ cx ax sz x < nx then rd hs (cx ay sz y * nx + cx ax sz x) else 0) := by
  have hp := g.par
  induction d with
  | zero =>
    intro r k hr hk
    obtain ⟨k, rfl⟩ : ∃ m, k = m + 1 := ⟨k - 1, by omega⟩
    simp only [skywayref2_Ground.l0]
    rw [if_neg (by omega), if_neg (by omega)]
  | succ d ih =>
    intro r k hr hk
    obtain ⟨k, rfl⟩ : ∃ m, k = (m + nx.toNat + 1) + 1 := ⟨k - nx.toNat - 2, by omega⟩
    obtain ⟨K, hK⟩ : ∃ K, K = k + nx.toNat + 1 := ⟨_, rfl⟩
    have row := ground_row ax ay sz nx ny hs g x y hn r (by omega) nx.toNat 0 k (by omega)
    have next := ih (r + 1) k (by omega) (by omega)
    rw [show ((r + 1 : Nat) : Int) = (r : Int) + 1 by omega] at next
    rw [next, ← hK, show ((0 : Nat) : Int) = 0 from rfl] at row
    rw [← hK]
    simp only [skywayref2_Ground.l0]
    rw [if_pos (by omega), row]
    by_cases h : (r : Int) = cx ay sz y ∧ (0 : Int) ≤ cx ax sz x ∧ cx ax sz x < nx
    · rw [if_pos h, if_pos (by omega), h.1]
    · rw [if_neg h]
      by_cases h3 : (r : Int) + 1 ≤ cx ay sz y ∧ cx ay sz y < ny ∧ 0 ≤ cx ax sz x ∧ cx ax sz x < nx
      · rw [if_pos h3, if_pos (by omega)]
      · rw [if_neg h3, if_neg (by omega)]
theorem ground_val (g : Grid ax ay sz nx ny hs) (x y : Int) (hn : Near x y) (k : Nat) (hk : 1300 ≤ k) : skywayref2_Ground.f k ax ay sz nx ny hs x y = some (gr ax ay sz nx ny hs x y) := by
  have hp := g.par
  unfold skywayref2_Ground.f gr
  have := ground_from ax ay sz nx ny hs g x y hn ny.toNat 0 k (by omega) (by omega)
  rw [show ((0 : Nat) : Int) = 0 from rfl] at this
  rw [this]
  congr 1
  by_cases h : Inside ax ay sz nx ny x y
  · rw [if_pos h, if_pos (by omega)]
  · rw [if_neg h, if_neg (by omega)]

/-! ### The highest cell that a disk touches -/
def outs (n lo hi : Int) : Int := mx (mx (lo - n) (n - hi)) 0
def ux (x r c : Int) : Int := outs x (ax + c * sz) (ax + c * sz + sz - 1)
abbrev Touch (x y r a b : Int) : Prop := ux ax sz x r a ≤ r ∧ ux ay sz y r b ≤ r ∧ ux ax sz x r a * ux ax sz x r a + ux ay sz y r b * ux ay sz y r b ≤ r * r
theorem outs_bd (n lo hi B : Int) (h1 : -B ≤ n) (h2 : n ≤ B) (h3 : -B ≤ lo) (h4 : lo ≤ B) (h5 : -B ≤ hi) (h6 : hi ≤ B) : 0 ≤ outs n lo hi ∧ outs n lo hi ≤ 2 * B := by
  unfold outs mx
  repeat' split
  all_goals omega
theorem touch_val (g : Par ax ay sz nx ny) (x y r a b : Int) (hn : Pl x y) (h1 : 0 ≤ a) (h2 : a ≤ 32) (h3 : 0 ≤ b) (h4 : b ≤ 2000) (hr : 0 ≤ r) (hr' : r ≤ 4000000) : terrain_touches.f ax ay sz nx ny hs a b x y r = some (decide (Touch ax ay sz x y r a b)) := by
  have m1 := mul_bd a sz 32 1000000 (by omega) (by omega) (by omega) (by omega)
  have m2 := mul_bd b sz 2000 1000000 (by omega) (by omega) (by omega) (by omega)
  have o1 := outs_bd x (ax + a * sz) (ax + a * sz + sz - 1) 2100000000 (by omega) (by omega) (by omega) (by omega) (by omega) (by omega)
  have o2 := outs_bd y (ay + b * sz) (ay + b * sz + sz - 1) 2100000000 (by omega) (by omega) (by omega) (by omega) (by omega) (by omega)
  have hrr := mul_bd r r 4000000 4000000 (by omega) (by omega) (by omega) (by omega)
  unfold terrain_touches.f terrain_outside.f
  rw [w64 (a * sz) (by omega) (by omega), w64 (b * sz) (by omega) (by omega), w64 (ax + a * sz) (by omega) (by omega), w64 (ay + b * sz) (by omega) (by omega), w64 (ax + a * sz + sz) (by omega) (by omega), w64 (ay + b * sz + sz) (by omega) (by omega),
    w64 (ax + a * sz + sz - 1) (by omega) (by omega), w64 (ay + b * sz + sz - 1) (by omega) (by omega), w64 (ax + a * sz - x) (by omega) (by omega), w64 (ay + b * sz - y) (by omega) (by omega), w64 (x - (ax + a * sz + sz - 1)) (by omega) (by omega), w64 (y - (ay + b * sz + sz - 1)) (by omega) (by omega)]
  simp only [Option.bind_some]
  show (if ux ax sz x r a ≤ r then (if ux ay sz y r b ≤ r then some (decide (wrap64 (wrap64 (ux ax sz x r a * ux ax sz x r a) + wrap64 (ux ay sz y r b * ux ay sz y r b)) ≤ wrap64 (r * r))) else some false) else some false) = _
  have p1 : 0 ≤ ux ax sz x r a := o1.1
  have p2 : 0 ≤ ux ay sz y r b := o2.1
  by_cases c1 : ux ax sz x r a ≤ r
  · rw [if_pos c1]
    by_cases c2 : ux ay sz y r b ≤ r
    · have q1 := mul_bd (ux ax sz x r a) (ux ax sz x r a) 4000000 4000000 p1 (by omega) p1 (by omega)
      have q2 := mul_bd (ux ay sz y r b) (ux ay sz y r b) 4000000 4000000 p2 (by omega) p2 (by omega)
      rw [if_pos c2, w64 (ux ax sz x r a * ux ax sz x r a) (by omega) (by omega), w64 (ux ay sz y r b * ux ay sz y r b) (by omega) (by omega), w64 (ux ax sz x r a * ux ax sz x r a + ux ay sz y r b * ux ay sz y r b) (by omega) (by omega), w64 (r * r) (by omega) (by omega)]
      congr 1
      rw [decide_eq_decide]
      exact ⟨fun h => ⟨c1, c2, h⟩, fun h => h.2.2⟩
    · rw [if_neg c2, decide_eq_false (fun h => c2 h.2.1)]
  · rw [if_neg c1, decide_eq_false (fun h => c1 h.1)]
/-- Cell number j is touched. -/
abbrev Hit (x y r : Int) (j : Nat) : Prop := Touch ax ay sz x y r ((j : Int) % nx) ((j : Int) / nx)
theorem high_loop (g : Grid ax ay sz nx ny hs) (x y r : Int) (hn : Pl x y) (hr : 0 ≤ r) (hr' : r ≤ 4000000) (d : Nat) : ∀ (i k : Nat) (b : Int), i + d = hs.length → d + 1 ≤ k →
    ∃ M, terrain_Highest.l0 k r b hs (hs.length : Int) (i : Int) ax ay sz nx ny hs x y = some (M, 0) ∧ b ≤ M ∧ (∀ j : Nat, i ≤ j → j < hs.length → Hit ax ay sz nx x y r j → rd hs j ≤ M) ∧ (M = b ∨ ∃ j : Nat, i ≤ j ∧ j < hs.length ∧ Hit ax ay sz nx x y r j ∧ rd hs j = M) := by
  have hp := g.par
  have hm := mul_bd nx ny 32 32 (by omega) (by omega) (by omega) (by omega)
  have hlen := g.len
  induction d with
  | zero =>
    intro i k b hi hk
    obtain ⟨k, rfl⟩ : ∃ m, k = m + 1 := ⟨k - 1, by omega⟩
    refine ⟨b, ?_, by omega, fun j h1 h2 => by omega, .inl rfl⟩
    simp only [terrain_Highest.l0]
    rw [if_neg (by omega)]
  | succ d ih =>
    intro i k b hi hk
    obtain ⟨k, rfl⟩ : ∃ m, k = m + 1 := ⟨k - 1, by omega⟩
    have e1 : Int.tmod (i : Int) nx = (i : Int) % nx := Int.tmod_eq_emod_of_nonneg (by omega)
    have e2 : Int.tdiv (i : Int) nx = (i : Int) / nx := Int.tdiv_eq_ediv_of_nonneg (by omega)
    have f1 := Int.emod_nonneg (i : Int) (show nx ≠ 0 by omega)
    have f2 := Int.emod_lt_of_pos (i : Int) (show 0 < nx by omega)
    have f3 := ediv_abs (i : Int) nx 1024 (by omega) (by omega) (by omega)
    have f4 := Int.ediv_nonneg (show 0 ≤ (i : Int) by omega) (show 0 ≤ nx by omega)
    simp only [terrain_Highest.l0]
    rw [if_pos (by omega), if_pos (by omega), if_pos (by omega), e1, e2, w64 ((i : Int) / nx) (by omega) (by omega), w64 ((i : Int) + 1) (by omega) (by omega), touch_val ax ay sz nx ny hs hp x y r _ _ hn f1 (by omega) f4 (by omega) hr hr']
    simp only [Option.bind_some, decide_eq_true_eq]
    rw [if_neg (show ¬ nx = 0 by omega)]
    by_cases c1 : rd hs (i : Int) > b
    · rw [if_pos c1]
      by_cases c2 : Hit ax ay sz nx x y r i
      · rw [if_pos c2]
        obtain ⟨M, h1, h2, h3, h4⟩ := ih (i + 1) k (rd hs (i : Int)) (by omega) (by omega)
        rw [show ((i + 1 : Nat) : Int) = (i : Int) + 1 by omega] at h1
        refine ⟨M, h1, by omega, fun j hj hj' hh => ?_, ?_⟩
        · rcases Nat.lt_or_ge i j with h | h
          · exact h3 j (by omega) hj' hh
          · obtain rfl : i = j := by omega
            exact h2
        · rcases h4 with h4 | ⟨j, h5, h6, h7, h8⟩
          · exact .inr ⟨i, by omega, by omega, c2, h4.symm⟩
          · exact .inr ⟨j, by omega, h6, h7, h8⟩
      · rw [if_neg c2]
        obtain ⟨M, h1, h2, h3, h4⟩ := ih (i + 1) k b (by omega) (by omega)
        rw [show ((i + 1 : Nat) : Int) = (i : Int) + 1 by omega] at h1
        refine ⟨M, h1, by omega, fun j hj hj' hh => ?_, ?_⟩
        · rcases Nat.lt_or_ge i j with h | h
          · exact h3 j (by omega) hj' hh
          · obtain rfl : i = j := by omega
            exact absurd hh c2
        · rcases h4 with h4 | ⟨j, h5, h6, h7, h8⟩
          · exact .inl h4
          · exact .inr ⟨j, by omega, h6, h7, h8⟩
    · rw [if_neg c1]
      obtain ⟨M, h1, h2, h3, h4⟩ := ih (i + 1) k b (by omega) (by omega)
      rw [show ((i + 1 : Nat) : Int) = (i : Int) + 1 by omega] at h1
      refine ⟨M, h1, by omega, fun j hj hj' hh => ?_, ?_⟩
      · rcases Nat.lt_or_ge i j with h | h
        · exact h3 j (by omega) hj' hh
        · obtain rfl : i = j := by omega
          omega
      · rcases h4 with h4 | ⟨j, h5, h6, h7, h8⟩
        · exact .inl h4
        · exact .inr ⟨j, by omega, h6, h7, h8⟩
theorem code_zero (g : Grid ax ay sz nx ny hs) : code ax ay sz nx ny hs = 0 := by
  unfold code
  rw [if_pos g.par, if_pos g.len]
  have : ∀ d i, i + d ≤ hs.length → herr hs d i = 0 := by
    intro d
    induction d with
    | zero => intro i _; rfl
    | succ d ih => intro i hi; rw [herr_step, if_pos (g.rng i (by omega))]; exact ih (i + 1) (by omega)
  exact this hs.length 0 (by omega)
abbrev Ok (x y r : Int) : Prop := Pl x y ∧ 0 ≤ r ∧ r ≤ 4000000
theorem highest_bad (k : Nat) (hk : 1300 ≤ k) (x y r : Int) (h : code ax ay sz nx ny hs = 0 → ¬ Ok x y r) : terrain_Highest.f k ax ay sz nx ny hs x y r = some (0, if code ax ay sz nx ny hs = 0 then 4 else code ax ay sz nx ny hs) := by
  obtain ⟨k, rfl⟩ : ∃ m, k = m + 1 := ⟨k - 1, by omega⟩
  unfold terrain_Highest.f
  rw [check_val ax ay sz nx ny hs (k + 1) (by omega)]
  simp only [Option.bind_some]
  by_cases hc : code ax ay sz nx ny hs = 0
  · have h' := h hc
    rw [if_pos hc, if_pos hc]
    simp only [terrain_Highest.j0, if_true, decide_eq_true_eq]
    refine els (fun _ => rfl) fun _ => ?_
    refine els (fun _ => rfl) fun _ => ?_
    refine els (fun _ => rfl) fun _ => ?_
    refine els (fun _ => rfl) fun _ => ?_
    refine els (fun _ => rfl) fun _ => ?_
    rw [if_pos (by omega)]
  · rw [if_neg hc, if_neg hc]
theorem highest_val (g : Grid ax ay sz nx ny hs) (k : Nat) (hk : 1300 ≤ k) (x y r : Int) (ho : Ok x y r) :
    ∃ M, terrain_Highest.f k ax ay sz nx ny hs x y r = some (M, 0) ∧ 0 ≤ M ∧ (∀ j : Nat, j < hs.length → Hit ax ay sz nx x y r j → rd hs j ≤ M) ∧ (M = 0 ∨ ∃ j : Nat, j < hs.length ∧ Hit ax ay sz nx x y r j ∧ rd hs j = M) := by
  have hp := g.par
  have hm := mul_bd nx ny 32 32 (by omega) (by omega) (by omega) (by omega)
  have hlen := g.len
  obtain ⟨k, rfl⟩ : ∃ m, k = m + 1 := ⟨k - 1, by omega⟩
  obtain ⟨M, h1, h2, h3, h4⟩ := high_loop ax ay sz nx ny hs g x y r ho.1 ho.2.1 ho.2.2 hs.length 0 k 0 (by omega) (by omega)
  refine ⟨M, ?_, h2, fun j hj hh => h3 j (by omega) hj hh, ?_⟩
  · unfold terrain_Highest.f
    rw [check_val ax ay sz nx ny hs (k + 1) (by omega), code_zero ax ay sz nx ny hs g]
    simp only [Option.bind_some, if_true]
    rw [if_neg (by omega), if_neg (by omega), if_neg (by omega), if_neg (by omega), if_neg (by omega), decide_eq_false (by omega)]
    simp only [terrain_Highest.j0]
    rw [if_neg (by decide)]
    exact h1
  · rcases h4 with h4 | ⟨j, h5, h6, h7, h8⟩
    · exact .inl h4
    · exact .inr ⟨j, h6, h7, h8⟩

/-! ### The reference, point by point -/
abbrev Disk (x y r u v : Int) : Prop := x - r ≤ u ∧ u ≤ x + r ∧ y - r ≤ v ∧ v ≤ y + r ∧ (u - x) * (u - x) + (v - y) * (v - y) ≤ r * r
theorem far_val (x y r u v : Int) (hn : Pl x y) (hr : 0 ≤ r) (hr' : r ≤ 9) (h1 : x - r ≤ u) (h2 : u ≤ x + r) (h3 : y - r ≤ v) (h4 : v ≤ y + r) : skywayref2_Far.f u v x y = some ((u - x) * (u - x) + (v - y) * (v - y)) := by
  have q1 := sq_bd (u - x) 9 (by omega) (by omega)
  have q2 := sq_bd (v - y) 9 (by omega) (by omega)
  unfold skywayref2_Far.f
  rw [w64 (u - x) (by omega) (by omega), w64 (v - y) (by omega) (by omega), w64 ((u - x) * (u - x)) (by omega) (by omega), w64 ((v - y) * (v - y)) (by omega) (by omega), w64 _ (by omega) (by omega)]
theorem top_col (g : Grid ax ay sz nx ny hs) (x y r u : Int) (hn : Pl x y) (hr : 0 ≤ r) (hr' : r ≤ 9) (hu : x - r ≤ u) (hu' : u ≤ x + r) (d : Nat) : ∀ (v b : Int) (k : Nat), y - r ≤ v → v + d = y + r + 1 → 1400 ≤ k →
    ∃ b', skywayref2_Top.l1 (k + d + 1) r b u v ax ay sz nx ny hs x y = skywayref2_Top.l0 k r b' (u + 1) ax ay sz nx ny hs x y ∧ b ≤ b' ∧ (∀ v', v ≤ v' → Disk x y r u v' → gr ax ay sz nx ny hs u v' ≤ b') ∧ (b' = b ∨ ∃ v', Disk x y r u v' ∧ gr ax ay sz nx ny hs u v' = b') := by
  have hrr := mul_bd r r 9 9 hr hr' hr hr'
  induction d with
  | zero =>
    intro v b k hv hd hk
    rw [show k + 0 + 1 = k + 1 by omega]
    refine ⟨b, ?_, by omega, fun v' h1 h2 => by omega, .inl rfl⟩
    simp only [skywayref2_Top.l1]
    rw [w64 (y + r) (by omega) (by omega), if_neg (by omega), w64 (u + 1) (by omega) (by omega)]
  | succ d ih =>
    intro v b k hv hd hk
    obtain ⟨K, hK⟩ : ∃ K, K = k + d + 1 := ⟨_, rfl⟩
    have fv := far_val x y r u v hn hr hr' hu hu' hv (by omega)
    rw [show k + (d + 1) + 1 = K + 1 by omega]
    simp only [skywayref2_Top.l1]
    rw [w64 (y + r) (by omega) (by omega), if_pos (by omega), ground_val ax ay sz nx ny hs g u v (by omega) K (by omega), fv, w64 (r * r) (by omega) (by omega), w64 (v + 1) (by omega) (by omega)]
    simp only [Option.bind_some]
    have skip : ∀ c, (∀ v', v ≤ v' → Disk x y r u v' → v' = v → gr ax ay sz nx ny hs u v' ≤ c) → b ≤ c → (c = b ∨ (Disk x y r u v ∧ gr ax ay sz nx ny hs u v = c)) →
        ∃ b', skywayref2_Top.l1 K r c u (v + 1) ax ay sz nx ny hs x y = skywayref2_Top.l0 k r b' (u + 1) ax ay sz nx ny hs x y ∧ b ≤ b' ∧ (∀ v', v ≤ v' → Disk x y r u v' → gr ax ay sz nx ny hs u v' ≤ b') ∧ (b' = b ∨ ∃ v', Disk x y r u v' ∧ gr ax ay sz nx ny hs u v' = b') := by
      intro c hc hbc hcb
      obtain ⟨b', h1, h2, h3, h4⟩ := ih (v + 1) c k (by omega) (by omega) hk
      rw [← hK] at h1
      refine ⟨b', h1, by omega, fun v' hv' hd' => ?_, ?_⟩
      · by_cases h : v' = v
        · have := hc v' hv' hd' h; omega
        · exact h3 v' (by omega) hd'
      · rcases h4 with h4 | h4
        · rcases hcb with hcb | ⟨h5, h6⟩
          · exact .inl (by omega)
          · exact .inr ⟨v, h5, by omega⟩
        · exact .inr h4
    by_cases c1 : (u - x) * (u - x) + (v - y) * (v - y) ≤ r * r
    · rw [if_pos c1]
      by_cases c2 : gr ax ay sz nx ny hs u v > b
      · rw [if_pos c2]
        exact skip _ (fun v' _ _ h => by rw [h]; omega) (by omega) (.inr ⟨⟨hu, hu', hv, by omega, c1⟩, rfl⟩)
      · rw [if_neg c2]
        exact skip b (fun v' _ _ h => by rw [h]; omega) (by omega) (.inl rfl)
    · rw [if_neg c1]
      exact skip b (fun v' _ hd' h => by rw [h] at hd'; exact absurd hd'.2.2.2.2 c1) (by omega) (.inl rfl)
theorem top_from (g : Grid ax ay sz nx ny hs) (x y r : Int) (hn : Pl x y) (hr : 0 ≤ r) (hr' : r ≤ 9) (d : Nat) : ∀ (u b : Int) (k : Nat), x - r ≤ u → u + d = x + r + 1 → 30 * d + 1402 ≤ k →
    ∃ M, skywayref2_Top.l0 k r b u ax ay sz nx ny hs x y = some M ∧ b ≤ M ∧ (∀ u' v', u ≤ u' → Disk x y r u' v' → gr ax ay sz nx ny hs u' v' ≤ M) ∧ (M = b ∨ ∃ u' v', Disk x y r u' v' ∧ gr ax ay sz nx ny hs u' v' = M) := by
  induction d with
  | zero =>
    intro u b k hu hd hk
    obtain ⟨k, rfl⟩ : ∃ m, k = m + 1 := ⟨k - 1, by omega⟩
    refine ⟨b, ?_, by omega, fun u' v' h1 h2 => by omega, .inl rfl⟩
    simp only [skywayref2_Top.l0]
    rw [w64 (x + r) (by omega) (by omega), if_neg (by omega)]
  | succ d ih =>
    intro u b k hu hd hk
    obtain ⟨k, rfl⟩ : ∃ m, k = (m + (2 * r + 1).toNat + 1) + 1 := ⟨k - (2 * r + 1).toNat - 2, by omega⟩
    obtain ⟨K, hK⟩ : ∃ K, K = k + (2 * r + 1).toNat + 1 := ⟨_, rfl⟩
    obtain ⟨b', h1, h2, h3, h4⟩ := top_col ax ay sz nx ny hs g x y r u hn hr hr' hu (by omega) (2 * r + 1).toNat (y - r) b k (by omega) (by omega) (by omega)
    obtain ⟨M, k1, k2, k3, k4⟩ := ih (u + 1) b' k (by omega) (by omega) (by omega)
    rw [← hK] at h1
    refine ⟨M, ?_, by omega, fun u' v' hu' hd' => ?_, ?_⟩
    · rw [← hK]
      simp only [skywayref2_Top.l0]
      rw [w64 (x + r) (by omega) (by omega), if_pos (by omega), w64 (y - r) (by omega) (by omega), h1, k1]
    · by_cases h : u' = u
      · subst h
        have := h3 v' hd'.2.2.1 hd'; omega
      · exact k3 u' v' (by omega) hd'
    · rcases k4 with k4 | k4
      · rcases h4 with h4 | ⟨v', h5, h6⟩
        · exact .inl (by omega)
        · exact .inr ⟨u, v', h5, by omega⟩
      · exact .inr k4
theorem top_val (g : Grid ax ay sz nx ny hs) (x y r : Int) (hn : Pl x y) (hr : 0 ≤ r) (hr' : r ≤ 9) (k : Nat) (hk : 2100 ≤ k) :
    ∃ M, skywayref2_Top.f k ax ay sz nx ny hs x y r = some M ∧ 0 ≤ M ∧ (∀ u v, Disk x y r u v → gr ax ay sz nx ny hs u v ≤ M) ∧ (M = 0 ∨ ∃ u v, Disk x y r u v ∧ gr ax ay sz nx ny hs u v = M) := by
  obtain ⟨M, h1, h2, h3, h4⟩ := top_from ax ay sz nx ny hs g x y r hn hr hr' (2 * r + 1).toNat (x - r) 0 k (by omega) (by omega) (by omega)
  refine ⟨M, ?_, h2, fun u v hd => h3 u v hd.1 hd, h4⟩
  unfold skywayref2_Top.f
  rw [w64 (x - r) (by omega) (by omega)]
  exact h1

/-! ### Both are the same -/
theorem outs_least (n lo hi q : Int) (h1 : lo ≤ q) (h2 : q ≤ hi) : 0 ≤ outs n lo hi ∧ outs n lo hi * outs n lo hi ≤ (q - n) * (q - n) ∧ (outs n lo hi ≤ q - n ∨ outs n lo hi ≤ n - q) := by
  have h0 : 0 ≤ outs n lo hi := by unfold outs mx; repeat' split
                                   all_goals omega
  have h3 : outs n lo hi ≤ q - n ∨ outs n lo hi ≤ n - q := by
    unfold outs mx
    rcases Int.le_total n q with h | h
    · left; repeat' split
      all_goals omega
    · right; repeat' split
      all_goals omega
  refine ⟨h0, ?_, h3⟩
  rcases h3 with h3 | h3
  · exact Int.mul_le_mul h3 h3 h0 (by omega)
  · have := Int.mul_le_mul h3 h3 h0 (by omega)
    rwa [show (n - q) * (n - q) = (q - n) * (q - n) by rw [show n - q = -(q - n) by omega, Int.neg_mul_neg]] at this
/-- The point of an interval that is next to n. -/
def clamp (n lo hi : Int) : Int := if n < lo then lo else if hi < n then hi else n
theorem clamp_in (n lo hi : Int) (h : lo ≤ hi) : lo ≤ clamp n lo hi ∧ clamp n lo hi ≤ hi ∧ (clamp n lo hi - n = outs n lo hi ∨ n - clamp n lo hi = outs n lo hi) := by
  unfold clamp outs mx
  repeat' split
  all_goals omega
theorem cell_of (h0 : 0 < sz) (q c : Int) (h1 : ax + c * sz ≤ q) (h2 : q ≤ ax + c * sz + sz - 1) : cx ax sz q = c := ((in_cell ax sz h0 q c).1 (by omega)).symm
theorem same (g : Grid ax ay sz nx ny hs) (x y r : Int) (hr : 0 ≤ r) (M N : Int) (h1 : 0 ≤ M) (h2 : ∀ j : Nat, j < hs.length → Hit ax ay sz nx x y r j → rd hs j ≤ M) (h3 : M = 0 ∨ ∃ j : Nat, j < hs.length ∧ Hit ax ay sz nx x y r j ∧ rd hs j = M)
    (k1 : 0 ≤ N) (k2 : ∀ u v, Disk x y r u v → gr ax ay sz nx ny hs u v ≤ N) (k3 : N = 0 ∨ ∃ u v, Disk x y r u v ∧ gr ax ay sz nx ny hs u v = N) : M = N := by
  have hp := g.par
  have hlen := g.len
  have a1 : M ≤ N := by
    rcases h3 with h3 | ⟨j, hj, ⟨t1, t2, t3⟩, hM⟩
    · omega
    · have f1 := Int.emod_nonneg (j : Int) (show nx ≠ 0 by omega)
      have f2 := Int.emod_lt_of_pos (j : Int) (show 0 < nx by omega)
      have f4 := Int.ediv_nonneg (show 0 ≤ (j : Int) by omega) (show 0 ≤ nx by omega)
      have f5 := Int.emod_add_mul_ediv (j : Int) nx
      have f6 : (j : Int) / nx < ny := by
        rcases Int.lt_or_le ((j : Int) / nx) ny with h | h
        · exact h
        · exfalso
          have : nx * ny ≤ nx * ((j : Int) / nx) := Int.mul_le_mul_of_nonneg_left h (by omega)
          omega
      obtain ⟨p1, p2, p3⟩ := clamp_in x (ax + ((j : Int) % nx) * sz) (ax + ((j : Int) % nx) * sz + sz - 1) (by omega)
      obtain ⟨q1, q2, q3⟩ := clamp_in y (ay + ((j : Int) / nx) * sz) (ay + ((j : Int) / nx) * sz + sz - 1) (by omega)
      have e1 := cell_of ax sz (by omega) _ _ p1 p2
      have e2 := cell_of ay sz (by omega) _ _ q1 q2
      generalize clamp x (ax + ((j : Int) % nx) * sz) (ax + ((j : Int) % nx) * sz + sz - 1) = u at *
      generalize clamp y (ay + ((j : Int) / nx) * sz) (ay + ((j : Int) / nx) * sz + sz - 1) = v at *
      have o1 := (outs_least x _ _ u p1 p2).1
      have o2 := (outs_least y _ _ v q1 q2).1
      have s1 : (u - x) * (u - x) = ux ax sz x r ((j : Int) % nx) * ux ax sz x r ((j : Int) % nx) := by
        unfold ux
        rcases p3 with p3 | p3
        · rw [p3]
        · rw [show u - x = -(x - u) by omega, Int.neg_mul_neg, p3]
      have s2 : (v - y) * (v - y) = ux ay sz y r ((j : Int) / nx) * ux ay sz y r ((j : Int) / nx) := by
        unfold ux
        rcases q3 with q3 | q3
        · rw [q3]
        · rw [show v - y = -(y - v) by omega, Int.neg_mul_neg, q3]
      have hd : Disk x y r u v := by
        unfold ux at t1 t2
        refine ⟨by omega, by omega, by omega, by omega, ?_⟩
        rw [s1, s2]; exact t3
      have := k2 u v hd
      unfold gr at this
      rw [if_pos (show Inside ax ay sz nx ny u v by omega), e1, e2, show ((j : Int) / nx) * nx + (j : Int) % nx = (j : Int) by rw [Int.mul_comm]; omega, hM] at this
      exact this
  have a2 : N ≤ M := by
    rcases k3 with k3 | ⟨u, v, hd, hN⟩
    · omega
    · unfold gr at hN
      by_cases hi : Inside ax ay sz nx ny u v
      · rw [if_pos hi] at hN
        have ib := index_bd ax ay sz nx ny hs g (cx ax sz u) (cx ay sz v) (by omega) (by omega) (by omega) (by omega)
        obtain ⟨j, hj⟩ := Int.eq_ofNat_of_zero_le ib.1
        have m1 : (j : Int) % nx = cx ax sz u := by
          rw [← hj, Int.add_comm, Int.add_mul_emod_self_right]
          exact Int.emod_eq_of_lt (by omega) (by omega)
        have m2 : (j : Int) / nx = cx ay sz v := by
          rw [← hj, Int.add_comm, Int.add_mul_ediv_right _ _ (by omega), Int.ediv_eq_zero_of_lt (by omega) (by omega)]
          omega
        have c1 := (in_cell ax sz (by omega) u (cx ax sz u)).2 rfl
        have c2 := (in_cell ay sz (by omega) v (cx ay sz v)).2 rfl
        obtain ⟨o1, o2, o3⟩ := outs_least x (ax + cx ax sz u * sz) (ax + cx ax sz u * sz + sz - 1) u (by omega) (by omega)
        obtain ⟨p1, p2, p3⟩ := outs_least y (ay + cx ay sz v * sz) (ay + cx ay sz v * sz + sz - 1) v (by omega) (by omega)
        have hh : Hit ax ay sz nx x y r j := by
          unfold Hit Touch
          rw [m1, m2]
          unfold ux
          refine ⟨by omega, by omega, by omega⟩
        have := h2 j (by omega) hh
        rw [← hj, hN] at this
        exact this
      · rw [if_neg hi] at hN; omega
  omega
end

theorem one_grid : Grid 0 0 10 1 1 [500] := by
  refine ⟨by decide, by decide, fun j hj => ?_⟩
  obtain rfl : j = 0 := by simpa using hj
  decide
theorem fact1 (k : Nat) (hk : 1300 ≤ k) : terrain_Highest.f k 0 0 10 1 1 [500] (-3) 0 3 = some (500, 0) := by
  obtain ⟨M, h1, h2, h3, h4⟩ := highest_val 0 0 10 1 1 [500] one_grid k hk (-3) 0 3 (by omega)
  have h5 := h3 0 (by decide) (by decide)
  have h6 : rd [500] ((0 : Nat) : Int) = 500 := by decide
  rcases h4 with h4 | ⟨j, hj, _, h8⟩
  · omega
  · obtain rfl : j = 0 := by simpa using hj
    rw [h1, ← h8, h6]
theorem fact2 (k : Nat) (hk : 1300 ≤ k) : terrain_Height.f k 0 0 10 1 1 [500] 9 0 = some (500, 0) := by
  rw [height_val 0 0 10 1 1 [500] one_grid k hk 9 0, if_pos (by decide), show gr 0 0 10 1 1 [500] 9 0 = 500 by decide]
theorem height_bad (ax ay sz nx ny : Int) (hs : List Int) (k : Nat) (hk : 1300 ≤ k) (x y : Int) (h : code ax ay sz nx ny hs ≠ 0) : terrain_Height.f k ax ay sz nx ny hs x y = some (0, code ax ay sz nx ny hs) := by
  unfold terrain_Height.f
  rw [check_val ax ay sz nx ny hs k (by omega)]
  simp only [Option.bind_some]
  rw [if_neg h]

theorem TerrainPoints : TerrainPoints.Stmt := by
  intro ax ay sz nx ny hs x y R _ _ _ _ _ _ _ _ _
  obtain ⟨N, hN⟩ : ∃ N, N = 3000 := ⟨_, rfl⟩
  refine ⟨N + 5, ?_⟩
  obtain ⟨K4, hK4⟩ : ∃ K, K = N + 4 := ⟨_, rfl⟩
  obtain ⟨K3, hK3⟩ : ∃ K, K = N + 3 := ⟨_, rfl⟩
  obtain ⟨K2, hK2⟩ : ∃ K, K = N + 2 := ⟨_, rfl⟩
  obtain ⟨K1, hK1⟩ : ∃ K, K = N + 1 := ⟨_, rfl⟩
  have hm := tmod_range R 10 (by omega)
  rw [show N + 5 = K4 + 1 by omega]
  unfold skywaylaw2_TerrainPoints.f
  simp only [Option.bind_some]
  rw [fact1 (K4 + 1) (by omega)]
  simp only [Option.bind_some, if_true]
  rw [show ((500 : Int) != 500) = false by decide]
  simp only [skywaylaw2_TerrainPoints.j0]
  rw [if_neg (by decide), fact2 K4 (by omega)]
  simp only [Option.bind_some, if_true]
  rw [show ((500 : Int) != 500) = false by decide, show K4 = K3 + 1 by omega]
  simp only [skywaylaw2_TerrainPoints.j1]
  rw [if_neg (by decide), error_val ax ay sz nx ny hs K3 (by omega), check_val ax ay sz nx ny hs K3 (by omega)]
  simp only [Option.bind_some, if_true]
  by_cases hc : code ax ay sz nx ny hs = 0
  · have g := grid_of ax ay sz nx ny hs hc
    have hp := g.par
    simp only [hc, if_true]
    rw [placed_val, height_val ax ay sz nx ny hs g K3 (by omega) x y]
    simp only [Option.bind_some]
    by_cases hxy : Pl x y
    · rw [if_pos hxy, decide_eq_true hxy]
      by_cases hr : 0 ≤ Int.tmod R 10
      · obtain ⟨M, h1, h2, h3, h4⟩ := highest_val ax ay sz nx ny hs g K3 (by omega) x y (Int.tmod R 10) (by omega)
        obtain ⟨T, t1, t2, t3, t4⟩ := top_val ax ay sz nx ny hs g x y (Int.tmod R 10) hxy hr (by omega) N (by omega)
        have hMT := same ax ay sz nx ny hs g x y (Int.tmod R 10) hr M T h2 h3 h4 t2 t3 t4
        rw [h1, show K3 = K2 + 1 by omega]
        simp only [Option.bind_some, Bool.not_true, skywaylaw2_TerrainPoints.j2]
        rw [if_neg (by decide), show K2 = K1 + 1 by omega]
        simp only [skywaylaw2_TerrainPoints.j3, if_true]
        rw [ground_val ax ay sz nx ny hs g x y (by omega) K1 (by omega)]
        simp only [Option.bind_some]
        rw [show (gr ax ay sz nx ny hs x y != gr ax ay sz nx ny hs x y) = false by simp, hK1]
        simp only [skywaylaw2_TerrainPoints.j4, if_true]
        rw [if_neg (by decide), if_neg (by omega)]
        refine els (fun _ => rfl) fun _ => ?_
        rw [t1, hMT]
        simp
      · rw [highest_bad ax ay sz nx ny hs K3 (by omega) x y (Int.tmod R 10) (fun _ => by omega), if_pos hc, show K3 = K2 + 1 by omega]
        simp only [Option.bind_some, Bool.not_true, skywaylaw2_TerrainPoints.j2]
        rw [if_neg (by decide), show K2 = K1 + 1 by omega]
        simp only [skywaylaw2_TerrainPoints.j3, if_true]
        rw [ground_val ax ay sz nx ny hs g x y (by omega) K1 (by omega)]
        simp only [Option.bind_some]
        rw [show (gr ax ay sz nx ny hs x y != gr ax ay sz nx ny hs x y) = false by simp, hK1]
        simp only [skywaylaw2_TerrainPoints.j4, if_true]
        rw [if_neg (by decide), if_pos (by omega)]
        simp
    · rw [if_neg hxy, decide_eq_false hxy, highest_bad ax ay sz nx ny hs K3 (by omega) x y (Int.tmod R 10) (fun _ h => hxy h.1), if_pos hc, show K3 = K2 + 1 by omega]
      simp only [Option.bind_some, Bool.not_false, skywaylaw2_TerrainPoints.j2, if_true]
      rw [show K2 = K1 + 1 by omega]
      simp only [skywaylaw2_TerrainPoints.j3, if_true]
      rw [if_neg (by decide)]
      simp
  · simp only [if_neg hc]
    rw [height_bad ax ay sz nx ny hs K3 (by omega) x y hc, highest_bad ax ay sz nx ny hs K3 (by omega) x y (Int.tmod R 10) (fun h => absurd h hc), if_neg hc, show K3 = K2 + 1 by omega]
    simp only [Option.bind_some, skywaylaw2_TerrainPoints.j2]
    rw [if_neg (by decide), show K2 = K1 + 1 by omega]
    simp only [skywaylaw2_TerrainPoints.j3]
    rw [if_neg hc]
    simp

end Go.Proofs.Ytpndjpjpmcehbaa.Pure
