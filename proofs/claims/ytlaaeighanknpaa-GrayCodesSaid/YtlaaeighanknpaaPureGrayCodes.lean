/- What is proved: for every height and every code, gray.Encode and gray.Decode return what the table of the reference contains. No condition. -/
import Derived.Test.YtlaaeighanknpaaPGrayCodesx2
namespace Go.Proofs.Ytlaaeighanknpaa.Pure
open Go.RowKit Go.Proofs.Ytlaaeighanknpaa.PGrayCodes Go.Proofs.YtlaaeighanknpaaW.PrintWords Go.Proofs.YtlaaeighanknpaaW.PrintLast

theorem gc_w (n : Int) (h0 : -9223372036854775808 ≤ n) (h1 : n < 9223372036854775808) : wrap64 n = n := by unfold wrap64; omega
theorem gc_small (n : Int) (h0 : 0 ≤ n) (h1 : n < 2 ^ 63) : IntKind.i64.wrap n = n := by rw [IntKind.wrap_i64]; omega
theorem gc_xor (a b : Nat) (ha : a < 4096) (hb : b < 4096) : Go.bits .xor .i64 (a : Int) (b : Int) = ((a ^^^ b : Nat) : Int) := by
  have hx : a ^^^ b < 2 ^ 12 := Nat.xor_lt_two_pow (by omega) (by omega)
  have ha' : a % 2 ^ IntKind.i64.bits = a := Nat.mod_eq_of_lt (by simp [IntKind.bits]; omega)
  have hb' : b % 2 ^ IntKind.i64.bits = b := Nat.mod_eq_of_lt (by simp [IntKind.bits]; omega)
  simp only [bits, BitVec.ofInt_natCast, BitVec.toNat_xor, BitVec.toNat_ofNat, ha', hb']
  exact gc_small _ (by omega) (by omega)

/-! ### The code of a number, and the number of a code -/
def gr (n : Nat) : Nat := n ^^^ (n / 2)
def decN : Nat → Nat → Nat → Nat
  | 0, _, a => a
  | f + 1, c, a => if 0 < c then decN f (c / 2) (a ^^^ c) else a
theorem dec_all : (List.range 4096).all (fun c => decide (decN 12 c 0 < 4096) && (gr (decN 12 c 0) == c)) = true := by decide +kernel
theorem gr_all : (List.range 4096).all (fun n => decN 12 (gr n) 0 == n) = true := by decide +kernel
theorem dec_lt (c : Nat) (h : c < 4096) : decN 12 c 0 < 4096 ∧ gr (decN 12 c 0) = c := by
  have := List.all_eq_true.1 dec_all c (List.mem_range.2 h)
  simpa using this
theorem gr_inj (m n : Nat) (hm : m < 4096) (hn : n < 4096) (h : gr m = gr n) : m = n := by
  have h1 := List.all_eq_true.1 gr_all m (List.mem_range.2 hm)
  have h2 := List.all_eq_true.1 gr_all n (List.mem_range.2 hn)
  simp only [beq_iff_eq] at h1 h2
  rw [← h1, h, h2]

/-- What Decode says of the number that it found. -/
def fin (n : Nat) : Option (Int × Int) := if 60000 < -1000 + 100 * (n : Int) then some (0, 8) else some (-1000 + 100 * (n : Int), 0)
theorem dec_loop (f : Nat) : ∀ (c a k : Nat), c < 2 ^ f → c < 4096 → a < 4096 → f + 1 ≤ k → gray_Decode.l0 k (c : Int) (a : Int) = fin (decN f c a) := by
  have hend : ∀ (k a : Nat), a < 4096 → gray_Decode.l0 (k + 1) 0 (a : Int) = fin a := by
    intro k a ha
    simp only [gray_Decode.l0, fin]
    rw [if_neg (by omega), gc_w (100 * (a : Int)) (by omega) (by omega), gc_w (-1000 + 100 * (a : Int)) (by omega) (by omega)]
  induction f with
  | zero =>
    intro c a k h h1 ha hk
    obtain ⟨k, rfl⟩ : ∃ m, k = m + 1 := ⟨k - 1, by omega⟩
    obtain rfl : c = 0 := by simpa using h
    exact hend k a ha
  | succ f ih =>
    intro c a k h h1 ha hk
    obtain ⟨k, rfl⟩ : ∃ m, k = m + 1 := ⟨k - 1, by omega⟩
    by_cases hc : 0 < c
    · simp only [gray_Decode.l0, decN]
      rw [if_pos (by omega), if_pos hc, gc_xor a c ha h1, show (c : Int) / 2 = ((c / 2 : Nat) : Int) by omega]
      have hx : a ^^^ c < 2 ^ 12 := Nat.xor_lt_two_pow (by omega) (by omega)
      exact ih (c / 2) (a ^^^ c) k (by rw [Nat.pow_succ] at h; omega) (by omega) (by omega) (by omega)
    · obtain rfl : c = 0 := by omega
      simp only [decN]
      exact hend k a ha

/-! ### The table -/
def dbl (b : Int) (l : List Int) : List Int := l ++ l.reverse.map (· + b)
def G : Nat → List Int
  | 0 => [0]
  | j + 1 => dbl (2 ^ j : Nat) (G j)
theorem G_len : ∀ j, (G j).length = 2 ^ j
  | 0 => rfl
  | j + 1 => by simp [G, dbl, G_len j, Nat.pow_succ]; omega
theorem G_bd : ∀ j, ∀ x ∈ G j, 0 ≤ x ∧ x < (2 ^ j : Nat)
  | 0 => by intro x hx; simp [G] at hx; subst hx; simp
  | j + 1 => by
    intro x hx
    simp only [G, dbl, List.mem_append, List.mem_map, List.mem_reverse] at hx
    rw [Nat.pow_succ]
    rcases hx with hx | ⟨y, hy, rfl⟩
    · have := G_bd j x hx; omega
    · have := G_bd j y hy; omega
set_option maxRecDepth 100000 in
theorem G_all : G 12 = (List.range 4096).map (fun n => (gr n : Int)) := by decide +kernel
theorem rd_G (n : Nat) (h : n < 4096) : rd (G 12) (n : Int) = (gr n : Int) := by
  rw [G_all]; unfold rd
  simp [List.getD_eq_getElem?_getD, List.getElem?_range h]

theorem mirror (l : List Int) (b : Int) (hl : l.length ≤ 4096) (hb : 0 ≤ b ∧ b < 4096) (hx : ∀ x ∈ l, 0 ≤ x ∧ x < 4096) (r : Nat) :
    ∀ (k : Nat) (acc : List Int), r ≤ l.length → acc.length + r ≤ 4096 → skywayref2_Grays.l1 (k + r + 1) (l ++ acc) b ((r : Int) - 1) = skywayref2_Grays.l0 k (l ++ (acc ++ (l.take r).reverse.map (· + b))) (b * 2) := by
  induction r with
  | zero =>
    intro k acc h1 h2
    simp only [skywayref2_Grays.l1]
    rw [if_neg (by omega), gc_w (b * 2) (by omega) (by omega)]
    simp
  | succ r ih =>
    intro k acc h1 h2
    have hlen : (l ++ acc).length = l.length + acc.length := List.length_append
    have hr : rd (l ++ acc) (r : Int) = l[r] := by
      unfold rd
      simp [List.getD_eq_getElem?_getD, List.getElem?_append_left (show r < l.length by omega), List.getElem?_eq_getElem (show r < l.length by omega)]
    have hbd := hx _ (List.getElem_mem (show r < l.length by omega))
    obtain ⟨K, hK⟩ : ∃ K, K = k + r + 1 := ⟨_, rfl⟩
    rw [show k + (r + 1) + 1 = K + 1 by omega]
    simp only [skywayref2_Grays.l1]
    rw [hK, show ((r + 1 : Nat) : Int) - 1 = (r : Int) by omega, if_pos (by omega), if_pos (by omega), if_pos (by omega), if_pos (by omega), hr, gc_w (l[r] + b) (by omega) (by omega), gc_w ((r : Int) - 1) (by omega) (by omega)]
    have := ih k (acc ++ [l[r] + b]) (by omega) (by simp; omega)
    rw [List.append_assoc, this]
    congr 2
    rw [List.take_succ_eq_append_getElem (show r < l.length by omega)]
    simp only [List.reverse_append, List.reverse_cons, List.reverse_nil, List.nil_append, List.map_append, List.map_cons, List.map_nil, List.append_assoc]

set_option maxRecDepth 100000 in
theorem grays_from (d : Nat) : ∀ (j k : Nat), j + d = 12 → d * 4200 + 1 ≤ k → skywayref2_Grays.l0 k (G j) ((2 ^ j : Nat) : Int) = some (G 12) := by
  induction d with
  | zero =>
    intro j k hj hk
    obtain ⟨k, rfl⟩ : ∃ m, k = m + 1 := ⟨k - 1, by omega⟩
    obtain rfl : j = 12 := by omega
    simp only [skywayref2_Grays.l0]
    rw [if_neg (show ¬ ((2 ^ 12 : Nat) : Int) < 4096 by simp)]
  | succ d ih =>
    intro j k hj hk
    have hj12 : j ≤ 11 := by omega
    have hp : 2 ^ j ≤ 2 ^ 11 := Nat.pow_le_pow_right (by decide) hj12
    have hp0 : 0 < 2 ^ j := Nat.two_pow_pos j
    have hlen := G_len j
    have hL : (G j).length ≤ 2048 := by rw [hlen]; exact hp
    have hk3 : d * 4200 + 4201 ≤ k := by rw [Nat.add_mul] at hk; exact hk
    obtain ⟨L, hL'⟩ : ∃ L, L = (G j).length := ⟨_, rfl⟩
    have hL2 : L ≤ 2048 := by rw [hL']; exact hL
    obtain ⟨k, rfl, hk2⟩ : ∃ m, k = (m + L + 1) + 1 ∧ d * 4200 + 1 ≤ m := by
      clear hp hp0 hk hL hlen ih hL'
      exact ⟨k - L - 2, by omega, by omega⟩
    subst hL'
    simp only [skywayref2_Grays.l0]
    rw [if_pos (by omega), gc_w _ (by omega) (by omega)]
    have := mirror (G j) (2 ^ j : Nat) (by omega) (by omega) (fun x hx => by have := G_bd j x hx; omega) (G j).length k [] (Nat.le_refl _) (by simp; omega)
    rw [List.append_nil] at this
    rw [this, List.take_length]
    have e : ((2 ^ j : Nat) : Int) * 2 = ((2 ^ (j + 1) : Nat) : Int) := by rw [Nat.pow_succ]; omega
    rw [e]
    exact ih (j + 1) k (by omega) hk2
theorem grays : ∃ T : List Int, (∀ k, 50401 ≤ k → skywayref2_Grays.f k = some T) ∧ T.length = 4096 ∧ ∀ n : Nat, n < 4096 → rd T (n : Int) = (gr n : Int) :=
  ⟨G 12, fun k hk => grays_from 12 0 k rfl hk, G_len 12, rd_G⟩

theorem gc_in (a b c : Int) : skywayref2_In.f a b c = some (decide (b ≤ a ∧ a ≤ c)) := by
  unfold skywayref2_In.f
  by_cases h : a ≥ b
  · rw [if_pos h]; simp; omega
  · rw [if_neg h]; simp; omega

/-- The law's search through the table. -/
theorem search (code m : Nat) (hm : m < 4096) (hc : gr m = code) (x9 x10 : Int) (hfin : fin m = some (x10, x9)) (T : List Int) (hlen : T.length = 4096) (hT : ∀ n : Nat, n < 4096 → rd T (n : Int) = (gr n : Int)) (d : Nat) :
    ∀ (i k : Nat), i + d = m → d + 1 ≤ k → skywaylaw2_GrayCodes.l0 k (code : Int) x9 x10 T (4096 : Int) (i : Int) = some true := by
  induction d with
  | zero =>
    intro i k hi hk
    obtain ⟨k, rfl⟩ : ∃ m, k = m + 1 := ⟨k - 1, by omega⟩
    obtain rfl : i = m := by omega
    simp only [skywaylaw2_GrayCodes.l0]
    rw [if_pos (by omega), if_pos (by omega), if_pos (by omega), hT i hm, if_pos (by omega), gc_w (100 * (i : Int)) (by omega) (by omega), gc_w (100 * (i : Int) - 1000) (by omega) (by omega)]
    unfold fin at hfin
    by_cases h : 60000 < -1000 + 100 * (i : Int)
    · rw [if_pos h] at hfin
      simp only [Option.some.injEq, Prod.mk.injEq] at hfin
      obtain ⟨rfl, rfl⟩ := hfin
      rw [if_pos (by omega), if_pos rfl]; rfl
    · rw [if_neg h] at hfin
      simp only [Option.some.injEq, Prod.mk.injEq] at hfin
      obtain ⟨rfl, rfl⟩ := hfin
      rw [if_neg (by omega), if_pos rfl, beq_iff_eq.2 (by omega)]
  | succ d ih =>
    intro i k hi hk
    obtain ⟨k, rfl⟩ : ∃ m, k = m + 1 := ⟨k - 1, by omega⟩
    have hne : gr i ≠ code := fun h => by
      have := gr_inj i m (by omega) hm (by omega)
      omega
    simp only [skywaylaw2_GrayCodes.l0]
    rw [if_pos (by omega), if_pos (by omega), if_pos (by omega), hT i (by omega), if_neg (by omega), gc_w ((i : Int) + 1) (by omega) (by omega)]
    exact ih (i + 1) k (by omega) (by omega)

theorem part2 (code : Int) (T : List Int) (hlen : T.length = 4096) (hT : ∀ n : Nat, n < 4096 → rd T (n : Int) = (gr n : Int)) (k : Nat) (hk : 5000 ≤ k) : skywaylaw2_GrayCodes.j1 k code T = some true := by
  obtain ⟨k, rfl⟩ : ∃ m, k = m + 2 := ⟨k - 2, by omega⟩
  simp only [skywaylaw2_GrayCodes.j1]
  rw [gc_in]
  by_cases h : 0 ≤ code ∧ code ≤ 4095
  · obtain ⟨c, rfl⟩ := Int.eq_ofNat_of_zero_le h.1
    have hd : gray_Decode.f (k + 1) (c : Int) = fin (decN 12 c 0) := by
      unfold gray_Decode.f
      rw [if_neg (by omega), decide_eq_false (by omega)]
      simp only [gray_Decode.j0]
      rw [if_neg (by decide)]
      exact dec_loop 12 c 0 k (by omega) (by omega) (by omega) (by omega)
    obtain ⟨h1, h2⟩ := dec_lt c (by omega)
    have hsome : ∃ r, fin (decN 12 c 0) = some r := by unfold fin; split <;> exact ⟨_, rfl⟩
    obtain ⟨⟨x10, x9⟩, hr⟩ := hsome
    rw [hd, hr, decide_eq_true h]
    simp only [Option.bind_some, if_true]
    rw [hlen]
    exact search c (decN 12 c 0) h1 h2 x9 x10 hr T hlen hT (decN 12 c 0) 0 _ (by omega) (by omega)
  · have hd : gray_Decode.f (k + 1) code = some (0, 4) := by
      unfold gray_Decode.f
      by_cases g : code < 0
      · rw [if_pos g]; simp only [gray_Decode.j0, if_true]
      · rw [if_neg g, decide_eq_true (by omega)]; simp only [gray_Decode.j0, if_true]
    rw [hd, decide_eq_false h]
    simp only [Option.bind_some]
    rw [if_neg (by decide)]
    simp only [if_true]
    rfl

theorem GrayCodes : skywaylaw2_GrayCodes.Pure := by
  intro height code hh hc
  obtain ⟨T, hG, hlen, hT⟩ := grays
  obtain ⟨N, hN⟩ : ∃ N, N + 1 = 60000 := ⟨59999, rfl⟩
  have hN' : 59999 ≤ N := by omega
  refine ⟨N + 1, ?_⟩
  clear hN
  have enc : ∀ h : Int, -1000 ≤ h → h ≤ 60000 → ∃ n : Nat, n < 4096 ∧ Int.tdiv (h + 1000) 100 = n ∧ gray_Encode.f h = some ((gr n : Int), 0) := by
    intro h h0 h1
    have ht : Int.tdiv (h + 1000) 100 = (h + 1000) / 100 := Int.tdiv_eq_ediv_of_nonneg (by omega)
    refine ⟨((h + 1000) / 100).toNat, by omega, by omega, ?_⟩
    unfold gray_Encode.f
    rw [if_neg (by omega), if_neg (by omega), gc_w (h - -1000) (by omega) (by omega), show h - -1000 = h + 1000 by omega, ht, gc_w _ (by omega) (by omega),
      show (h + 1000) / 100 = ((((h + 1000) / 100).toNat : Nat) : Int) by omega, show ((((h + 1000) / 100).toNat : Nat) : Int) / 2 = (((((h + 1000) / 100).toNat) / 2 : Nat) : Int) by omega, gc_xor _ _ (by omega) (by omega)]
    rfl
  have e0 : gray_Encode.f 0 = some (15, 0) := by
    obtain ⟨n, hn, ht, he⟩ := enc 0 (by omega) (by omega)
    have : n = 10 := by have : Int.tdiv (0 + 1000) 100 = 10 := by decide
                        omega
    subst this
    rw [he]; rfl
  unfold skywaylaw2_GrayCodes.f
  rw [e0]
  simp only [Option.bind_some, if_true]
  rw [show ((15 : Int) != 15) = false from rfl]
  simp only [skywaylaw2_GrayCodes.j0]
  rw [if_neg (by decide), hG N (by omega), gc_in]
  simp only [Option.bind_some]
  by_cases h : -1000 ≤ height ∧ height ≤ 60000
  · obtain ⟨n, hn, ht, he⟩ := enc height h.1 h.2
    have hdown : skywayref2_Down.f (height + 1000) 100 = some (n : Int) := by
      have ht' : Int.tdiv (height + 1000) 100 = (height + 1000) / 100 := Int.tdiv_eq_ediv_of_nonneg (by omega)
      unfold skywayref2_Down.f
      rw [if_neg (by omega), ht, gc_w (n : Int) (by omega) (by omega), gc_w ((n : Int) * 100) (by omega) (by omega), if_neg (by omega)]
    rw [he, decide_eq_true h]
    simp only [Option.bind_some, if_true]
    rw [gc_w (height + 1000) (by omega) (by omega), hdown]
    simp only [Option.bind_some]
    rw [if_pos (by omega), if_pos (by omega), hT n hn, if_pos rfl]
    exact part2 code T hlen hT N (by omega)
  · have he : gray_Encode.f height = some (0, 4) := by
      unfold gray_Encode.f
      by_cases g : height < -1000
      · rw [if_pos g]
      · rw [if_neg g, if_pos (by omega)]
    rw [he, decide_eq_false h]
    simp only [Option.bind_some]
    rw [if_neg (by decide)]
    simp only [if_true]
    exact part2 code T hlen hT N (by omega)

end Go.Proofs.Ytlaaeighanknpaa.Pure
