/- What is proved: a radio's sorted list and a plain list keep the same contacts, whatever is called; and what is asked at the end is the same. Pure; no condition. -/
import Derived.Test.YtokephobkllfgaaTcn3
namespace Go.Proofs.YtokephobkllfgaaCn
open Go Go.Proofs Go.Proofs.YtokephobkllfgaaEv Go.Proofs.YtokephobkllfgaaSs
set_option linter.unusedVariables false
set_option linter.unusedSimpArgs false
/-! ### Finding -/
theorem ix_spec {α : Type} (p : α → Bool) : ∀ (l : List α) (k : Int), (ixP p k l = -1 ∧ ∀ x ∈ l, p x = false) ∨ ∃ (j : Nat) (x : α), ixP p k l = k + (j : Int) ∧ l[j]? = some x ∧ p x = true
  | [], k => Or.inl ⟨rfl, fun x h => by simp at h⟩
  | y :: r, k => by
    unfold ixP
    cases hp : p y with
    | true => exact Or.inr ⟨0, y, by simp, rfl, hp⟩
    | false =>
      simp only [Bool.false_eq_true, if_false]
      rcases ix_spec p r (k + 1) with ⟨h1, h2⟩ | ⟨j, x, h1, h2, h3⟩
      · refine Or.inl ⟨h1, fun x hx => ?_⟩
        rcases List.mem_cons.1 hx with rfl | hx
        · exact hp
        · exact h2 x hx
      · exact Or.inr ⟨j + 1, x, by rw [h1]; omega, by simpa using h2, h3⟩
theorem ixT_spec (c : ByteArray) (l : List T3) : (ixT c l = -1 ∧ ∀ x ∈ l, x.1 ≠ c) ∨ ∃ (j : Nat) (x : T3), ixT c l = (j : Int) ∧ l[j]? = some x ∧ x.1 = c := by
  rcases ix_spec (isT c) l 0 with ⟨h1, h2⟩ | ⟨j, x, h1, h2, h3⟩
  · exact Or.inl ⟨h1, fun x hx => of_decide_eq_false (h2 x hx)⟩
  · exact Or.inr ⟨j, x, by unfold ixT; rw [h1]; omega, h2, of_decide_eq_true h3⟩
theorem at_some {l : List T3} {j : Nat} {x : T3} (h : l[j]? = some x) : atT l (j : Int) = x := by
  unfold atT; rw [Int.toNat_natCast, List.getD, h]; rfl
theorem has_spec (c : ByteArray) {M : List T3} (hs : srtd M) : (hasT c M = false ∧ ∀ x ∈ M, x.1 ≠ c) ∨ (hasT c M = true ∧ ∃ x, M[lowT c M]? = some x ∧ x.1 = c) := by
  have hl := low_le c M
  by_cases h : lowT c M < M.length
  · obtain ⟨x, hx⟩ := get_ex h
    have h1 := mt (low_iff c hs _ x hx).1 (Nat.lt_irrefl _)
    have ha : atT M (lowI c M) = x := at_some hx
    by_cases h2 : strC x.1 c = 0
    · refine Or.inr ⟨?_, x, hx, strC_zero h2⟩
      unfold hasT
      rw [ha, h2, decide_eq_true (show lowI c M < (M.length : Int) by unfold lowI; omega)]; rfl
    · refine Or.inl ⟨?_, fun y hy e => ?_⟩
      · unfold hasT
        rw [ha, show (strC x.1 c == 0) = false by simpa using h2, Bool.and_false]
      · obtain ⟨j, hj⟩ := List.mem_iff_getElem?.1 hy
        subst e
        have h3 := low_iff y.1 hs j y hj
        rw [strC_self] at h3
        by_cases hjl : j = lowT y.1 M
        · subst hjl
          rw [hx] at hj; cases hj
          exact h2 (strC_self _)
        · have hlt : lowT y.1 M < j := by
            have : ¬ j < lowT y.1 M := fun h => absurd (h3.2 h) (by decide)
            omega
          have hxy : strC x.1 y.1 < 0 := by
            obtain ⟨hj', rfl⟩ := List.getElem?_eq_some_iff.1 hj
            obtain ⟨hx', rfl⟩ := List.getElem?_eq_some_iff.1 hx
            exact List.pairwise_iff_getElem.1 hs _ _ hx' hj' hlt
          exact h1 hxy
  · refine Or.inl ⟨?_, fun y hy e => ?_⟩
    · unfold hasT
      rw [decide_eq_false (show ¬ lowI c M < (M.length : Int) by unfold lowI; omega)]; rfl
    · obtain ⟨j, hj⟩ := List.mem_iff_getElem?.1 hy
      subst e
      have h3 := low_iff y.1 hs j y hj
      rw [strC_self] at h3
      have hj' := (List.getElem?_eq_some_iff.1 hj).1
      exact absurd (h3.2 (by omega)) (by decide)
theorem srtd_uniq : ∀ {M : List T3}, srtd M → ∀ x ∈ M, ∀ y ∈ M, x.1 = y.1 → x = y
  | [], _, x, hx, _, _, _ => by simp at hx
  | a :: L, h, x, hx, y, hy, he => by
    unfold srtd at h
    rw [List.pairwise_cons] at h
    rcases List.mem_cons.1 hx with rfl | hx1 <;> rcases List.mem_cons.1 hy with rfl | hy1
    · rfl
    · have := h.1 y hy1; rw [he, strC_self] at this; exact absurd this (by decide)
    · have := h.1 x hx1; rw [he, strC_self] at this; exact absurd this (by decide)
    · exact srtd_uniq h.2 x hx1 y hy1 he
/-- Both find the same contact, or none. -/
theorem rel_find (c : ByteArray) {M l : List T3} (hp : M.Perm l) (hs : srtd M) :
    (hasT c M = false ∧ ixT c l = -1 ∧ ∀ x ∈ M, x.1 ≠ c) ∨ (hasT c M = true ∧ ∃ x j, M[lowT c M]? = some x ∧ l[j]? = some x ∧ ixT c l = ((j : Nat) : Int) ∧ x.1 = c) := by
  rcases has_spec c hs with ⟨h1, h2⟩ | ⟨h1, x, h2, h3⟩
  · rcases ixT_spec c l with ⟨g1, g2⟩ | ⟨j, y, g1, g2, g3⟩
    · exact Or.inl ⟨h1, g1, h2⟩
    · exact absurd g3 (h2 y (hp.mem_iff.2 (List.mem_of_getElem? g2)))
  · rcases ixT_spec c l with ⟨g1, g2⟩ | ⟨j, y, g1, g2, g3⟩
    · exact absurd h3 (g2 x (hp.mem_iff.1 (List.mem_of_getElem? h2)))
    · have : x = y := srtd_uniq hs x (List.mem_of_getElem? h2) y (hp.mem_iff.2 (List.mem_of_getElem? g2)) (by rw [h3, g3])
      subst this
      exact Or.inr ⟨h1, x, j, h2, g2, g1, h3⟩
/-! ### The errors are the same -/
theorem rng_eq (t a : Int) : (decide (t < a) || decide (t > 200000)) = !inS t a 200000 := by
  unfold inS
  rw [Bool.eq_iff_iff]; simp
theorem bne_comm (a b : Int) : (a != b) = (b != a) := by
  by_cases h : a = b
  · subst h; rfl
  · have h2 : ¬ b = a := fun e => h e.symm
    have e1 : (a == b) = false := by simpa using h
    have e2 : (b == a) = false := by simpa using h2
    unfold bne; rw [e1, e2]
theorem err_eq {kd : Int} {M l : List T3} (c : L4) (hp : M.Perm l) (hs : srtd M) : radE kd M c = cutE kd l c := by
  unfold radE cutE
  rcases rel_find c.2.2.2 hp hs with ⟨h1, h2, _⟩ | ⟨h1, x, j, h2, h3, h4, h5⟩
  · cases kd == 0 with
    | true =>
      simp only [cond_true]
      unfold tunE
      rw [h1, h2, rng_eq, hp.length_eq]; rfl
    | false =>
      simp only [cond_false]
      cases kd == 1 with
      | true =>
        simp only [cond_true]
        unfold heaE
        rw [h1, h2]; rfl
      | false =>
        simp only [cond_false]
        unfold leaE
        rw [h1, h2]; rfl
  · have ha : atT M (lowI c.2.2.2 M) = x := at_some h2
    have hb : atT l (ixT c.2.2.2 l) = x := by rw [h4]; exact at_some h3
    have d1 : decide (ixT c.2.2.2 l < 0) = false := decide_eq_false (by omega)
    have d2 : decide (ixT c.2.2.2 l ≥ 0) = true := decide_eq_true (by omega)
    cases kd == 0 with
    | true =>
      simp only [cond_true]
      unfold tunE
      rw [h1, ha, hb, rng_eq, d1, d2]; rfl
    | false =>
      simp only [cond_false]
      cases kd == 1 with
      | true =>
        simp only [cond_true]
        unfold heaE
        rw [h1, ha, hb, rng_eq, d1, bne_comm]; rfl
      | false =>
        simp only [cond_false]
        unfold leaE
        rw [h1, d1]; rfl
/-! ### What a call keeps -/
theorem perm_at {α : Type} : ∀ {L : List α} {j : Nat} {x : α}, L[j]? = some x → (x :: L.eraseIdx j).Perm L
  | [], j, x, h => by simp at h
  | a :: r, 0, x, h => by
    obtain rfl : a = x := by simpa using h
    exact List.Perm.refl _
  | a :: r, j + 1, x, h => by
    have h1 := perm_at (L := r) (j := j) (x := x) (by simpa using h)
    exact (List.Perm.swap a x _).trans (h1.cons a)
theorem perm_set {α : Type} {L : List α} {j : Nat} (y : α) (h : j < L.length) : (y :: L.eraseIdx j).Perm (L.set j y) := by
  have h1 : (L.set j y)[j]? = some y := by rw [List.getElem?_set_self h]
  have h2 := perm_at h1
  rwa [List.eraseIdx_set_eq] at h2
theorem perm_set2 {α : Type} {M l : List α} {i j : Nat} {x : α} (y : α) (hp : M.Perm l) (hi : M[i]? = some x) (hj : l[j]? = some x) : (M.eraseIdx i).Perm (l.eraseIdx j) ∧ (M.set i y).Perm (l.set j y) := by
  have h1 : (M.eraseIdx i).Perm (l.eraseIdx j) := ((perm_at hi).trans (hp.trans (perm_at hj).symm)).cons_inv
  exact ⟨h1, (perm_set y (List.getElem?_eq_some_iff.1 hi).1).symm.trans ((h1.cons y).trans (perm_set y (List.getElem?_eq_some_iff.1 hj).1))⟩
theorem srtd_map {M : List T3} : srtd M ↔ (M.map fun x => x.1).Pairwise fun a b => strC a b < 0 := by
  unfold srtd; rw [List.pairwise_map]
theorem map_keep {L : List T3} {j : Nat} {x y : T3} (hx : L[j]? = some x) (h : y.1 = x.1) : (L.set j y).map (fun x => x.1) = L.map fun x => x.1 := by
  apply List.ext_getElem?
  intro i
  rw [List.map_set, List.getElem?_set]
  split
  · rename_i e
    subst e
    obtain ⟨hl, he⟩ := List.getElem?_eq_some_iff.1 hx
    simp [h, hl, he]
  · rfl
theorem srtd_set {M : List T3} {j : Nat} {x y : T3} (hs : srtd M) (hx : M[j]? = some x) (h : y.1 = x.1) : srtd (M.set j y) := by
  rw [srtd_map] at hs ⊢
  rw [map_keep hx h]; exact hs
theorem ok_set {M : List T3} {j : Nat} {y : T3} (h : okT M = true) (hy : inS y.2.2 0 200000 = true) : okT (M.set j y) = true := by
  rw [okT_iff] at h ⊢
  intro z hz
  rcases List.mem_or_eq_of_mem_set hz with hz | rfl
  · exact h z hz
  · exact hy
theorem ins_at (s : T3) : ∀ (M : List T3), srtd M → (∀ x ∈ M, x.1 ≠ s.1) → srtd (insG M (lowI s.1 M) [s]) ∧ (insG M (lowI s.1 M) [s]).Perm (s :: M)
  | [], _, _ => ⟨by simp [insG, srtd], by simp [insG]⟩
  | y :: r, hs, hn => by
    have hs' := hs
    unfold srtd at hs'
    rw [List.pairwise_cons] at hs'
    by_cases hy : strC y.1 s.1 < 0
    · have e1 : lowT s.1 (y :: r) = lowT s.1 r + 1 := by
        show (bif decide (strC y.1 s.1 < 0) then lowT s.1 r + 1 else 0) = _
        rw [decide_eq_true hy]; rfl
      obtain ⟨g1, g2⟩ := ins_at s r hs'.2 fun x hx => hn x (List.mem_cons_of_mem _ hx)
      have e : insG (y :: r) (lowI s.1 (y :: r)) [s] = y :: insG r (lowI s.1 r) [s] := by
        unfold insG lowI
        rw [e1, Int.toNat_natCast, Int.toNat_natCast]; simp
      rw [e]
      constructor
      · unfold srtd
        rw [List.pairwise_cons]
        refine ⟨fun z hz => ?_, g1⟩
        rcases List.mem_cons.1 (g2.mem_iff.1 hz) with rfl | hz
        · exact hy
        · exact hs'.1 z hz
      · exact (List.Perm.cons y g2).trans (List.Perm.swap s y r)
    · have e1 : lowT s.1 (y :: r) = 0 := by
        show (bif decide (strC y.1 s.1 < 0) then lowT s.1 r + 1 else 0) = _
        rw [decide_eq_false hy]; rfl
      have e : insG (y :: r) (lowI s.1 (y :: r)) [s] = s :: y :: r := by
        unfold insG lowI
        rw [e1]; simp
      rw [e]
      refine ⟨?_, List.Perm.refl _⟩
      have h0 : strC y.1 s.1 ≠ 0 := fun h => hn y (List.mem_cons_self ..) (strC_zero h)
      have h1 : strC s.1 y.1 < 0 := by have := strC_flip y.1 s.1; omega
      unfold srtd
      rw [List.pairwise_cons]
      refine ⟨fun z hz => ?_, hs⟩
      rcases List.mem_cons.1 hz with rfl | hz
      · exact h1
      · exact strC_trans h1 (Int.le_of_lt (hs'.1 z hz))
theorem bif0 {b : Bool} {x y : Int} (h : (bif b then x else y) = 0) : (b = true ∧ x = 0) ∨ (b = false ∧ y = 0) := by
  cases b
  · exact Or.inr ⟨rfl, h⟩
  · exact Or.inl ⟨rfl, h⟩
theorem tun_ok {M : List T3} {c : ByteArray} {f t : Int} (h : tunE M c f t = 0) : inS t 0 200000 = true := by
  unfold tunE at h
  rcases bif0 h with ⟨_, h2⟩ | ⟨_, h2⟩
  · exact absurd h2 (by decide)
  rcases bif0 h2 with ⟨_, h4⟩ | ⟨h3, _⟩
  · exact absurd h4 (by decide)
  rw [Bool.or_eq_false_iff, rng_eq] at h3
  simpa using h3.2
theorem hea_ok {M : List T3} {c : ByteArray} {f t : Int} (h : heaE M c f t = 0) : hasT c M = true ∧ inS t (atT M (lowI c M)).2.2 200000 = true := by
  unfold heaE at h
  rcases bif0 h with ⟨_, h2⟩ | ⟨h1, h2⟩
  · exact absurd h2 (by decide)
  rcases bif0 h2 with ⟨_, h4⟩ | ⟨_, h4⟩
  · exact absurd h4 (by decide)
  rcases bif0 h4 with ⟨_, h6⟩ | ⟨h5, _⟩
  · exact absurd h6 (by decide)
  rw [rng_eq] at h5
  exact ⟨by simpa using h1, by simpa using h5⟩
theorem inS_mk {n a b : Int} (h : a ≤ n ∧ n ≤ b) : inS n a b = true := by
  unfold inS; simp; omega
theorem rel_step {kd : Int} {M l : List T3} (c : L4) (h : relT M l) : relT (radM kd M c) (cutL kd l c) ∧ (radM kd M c).length ≤ M.length + 1 := by
  obtain ⟨hp, hs, hok⟩ := h
  have he := err_eq (kd := kd) c hp hs
  have hrel : relT M l := ⟨hp, hs, hok⟩
  unfold radM cutL
  rw [← he]
  unfold radE
  cases hk0 : kd == 0 with
  | true =>
    simp only [cond_true]
    unfold tunM
    cases hE : tunE M c.2.2.2 c.2.1 c.2.2.1 == 0 with
    | false => exact ⟨hrel, Nat.le_succ _⟩
    | true =>
      have ht := tun_ok (M := M) (c := c.2.2.2) (f := c.2.1) (t := c.2.2.1) (by simpa using hE)
      simp only [cond_true]
      rcases rel_find c.2.2.2 hp hs with ⟨h1, h2, h3⟩ | ⟨h1, x, j, h2, h3, h4, h5⟩
      · rw [h1, h2]
        obtain ⟨g1, g2⟩ := ins_at (c.2.2.2, c.2.1, c.2.2.1) M hs h3
        refine ⟨⟨?_, g1, ?_⟩, ?_⟩
        · exact g2.trans ((hp.cons _).trans (List.perm_append_singleton _ _).symm)
        · rw [okT_iff] at hok ⊢
          intro z hz
          rcases List.mem_cons.1 (g2.mem_iff.1 hz) with rfl | hz
          · exact ht
          · exact hok z hz
        · have := g2.length_eq
          simp only [cond_false]
          rw [this]; simp
      · rw [h1, h4, decide_eq_true (show ((j : Nat) : Int) ≥ 0 by omega)]
        simp only [cond_true, Int.toNat_natCast]
        have e1 : (lowI c.2.2.2 M).toNat = lowT c.2.2.2 M := by unfold lowI; omega
        rw [e1]
        exact ⟨⟨(perm_set2 _ hp h2 h3).2, srtd_set hs h2 h5.symm, ok_set hok ht⟩, by simp⟩
  | false =>
    simp only [cond_false]
    cases hk1 : kd == 1 with
    | true =>
      simp only [cond_true]
      unfold heaM
      cases hE : heaE M c.2.2.2 c.2.1 c.2.2.1 == 0 with
      | false => exact ⟨hrel, Nat.le_succ _⟩
      | true =>
        obtain ⟨hh, ht⟩ := hea_ok (M := M) (c := c.2.2.2) (f := c.2.1) (t := c.2.2.1) (by simpa using hE)
        simp only [cond_true]
        rcases rel_find c.2.2.2 hp hs with ⟨h1, _⟩ | ⟨h1, x, j, h2, h3, h4, h5⟩
        · rw [h1] at hh; cases hh
        · have ha : atT M (lowI c.2.2.2 M) = x := at_some h2
          have hb : atT l (ixT c.2.2.2 l) = x := by rw [h4]; exact at_some h3
          rw [ha] at ht
          rw [ha, hb, h4, Int.toNat_natCast]
          have e1 : (lowI c.2.2.2 M).toNat = lowT c.2.2.2 M := by unfold lowI; omega
          rw [e1]
          have hx := inS_at (okT_iff.1 hok x (List.mem_of_getElem? h2))
          have ht := inS_at ht
          exact ⟨⟨(perm_set2 _ hp h2 h3).2, srtd_set hs h2 rfl, ok_set hok (inS_mk ⟨by show 0 ≤ c.2.2.1; omega, ht.2⟩)⟩, by simp⟩
    | false =>
      simp only [cond_false]
      unfold leaM leaE
      rcases rel_find c.2.2.2 hp hs with ⟨h1, _⟩ | ⟨h1, x, j, h2, h3, h4, h5⟩
      · rw [h1]; exact ⟨hrel, Nat.le_succ _⟩
      · rw [h1, h4, Int.toNat_natCast]
        have e1 : (lowI c.2.2.2 M).toNat = lowT c.2.2.2 M := by unfold lowI; omega
        rw [e1]
        refine ⟨⟨(perm_set2 x hp h2 h3).1, ?_, ?_⟩, Nat.le_trans (List.eraseIdx_sublist _ _).length_le (Nat.le_succ _)⟩
        · exact List.Pairwise.sublist (List.eraseIdx_sublist _ _) hs
        · rw [okT_iff] at hok ⊢
          exact fun z hz => hok z (List.mem_of_mem_eraseIdx hz)
theorem hasT_nil (c : ByteArray) : hasT c [] = false := rfl
theorem nil_step {kd : Int} {M : List T3} {mn : Bool} (c : L4) (h : mn = true → M = []) : radN kd M mn c = true → radM kd M c = [] := by
  unfold radN radM
  intro hn
  cases hk0 : kd == 0 with
  | true =>
    rw [hk0] at hn
    simp only [cond_true] at hn ⊢
    unfold tunM
    cases hE : tunE M c.2.2.2 c.2.1 c.2.2.1 == 0 with
    | false => rw [hE] at hn; exact h hn
    | true =>
      rw [hE] at hn
      cases hh : hasT c.2.2.2 M with
      | false => rw [hh] at hn; cases hn
      | true =>
        rw [hh] at hn
        have := h hn
        rw [this] at hh; cases hh
  | false =>
    rw [hk0] at hn
    simp only [cond_false] at hn ⊢
    have hM := h hn
    subst hM
    cases kd == 1 with
    | true => rfl
    | false => rfl
theorem run_inv : ∀ (C : List L4) (s : SM), relT s.1.1 s.2.1 → (s.1.2 = true → s.1.1 = []) → relT (runC s C).1.1 (runC s C).2.1 ∧ ((runC s C).1.2 = true → (runC s C).1.1 = []) ∧ (runC s C).1.1.length ≤ s.1.1.length + C.length
  | [], s, h, h2 => ⟨h, h2, Nat.le_refl _⟩
  | c :: r, s, h, h2 => by
    obtain ⟨g1, g2⟩ := rel_step (kd := cutS c.1 2) c h
    obtain ⟨f1, f2, f3⟩ := run_inv r (stepC s c) g1 (nil_step c h2)
    refine ⟨f1, f2, ?_⟩
    show (runC (stepC s c) r).1.1.length ≤ _
    have : (stepC s c).1.1.length ≤ s.1.1.length + 1 := g2
    simp; omega
theorem rel_nil : relT [] [] := ⟨List.Perm.refl _, List.Pairwise.nil, rfl⟩
/-! ### The end: lists -/
theorem srt_end {M l : List T3} (h : relT M l) : srtC l = M := by
  obtain ⟨hp, hs, _⟩ := h
  obtain ⟨g1, g2⟩ := srt_all l
  have hn : (srtC l).Pairwise fun x y => x.1 ≠ y.1 := by
    have hM : M.Pairwise fun x y => x.1 ≠ y.1 := hs.imp fun {x y} h e => by rw [e, strC_self] at h; exact absurd h (by decide)
    exact (List.Perm.pairwise_iff (fun {x y} h e => h e.symm) (hp.trans g1.symm)).1 hM
  refine YtokephobkllfgaaStr.sorted_one (r := fun x y : T3 => strC x.1 y.1 < 0) (fun x y h1 h2 => ?_) (g1.trans hp.symm) ?_ hs
  · have := strC_flip x.1 y.1; omega
  · refine (g2.and hn).imp fun {x y} hxy => ?_
    have h1 := of_decide_eq_false hxy.1
    have h2 := strC_flip x.1 y.1
    have h3 : strC x.1 y.1 ≠ 0 := fun h => hxy.2 (strC_zero h)
    unfold cmpC at h1
    omega
theorem eqT_self (x : T3) : eqT x x = true := by unfold eqT; simp
theorem eqTs_self : ∀ l : List T3, eqTs l l = true
  | [] => rfl
  | x :: r => by rw [eqTs_cons, eqT_self, eqTs_self r]; rfl
theorem eqWs_self : ∀ l : List ByteArray, eqWs l l = true
  | [] => rfl
  | x :: r => by rw [eqWs_cons, eqWs_self r]; simp
/-! ### The end: what was lost -/
abbrev fu (u : Int) (l : List T3) : List T3 := l.filter fun x => x.2.2 == u
abbrev asc (l : List T3) : Prop := l.Pairwise fun x y => x.2.2 ≤ y.2.2
theorem fu_cons (u : Int) (x : T3) (l : List T3) : fu u (x :: l) = bif x.2.2 == u then x :: fu u l else fu u l := by
  unfold fu; rw [List.filter_cons]; cases x.2.2 == u <;> rfl
theorem stab_uniq : ∀ {A B : List T3}, asc A → asc B → (∀ u, fu u A = fu u B) → A = B
  | [], [], _, _, _ => rfl
  | [], b :: B, _, _, h => by have := h b.2.2; rw [fu_cons] at this; simp at this
  | a :: A, [], _, _, h => by have := h a.2.2; rw [fu_cons] at this; simp at this
  | a :: A, b :: B, hA, hB, h => by
    have hA' := List.pairwise_cons.1 hA
    have hB' := List.pairwise_cons.1 hB
    have ma : a ∈ b :: B := by
      have : a ∈ fu a.2.2 (b :: B) := by rw [← h, fu_cons]; simp
      exact (List.mem_filter.1 this).1
    have mb : b ∈ a :: A := by
      have : b ∈ fu b.2.2 (a :: A) := by rw [h, fu_cons]; simp
      exact (List.mem_filter.1 this).1
    have e : a.2.2 = b.2.2 := by
      have h1 : b.2.2 ≤ a.2.2 := by
        rcases List.mem_cons.1 ma with rfl | ma
        · exact Int.le_refl _
        · exact hB'.1 a ma
      have h2 : a.2.2 ≤ b.2.2 := by
        rcases List.mem_cons.1 mb with rfl | mb
        · exact Int.le_refl _
        · exact hA'.1 b mb
      omega
    have e2 : a = b := by
      have := h a.2.2
      rw [fu_cons, fu_cons, show (a.2.2 == a.2.2) = true by simp, show (b.2.2 == a.2.2) = true by simp [e]] at this
      exact (List.cons.inj this).1
    subst e2
    rw [stab_uniq hA'.2 hB'.2 fun u => ?_]
    have := h u
    rw [fu_cons, fu_cons] at this
    cases hu : a.2.2 == u with
    | true => rw [hu] at this; exact (List.cons.inj this).2
    | false => rw [hu] at this; exact this
theorem fu_app (u : Int) (a b : List T3) : fu u (a ++ b) = fu u a ++ fu u b := List.filter_append ..
theorem atR_eq (t : Int) : ∀ (l : List T3) (o : List T3 × Bool), (atR t o l).1 = o.1 ++ fu t l
  | [], o => by show o.1 = _; simp
  | x :: r, o => by
    rw [fu_cons]
    show (bif x.2.2 == t then atR t (o.1 ++ [x], false) r else atR t o r).1 = _
    cases x.2.2 == t with
    | true => simp only [cond_true]; rw [atR_eq t r]; simp
    | false => simp only [cond_false]; exact atR_eq t r o
theorem fu_fu (u t : Int) (l : List T3) : fu u (fu t l) = if u = t then fu t l else [] := by
  unfold fu
  rw [List.filter_filter]
  by_cases h : u = t
  · subst h; rw [if_pos rfl]; congr 1; funext x; simp
  · rw [if_neg h, List.filter_eq_nil_iff]
    intro x _
    simp; intro h1; omega
theorem fu_los (u T lim : Int) (M : List T3) (h1 : 0 ≤ T) (h2 : T ≤ 200000) (h3 : 0 ≤ lim) : fu u (M.filter (losB T lim)) = if T - u > lim then fu u M else [] := by
  unfold fu
  rw [List.filter_filter]
  by_cases h : T - u > lim
  · rw [if_pos h]
    apply List.filter_congr
    intro x _
    unfold losB
    rw [decide_eq_true (show T ≥ 0 from h1), decide_eq_true h2, decide_eq_true (show lim ≥ 0 from h3)]
    by_cases hx : x.2.2 = u
    · subst hx; simp; omega
    · simp [hx]
  · rw [if_neg h, List.filter_eq_nil_iff]
    intro x _
    unfold losB
    simp; intro hx; subst hx; omega
theorem cnt_step (t : Int) : ∀ M : List T3, (M.filter fun x => decide (x.2.2 < t + 1)).length = (M.filter fun x => decide (x.2.2 < t)).length + (fu t M).length
  | [] => rfl
  | x :: r => by
    have ih := cnt_step t r
    rw [fu_cons, List.filter_cons, List.filter_cons]
    by_cases h1 : x.2.2 < t
    · rw [if_pos (decide_eq_true (show x.2.2 < t + 1 by omega)), if_pos (decide_eq_true h1), show (x.2.2 == t) = false by simp; omega]
      simp only [List.length_cons, cond_false]; omega
    · rw [if_neg (show ¬ decide (x.2.2 < t) = true by simpa using h1)]
      by_cases h2 : x.2.2 = t
      · rw [if_pos (decide_eq_true (show x.2.2 < t + 1 by omega)), show (x.2.2 == t) = true by simpa using h2]
        simp only [List.length_cons, cond_true]; omega
      · rw [if_neg (show ¬ decide (x.2.2 < t + 1) = true by simp; omega), show (x.2.2 == t) = false by simpa using h2]
        exact ih
theorem la_all {T lim : Int} {M : List T3} (hok : okT M = true) (h1 : 0 ≤ T) (h2 : T ≤ 200000) (h3 : 0 ≤ lim) : ∀ (n : Nat) (t : Int) (o : List T3 × Bool), (n : Int) = T + 1 - t → 0 ≤ t → asc o.1 → (∀ x ∈ o.1, x.2.2 < t) → (∀ u, fu u o.1 = if u < t then fu u M else []) → (∀ u, 0 ≤ u → u < t → T - u > lim) → o.1.length = (M.filter fun x => decide (x.2.2 < t)).length →
    asc (laR T lim M n t o).1 ∧ ∀ u, fu u (laR T lim M n t o).1 = fu u (M.filter (losB T lim))
  | n, t, o, hn, h0, ha, hx, hf, hc, hL => by
    have neg : ∀ u, u < 0 → fu u M = [] := by
      intro u hu
      unfold fu
      rw [List.filter_eq_nil_iff]
      intro x hx
      have := inS_at (okT_iff.1 hok x hx)
      simp; omega
    have done : (∀ u, t ≤ u → (T - u > lim → fu u M = [])) → ∀ u, fu u o.1 = fu u (M.filter (losB T lim)) := by
      intro hd u
      rw [hf, fu_los u T lim M h1 h2 h3]
      by_cases hu : u < t
      · rw [if_pos hu]
        by_cases hu0 : 0 ≤ u
        · rw [if_pos (hc u hu0 hu)]
        · rw [neg u (by omega)]; simp
      · rw [if_neg hu]
        by_cases hl : T - u > lim
        · rw [if_pos hl, hd u (by omega) hl]
        · rw [if_neg hl]
    cases n with
    | zero =>
      refine ⟨ha, done fun u hu hl => ?_⟩
      omega
    | succ n =>
      unfold laR
      cases hb : decide (T - t ≤ lim) || (o.1.length : Int) == (M.length : Int) with
      | true =>
        simp only [cond_true]
        refine ⟨ha, done fun u hu hl => ?_⟩
        rw [Bool.or_eq_true] at hb
        rcases hb with hb | hb
        · have := of_decide_eq_true hb; omega
        · have hlen : o.1.length = M.length := by
            have : (o.1.length : Int) = (M.length : Int) := by simpa using hb
            omega
          have hfull := List.length_filter_eq_length_iff.1 (hL.symm.trans hlen)
          unfold fu
          rw [List.filter_eq_nil_iff]
          intro x hxm
          have := of_decide_eq_true (hfull x hxm)
          simp; omega
      | false =>
        simp only [cond_false]
        rw [Bool.or_eq_false_iff] at hb
        have hl := of_decide_eq_false hb.1
        refine la_all hok h1 h2 h3 n (t + 1) (atR t o M) (by omega) (by omega) ?_ ?_ ?_ ?_ (by rw [atR_eq, cnt_step, List.length_append, hL])
        · rw [atR_eq]
          refine List.pairwise_append.2 ⟨ha, ?_, fun x hx' y hy => ?_⟩
          · have hall : ∀ x ∈ fu t M, x.2.2 = t := fun x hx => by have := (List.mem_filter.1 hx).2; simpa using this
            exact List.pairwise_of_forall_mem_list fun x hx' y hy => by rw [hall x hx', hall y hy]; exact Int.le_refl _
          · have h4 := hx x hx'
            have h5 : y.2.2 = t := by have := (List.mem_filter.1 hy).2; simpa using this
            omega
        · intro x hx'
          rw [atR_eq] at hx'
          rcases List.mem_append.1 hx' with h | h
          · have := hx x h; omega
          · have h5 : x.2.2 = t := by have := (List.mem_filter.1 h).2; simpa using this
            omega
        · intro u
          rw [atR_eq, fu_app, hf, fu_fu]
          by_cases h4 : u < t
          · rw [if_pos h4, if_neg (by omega), if_pos (by omega), List.append_nil]
          · rw [if_neg h4, List.nil_append]
            by_cases h5 : u = t
            · subst h5; rw [if_pos rfl, if_pos (by omega)]
            · rw [if_neg h5, if_neg (by omega)]
        · intro u hu0 hu
          by_cases h4 : u < t
          · exact hc u hu0 h4
          · have : u = t := by omega
            subst this; omega
/-! ### Insertion sort keeps the order of what is alike -/
def insV (x : T3) : List T3 → List T3
  | [] => [x]
  | q :: r => if x.2.2 - q.2.2 < 0 then q :: insV x r else x :: q :: r
abbrev desc (l : List T3) : Prop := l.Pairwise fun x y => y.2.2 ≤ x.2.2
theorem insV_mem (x : T3) : ∀ (R : List T3) (y : T3), y ∈ insV x R → y = x ∨ y ∈ R
  | [], y, h => by simp [insV] at h; exact Or.inl h
  | q :: r, y, h => by
    unfold insV at h
    split at h
    · rcases List.mem_cons.1 h with rfl | h
      · exact Or.inr (List.mem_cons_self ..)
      · rcases insV_mem x r y h with h | h
        · exact Or.inl h
        · exact Or.inr (List.mem_cons_of_mem _ h)
    · rcases List.mem_cons.1 h with rfl | h
      · exact Or.inl rfl
      · exact Or.inr h
theorem insV_all (x : T3) : ∀ (R : List T3), desc R → desc (insV x R) ∧ ∀ u, fu u (insV x R) = fu u [x] ++ fu u R
  | [], _ => ⟨by simp [insV], fun u => by simp [insV]⟩
  | q :: r, h => by
    have h' := List.pairwise_cons.1 h
    obtain ⟨g1, g2⟩ := insV_all x r h'.2
    unfold insV
    split
    · rename_i hlt
      refine ⟨List.pairwise_cons.2 ⟨fun y hy => ?_, g1⟩, fun u => ?_⟩
      · rcases insV_mem x r y hy with rfl | hy
        · omega
        · exact h'.1 y hy
      · rw [fu_cons, g2, fu_cons u q]
        cases hq : q.2.2 == u with
        | false => rfl
        | true =>
          have hq : q.2.2 = u := by simpa using hq
          have : fu u [x] = [] := by
            unfold fu; rw [List.filter_eq_nil_iff]; intro z hz
            rw [List.mem_singleton] at hz; subst hz; simp; omega
          rw [this]; rfl
    · rename_i hge
      refine ⟨List.pairwise_cons.2 ⟨fun y hy => ?_, h⟩, fun u => ?_⟩
      · rcases List.mem_cons.1 hy with rfl | hy
        · omega
        · have := h'.1 y hy; omega
      · rw [← fu_app]; rfl
theorem insV_len (x : T3) : ∀ R : List T3, (insV x R).length = R.length + 1
  | [] => rfl
  | q :: r => by
    unfold insV
    split
    · simp [insV_len x r]
    · rfl
theorem sink_eq (x : T3) : ∀ (R S : List T3), sinkT (R.reverse ++ x :: S) R.length = (insV x R).reverse ++ S
  | [], S => rfl
  | q :: r, S => by
    have hl : ((q :: r).reverse ++ x :: S) = r.reverse ++ q :: x :: S := by simp
    rw [hl]
    have e1 : (r.reverse ++ q :: x :: S).getD (r.length + 1) zT = x := by
      rw [List.getD_eq_getElem?_getD, List.getElem?_append_right (by simp)]; simp
    have e2 : (r.reverse ++ q :: x :: S).getD r.length zT = q := by
      rw [List.getD_eq_getElem?_getD, List.getElem?_append_right (by simp)]; simp
    have e3 : swp (r.reverse ++ q :: x :: S) r.length = r.reverse ++ x :: q :: S := by
      unfold swp
      rw [e1, e2, List.set_append_right _ _ (by simp), List.set_append_right _ _ (by simp)]
      simp
    show (bif decide (((r.reverse ++ q :: x :: S).getD (r.length + 1) zT).2.2 - ((r.reverse ++ q :: x :: S).getD r.length zT).2.2 < 0) then sinkT (swp (r.reverse ++ q :: x :: S) r.length) r.length else r.reverse ++ q :: x :: S) = _
    rw [e1, e2, e3]
    unfold insV
    by_cases h : x.2.2 - q.2.2 < 0
    · rw [decide_eq_true h, cond_true, if_pos h, sink_eq x r (q :: S)]; simp
    · rw [decide_eq_false h, cond_false, if_neg h]; simp
theorem iso_all : ∀ (S R : List T3), desc R → ∃ R', isoT S.length R.length (R.reverse ++ S) = R'.reverse ∧ desc R' ∧ ∀ u, fu u R'.reverse = fu u (R.reverse ++ S)
  | [], R, h => ⟨R, by simp [isoT], h, fun u => by simp⟩
  | x :: S, R, h => by
    obtain ⟨g1, g2⟩ := insV_all x R h
    obtain ⟨R', f1, f2, f3⟩ := iso_all S (insV x R) g1
    refine ⟨R', ?_, f2, fun u => ?_⟩
    · show isoT S.length (R.length + 1) (sinkT (R.reverse ++ x :: S) R.length) = _
      rw [sink_eq, ← insV_len x R]; exact f1
    · rw [f3, fu_app, fu_app]
      have e : fu u (insV x R).reverse = fu u R.reverse ++ fu u [x] := by
        have := g2 u
        unfold fu at this ⊢
        rw [List.filter_reverse, this, List.reverse_append, List.filter_reverse]
        congr 1
        by_cases hxu : x.2.2 = u <;> simp [hxu]
      rw [e, List.append_assoc, ← fu_app]; rfl
theorem iso_end (F : List T3) : asc (isoT (F.length - 1) 1 F) ∧ ∀ u, fu u (isoT (F.length - 1) 1 F) = fu u F := by
  cases F with
  | nil => exact ⟨List.Pairwise.nil, fun u => rfl⟩
  | cons x S =>
    obtain ⟨R', h1, h2, h3⟩ := iso_all S [x] (by simp)
    have h1 : isoT ((x :: S).length - 1) 1 (x :: S) = R'.reverse := h1
    rw [h1]
    exact ⟨List.pairwise_reverse.2 h2, h3⟩
theorem lost_end {T lim : Int} {M : List T3} (hok : okT M = true) (h1 : 0 ≤ T) (h2 : T ≤ 200000) (h3 : 0 ≤ lim) : (lostR T lim M).1 = (laR T lim M (T + 1).toNat 0 ([], true)).1 := by
  obtain ⟨g1, g2⟩ := iso_end (losR T lim ([], true) M).1
  have hx : ((T + 1).toNat : Int) = T + 1 - 0 := by omega
  obtain ⟨f1, f2⟩ := la_all hok h1 h2 h3 (T + 1).toNat 0 ([], true) hx (Int.le_refl _) List.Pairwise.nil (fun x hx => by simp at hx) (fun u => by
    show [] = _
    by_cases hu : u < 0
    · rw [if_pos hu]
      symm
      show fu u M = []
      unfold fu
      rw [List.filter_eq_nil_iff]
      intro x hx
      have := inS_at (okT_iff.1 hok x hx)
      simp; omega
    · rw [if_neg hu]) (fun u hu hu2 => by omega) (by
    symm
    rw [List.length_eq_zero_iff.2]; rfl
    rw [List.filter_eq_nil_iff]
    intro x hx
    have := inS_at (okT_iff.1 hok x hx)
    simp; omega)
  refine stab_uniq g1 f1 fun u => ?_
  rw [f2]
  refine (g2 u).trans ?_
  rw [losR_eq]; rfl
theorem lost_none {T lim : Int} {M : List T3} (h : ¬ (0 ≤ T ∧ T ≤ 200000 ∧ 0 ≤ lim)) : (lostR T lim M).1 = [] := by
  have e : (losR T lim ([], true) M).1 = [] := by
    rw [losR_eq, List.nil_append, List.filter_eq_nil_iff]
    intro x _
    unfold losB
    simp; omega
  show isoT ((losR T lim ([], true) M).1.length - 1) 1 (losR T lim ([], true) M).1 = []
  rw [e]; rfl
end Go.Proofs.YtokephobkllfgaaCn
