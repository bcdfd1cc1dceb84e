/- What is proved: the search finds the first positions that fit, of all positions tried one after the other. Condition: the labels are valid, at most three, at least one. -/
import Derived.Test.YtacdahpjmeianaaTlb4
namespace Go.Proofs.YtacdahpjmeianaaLb
open Go Go.Proofs Go.Proofs.YtacdahpjmeianaaEv
set_option maxRecDepth 100000
set_option linter.unusedSimpArgs false
set_option linter.unusedVariables false
theorem bool_iff {a b : Bool} (h : a = true ↔ b = true) : a = b := by
  cases a <;> cases b <;> simp at h <;> rfl
/-! ### Cells -/
abbrev iN (a b c d x y : Int) : Prop := a ≤ x ∧ x < a + c ∧ b ≤ y ∧ y < b + d
abbrev mN (a b c d e f g h : Int) : Prop := a < e + g ∧ e < a + c ∧ b < f + h ∧ f < b + d
theorem inW_iff {c : It} (h : bxOk c) {x y : Int} : inW c x y = true ↔ iN c.1 c.2.1 c.2.2.1 c.2.2.2 x y := by
  obtain ⟨g1, g2, g3, g4, g5, g6, g7, g8⟩ := h
  unfold inW
  rw [W_id (c.1 + c.2.2.1) (by omega) (by omega), W_id (c.2.1 + c.2.2.2) (by omega) (by omega)]
  simp only [Bool.and_eq_true, decide_eq_true_eq, ge_iff_le]
theorem meetW_iff {a b : It} (h : bxOk a) (k : bxOk b) : meetW a b = true ↔ mN a.1 a.2.1 a.2.2.1 a.2.2.2 b.1 b.2.1 b.2.2.1 b.2.2.2 := by
  obtain ⟨g1, g2, g3, g4, g5, g6, g7, g8⟩ := h
  obtain ⟨f1, f2, f3, f4, f5, f6, f7, f8⟩ := k
  unfold meetW
  rw [W_id (a.1 + a.2.2.1) (by omega) (by omega), W_id (a.2.1 + a.2.2.2) (by omega) (by omega), W_id (b.1 + b.2.2.1) (by omega) (by omega), W_id (b.2.1 + b.2.2.2) (by omega) (by omega)]
  simp only [Bool.and_eq_true, decide_eq_true_eq]
theorem anyC_iff {c : It} {row : Int} : ∀ (d : Nat) (x : Int), anyC c row d x = true ↔ ∃ j, x ≤ j ∧ j < x + d ∧ inW c j row = true
  | 0, x => by
    constructor
    · intro h; cases h
    · rintro ⟨j, h1, h2, _⟩; omega
  | d + 1, x => by
    unfold anyC
    rw [Bool.or_eq_true, anyC_iff d (x + 1)]
    constructor
    · rintro (h | ⟨j, h1, h2, h3⟩)
      · exact ⟨x, by omega, by omega, h⟩
      · exact ⟨j, by omega, by omega, h3⟩
    · rintro ⟨j, h1, h2, h3⟩
      by_cases hj : j = x
      · subst hj; exact Or.inl h3
      · exact Or.inr ⟨j, by omega, by omega, h3⟩
theorem anyR_iff {b c : It} : ∀ (d : Nat) (y : Int), anyR b c d y = true ↔ ∃ j, y ≤ j ∧ j < y + d ∧ colV b c j b.1 = true
  | 0, y => by
    constructor
    · intro h; cases h
    · rintro ⟨j, h1, h2, _⟩; omega
  | d + 1, y => by
    unfold anyR
    rw [Bool.or_eq_true, anyR_iff d (y + 1)]
    constructor
    · rintro (h | ⟨j, h1, h2, h3⟩)
      · exact ⟨y, by omega, by omega, h⟩
      · exact ⟨j, by omega, by omega, h3⟩
    · rintro ⟨j, h1, h2, h3⟩
      by_cases hj : j = y
      · subst hj; exact Or.inl h3
      · exact Or.inr ⟨j, by omega, by omega, h3⟩
theorem meets_eq {b c : It} (h : bxOk b) (k : bxOk c) : meets b c = meetW b c := by
  refine bool_iff ?_
  rw [meetW_iff h k]
  have hh := h; have kk := k
  obtain ⟨g1, g2, g3, g4, g5, g6, g7, g8⟩ := h
  obtain ⟨f1, f2, f3, f4, f5, f6, f7, f8⟩ := k
  unfold meets rowV
  rw [anyR_iff]
  constructor
  · rintro ⟨y, y1, y2, hy⟩
    unfold colV at hy
    obtain ⟨x, x1, x2, hx⟩ := (anyC_iff _ _).1 hy
    obtain ⟨i1, i2, i3, i4⟩ := (inW_iff kk).1 hx
    have y1 : @LE.le Int _ b.2.1 y := y1
    have x1 : @LE.le Int _ b.1 x := x1
    exact ⟨by omega, by omega, by omega, by omega⟩
  · rintro ⟨m1, m2, m3, m4⟩
    refine ⟨max b.2.1 c.2.1, by omega, by omega, ?_⟩
    unfold colV
    refine (anyC_iff _ _).2 ⟨max b.1 c.1, by omega, by omega, (inW_iff kk).2 ⟨by omega, by omega, by omega, by omega⟩⟩
theorem one_ok {y : It} (h : okIt y) : bxOk (oneB y) := by
  obtain ⟨g1, g2, g3, g4, g5, g6, g7, g8⟩ := h
  exact ⟨by show @LE.le Int _ (-5000) y.1; omega, by show @LE.le Int _ y.1 5000; omega, by show @LE.le Int _ (-5000) y.2.1; omega, by show @LE.le Int _ y.2.1 5000; omega, show (1 : Int) ≤ 1 by decide, show (1 : Int) ≤ 40 by decide, show (1 : Int) ≤ 1 by decide, show (1 : Int) ≤ 40 by decide⟩
theorem cov_one {b y : It} (h : bxOk b) (k : okIt y) : qC b y = inW b y.1 y.2.1 := by
  refine bool_iff ?_
  unfold qC
  rw [meetW_iff h (one_ok k), inW_iff h]
  show (@LT.lt Int _ b.1 (y.1 + 1) ∧ @LT.lt Int _ y.1 (b.1 + b.2.2.1) ∧ @LT.lt Int _ b.2.1 (y.2.1 + 1) ∧ @LT.lt Int _ y.2.1 (b.2.1 + b.2.2.2)) ↔ (@LE.le Int _ b.1 y.1 ∧ @LT.lt Int _ y.1 (b.1 + b.2.2.1) ∧ @LE.le Int _ b.2.1 y.2.1 ∧ @LT.lt Int _ y.2.1 (b.2.1 + b.2.2.2))
  omega
theorem any_congr {p q : It → Bool} : ∀ {l : List It}, (∀ x ∈ l, p x = q x) → l.any p = l.any q
  | [], _ => rfl
  | x :: r, h => by
    rw [List.any_cons, List.any_cons, h x List.mem_cons_self, any_congr (fun y hy => h y (List.mem_cons_of_mem _ hy))]
theorem cov_eq {b : It} {l : List It} (h : bxOk b) (k : ∀ x ∈ l, okIt x) : covS b l = insV b l 0 := any_congr fun x hx => cov_one h (k x hx)
/-! ### What is placed -/
def bxs (l : List It) : Nat → List Int → List It
  | _, [] => []
  | k, s :: r => boxS (atI l k) s :: bxs l (k + 1) r
theorem bxs_app (l : List It) (s : Int) : ∀ (sp : List Int) (k : Nat), bxs l k (sp ++ [s]) = bxs l k sp ++ [boxS (atI l (k + sp.length)) s]
  | [], k => rfl
  | a :: r, k => by
    show boxS (atI l k) a :: bxs l (k + 1) (r ++ [s]) = boxS (atI l k) a :: (bxs l (k + 1) r ++ [_])
    rw [bxs_app l s r (k + 1)]
    simp only [List.length_cons]
    rw [show k + 1 + r.length = k + (r.length + 1) by omega]
theorem bxs_len (l : List It) : ∀ (sp : List Int) (k : Nat), (bxs l k sp).length = sp.length
  | [], _ => rfl
  | _ :: r, k => by show (bxs l (k + 1) r).length + 1 = r.length + 1; rw [bxs_len l r (k + 1)]
def good (l : List It) (sp : List Int) (s : Int) : Bool := !(covS (boxS (atI l sp.length) s) l || !freeS (boxS (atI l sp.length) s) (bxs l 0 sp))
def okF (l : List It) : List Int → List Int → Bool
  | _, [] => true
  | sp, s :: r => good l sp s && okF l (sp ++ [s]) r
def ints : Nat → Int → List Int
  | 0, _ => []
  | n + 1, s => s :: ints n (s + 1)
def extL : Nat → List (List Int)
  | 0 => [[]]
  | e + 1 => (ints 8 0).flatMap fun s => (extL e).map (s :: ·)
theorem find_map {p : List Int → Bool} {s : Int} : ∀ (L : List (List Int)), (L.map (s :: ·)).find? p = (L.find? fun t => p (s :: t)).map (s :: ·)
  | [] => rfl
  | x :: r => by
    rw [List.map_cons, List.find?_cons, List.find?_cons]
    cases p (s :: x) with
    | true => rfl
    | false => exact find_map r
theorem try_eq {l : List It} {sp : List Int} {e : Nat} {rec : List Int → List It → Option (List Int)} (hr : ∀ s, rec (sp ++ [s]) (bxs l 0 (sp ++ [s])) = ((extL e).find? (okF l (sp ++ [s]))).map ((sp ++ [s]) ++ ·)) :
    ∀ (n : Nat) (s : Int), tryK l sp (bxs l 0 sp) rec n s = (((ints n s).flatMap fun s => (extL e).map (s :: ·)).find? (okF l sp)).map (sp ++ ·)
  | 0, s => rfl
  | n + 1, s => by
    have h := hr s
    rw [bxs_app, Nat.zero_add] at h
    unfold tryK ints
    rw [List.flatMap_cons, List.find?_append, find_map]
    have ih := try_eq hr n (s + 1)
    have hg : (fun t => okF l sp (s :: t)) = fun t => good l sp s && okF l (sp ++ [s]) t := rfl
    rw [hg]
    unfold good
    cases hc : (covS (boxS (atI l sp.length) s) l || !freeS (boxS (atI l sp.length) s) (bxs l 0 sp)) with
    | true =>
      simp only [cond_true, Bool.not_true, Bool.false_and]
      rw [show (List.find? (fun _ => false) (extL e)) = none by simp]
      simpa using ih
    | false =>
      simp only [cond_false, Bool.not_false, Bool.true_and]
      rw [h, ih]
      cases List.find? (okF l (sp ++ [s])) (extL e) with
      | some t => simp
      | none => simp
theorem srch_eq {l : List It} : ∀ (e f : Nat) (sp : List Int), sp.length + e = l.length → e < f → srch l f sp (bxs l 0 sp) = ((extL e).find? (okF l sp)).map (sp ++ ·)
  | 0, f + 1, sp, h1, _ => by
    unfold srch
    rw [decide_eq_true (show sp.length = l.length by omega)]
    show some sp = some (sp ++ [])
    simp
  | e + 1, f + 1, sp, h1, h2 => by
    unfold srch
    rw [decide_eq_false (show ¬ sp.length = l.length by omega)]
    exact try_eq (fun s => srch_eq e f (sp ++ [s]) (by simp; omega) (by omega)) 8 0
/-! ### The reference's test -/
theorem free_eq {l : List It} {b : It} (hb : bxOk b) (hl : ∀ x ∈ l, okIt x) : ∀ (r sp : List Int) (k : Nat), (∀ s ∈ sp, spN s) → k + r.length = l.length → r = sp.drop k → sp.length = l.length →
    ((bxs l k r).any (qF b)) = prevV l sp b k
  | [], sp, k, hs, h1, h2, h3 => by rw [prev_end (by simp at h1; omega)]; rfl
  | s :: r, sp, k, hs, h1, h2, h3 => by
    have hk : k < sp.length := by simp at h1; omega
    have hget : sp[k]? = some s := by
      have := congrArg List.head? h2
      rw [List.head?_drop] at this
      exact this.symm
    obtain ⟨x, hx⟩ := get_ex (l := l) (k := k) (by omega)
    have hr : r = sp.drop (k + 1) := by
      rw [drop_cons hget] at h2
      exact (List.cons.inj h2).2
    rw [prev_step (by omega), atI_of hx, getD_of hget]
    show (qF b (boxS (atI l k) s) || (bxs l (k + 1) r).any (qF b)) = _
    rw [free_eq hb hl r sp (k + 1) hs (by simp at h1; omega) hr h3, atI_of hx]
    have hsn := hs s (List.mem_of_getElem? hget)
    rw [decide_eq_false (show ¬ s < 0 by omega), meets_eq hb (box_ok (hl x (List.mem_of_getElem? hx)))]
    rfl
theorem atI_take {l : List It} {i k : Nat} (h : k < i) : atI (l.take i) k = atI l k := by
  unfold atI List.getD
  rw [List.getElem?_take, if_pos h]
theorem prev_take {l : List It} {sp : List Int} {b : It} {i : Nat} (hi : i ≤ l.length) (hs : sp.length = l.length) : ∀ (d k : Nat), k + d = i → prevV (l.take i) (sp.take i) b k = prevV (l.take i) sp b k
  | 0, k, h => by rw [prev_end (by rw [List.length_take]; omega), prev_end (by rw [List.length_take]; omega)]
  | d + 1, k, h => by
    rw [prev_step (by rw [List.length_take]; omega), prev_step (l := l.take i) (sp := sp) (by rw [List.length_take]; omega), prev_take hi hs d (k + 1) (by omega)]
    have : (sp.take i).getD k 0 = sp.getD k 0 := by
      unfold List.getD
      rw [List.getElem?_take, if_pos (by omega)]
    rw [this]
theorem bxs_take {l : List It} {i : Nat} : ∀ (r : List Int) (k : Nat), k + r.length ≤ i → bxs (l.take i) k r = bxs l k r
  | [], k, _ => rfl
  | s :: r, k, h => by
    simp only [List.length_cons] at h
    show boxS (atI (l.take i) k) s :: bxs (l.take i) (k + 1) r = boxS (atI l k) s :: bxs l (k + 1) r
    rw [atI_take (by omega), bxs_take r (k + 1) (by omega)]
theorem good_eq {l : List It} {t : List Int} (hl : ∀ x ∈ l, okIt x) (ht : ∀ s ∈ t, spN s) (hn : t.length = l.length) {i : Nat} (hi : i < l.length) {s : Int} (hs : t[i]? = some s) : good l (t.take i) s = !badAt l t i := by
  obtain ⟨x, hx⟩ := get_ex (l := l) hi
  have hlen : (t.take i).length = i := by rw [List.length_take]; omega
  have hb := box_ok (s := s) (hl x (List.mem_of_getElem? hx))
  have hsn := ht s (List.mem_of_getElem? hs)
  unfold good badAt
  rw [hlen, atI_of hx, getD_of hs, decide_eq_false (show ¬ s < 0 by omega), cov_eq hb hl]
  unfold freeS
  have h1 := free_eq (l := l.take i) hb (fun y hy => hl y (List.mem_of_mem_take hy)) (t.take i) (t.take i) 0 (fun y hy => ht y (List.mem_of_mem_take hy)) (by rw [hlen, List.length_take]; omega) rfl (by rw [hlen, List.length_take]; omega)
  rw [bxs_take _ _ (by omega), prev_take (by omega) hn i 0 (by omega)] at h1
  rw [h1]
  simp
theorem fit_eq {l : List It} {t : List Int} (hl : ∀ x ∈ l, okIt x) (ht : ∀ s ∈ t, spN s) (hn : t.length = l.length) : ∀ (d i : Nat), i + d = l.length → okF l (t.take i) (t.drop i) = fitV l t i
  | 0, i, h => by
    rw [fit_end (by omega), List.drop_eq_nil_of_le (by omega)]; rfl
  | d + 1, i, h => by
    obtain ⟨s, hs⟩ := get_ex (l := t) (k := i) (by omega)
    rw [fit_step (by omega), drop_cons hs]
    show (good l (t.take i) s && okF l (t.take i ++ [s]) (t.drop (i + 1))) = _
    rw [good_eq hl ht hn (by omega) hs, ← fit_eq hl ht hn d (i + 1) (by omega)]
    have : t.take (i + 1) = t.take i ++ [s] := by
      rw [List.take_add_one, hs]; rfl
    rw [this]
def allN (d : Nat) (n : Int) : List Int := ints d n
theorem fst_eq {l : List It} : ∀ (d : Nat) (n : Int), fstK l d n = ((ints d n).map (digs l.length)).find? fun t => fitV l t 0
  | 0, n => rfl
  | d + 1, n => by
    unfold fstK ints
    rw [List.map_cons, List.find?_cons, fst_eq d (n + 1)]
    cases fitV l (digs l.length n) 0 <;> rfl
theorem digs_all : (ints 8 0).map (digs 1) = extL 1 ∧ (ints 64 0).map (digs 2) = extL 2 ∧ (ints 512 0).map (digs 3) = extL 3 := by
  refine ⟨by kernel_rfl, by kernel_rfl, by kernel_rfl⟩
theorem ints_mem : ∀ {n : Nat} {s x : Int}, x ∈ ints n s → s ≤ x ∧ x < s + n
  | 0, s, x, h => by cases h
  | n + 1, s, x, h => by
    rcases List.mem_cons.1 h with rfl | h
    · omega
    · have := ints_mem h; omega
theorem ext_mem : ∀ {e : Nat} {t : List Int}, t ∈ extL e → t.length = e ∧ ∀ s ∈ t, spN s
  | 0, t, h => by
    obtain rfl : t = [] := by simpa [extL] using h
    exact ⟨rfl, fun s hs => by cases hs⟩
  | e + 1, t, h => by
    obtain ⟨s, hs, h⟩ := List.mem_flatMap.1 h
    obtain ⟨r, hr, rfl⟩ := List.mem_map.1 h
    obtain ⟨h1, h2⟩ := ext_mem hr
    have h3 := ints_mem hs
    refine ⟨by simp [h1], fun x hx => ?_⟩
    rcases List.mem_cons.1 hx with rfl | hx
    · exact ⟨by omega, by omega⟩
    · exact h2 x hx
theorem find_congr {p q : List Int → Bool} : ∀ {L : List (List Int)}, (∀ t ∈ L, p t = q t) → L.find? p = L.find? q
  | [], _ => rfl
  | x :: r, h => by
    rw [List.find?_cons, List.find?_cons, h x List.mem_cons_self, find_congr (fun y hy => h y (List.mem_cons_of_mem _ hy))]
/-- The search finds the first of all that fit. -/
theorem first_of_all {l : List It} (h0 : l.length ≠ 0) (h3 : l.length ≤ 3) (hl : ∀ x ∈ l, okIt x) : srch l 7 [] [] = fstV l (8 ^ l.length) 0 := by
  have e1 := srch_eq (l := l) l.length 7 [] (by simp) (by omega)
  have e0 : bxs l 0 [] = [] := rfl
  rw [e0] at e1
  have e2 : (fun t : List Int => ([] : List Int) ++ t) = id := rfl
  rw [e1, e2, Option.map_id]
  unfold fstV
  rw [fst_eq]
  have key : (extL l.length).find? (okF l []) = (extL l.length).find? fun t => fitV l t 0 := by
    refine find_congr fun t ht => ?_
    obtain ⟨h1, h2⟩ := ext_mem ht
    exact fit_eq hl h2 h1 l.length 0 (by omega)
  rw [key]
  have hc : l.length = 1 ∨ l.length = 2 ∨ l.length = 3 := by omega
  obtain ⟨d1, d2, d3⟩ := digs_all
  have p1 : ((8 : Int) ^ (1 : Nat) - 0).toNat = 8 := by decide
  have p2 : ((8 : Int) ^ (2 : Nat) - 0).toNat = 64 := by decide
  have p3 : ((8 : Int) ^ (3 : Nat) - 0).toNat = 512 := by decide
  rcases hc with h | h | h
  · rw [h, p1, d1]; rfl
  · rw [h, p2, d2]; rfl
  · rw [h, p3, d3]; rfl
end Go.Proofs.YtacdahpjmeianaaLb
