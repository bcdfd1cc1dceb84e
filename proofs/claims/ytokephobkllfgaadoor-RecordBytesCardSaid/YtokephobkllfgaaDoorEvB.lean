/- What is proved here: how the evaluator's values stand to the machine's (the same numbers, strings and cells, whatever the blocks' numbers), and what follows for cells, types and kinds. No condition. -/
import Derived.Test.YtokephobkllfgaaDoorEvA
import Derived.Laws.Cells
import Derived.Laws.CopyRow
import Derived.Laws.Rows
import Derived.Laws.AppendOwn
import Derived.Laws.MakeOwn
import Derived.Laws.Slices
import Derived.Laws.StructEq
import Derived.Laws.Pointers
import Derived.Below
namespace Go.Proofs.YtokephobkllfgaaDoorEv
open Go

/-- Where a block of the evaluator's lies: the machine's block, its first cell, the block's cells. -/
abbrev Inj := Nat → Option (Nat × Nat × Nat)

mutual
def Rv (m : Inj) : PV → Value → Prop
  | .sc v, u => u = v
  | .ptr i e sz j, u => ∃ b base t, m i = some (b, base, t) ∧ u = .pointer (some ⟨b, base + e * sz + j, none⟩)
  | .sl i e sz len lo full nl, u =>
    (len = 0 ∧ lo = 0 ∧ ∃ a : Option Addr, u = .slice a 0 0 ∧ nl = a.isNone) ∨
    (nl = false ∧ ∃ b base t cap off, m i = some (b, base, t) ∧ u = .slice (some ⟨b, off, none⟩) len cap ∧ len ≤ lo ∧ (lo ≤ cap ∧ cap ≤ 9223372036854775807) ∧ (full = true → cap = len) ∧ (0 < cap → off = base + e * sz) ∧ off + cap * sz ≤ t)
  | .fn f caps, u => ∃ us, u = .func (.func f) #[] us.toArray ∧ Rvs m caps us
  | .agg cs, u => ∃ us, u = .agg us.toArray ∧ Rvs m cs us
  | .arr k n xs, u => xs.length = n ∧ u = .agg (xs.flatMap k.vals).toArray
  | .tup cs, u => ∃ us, u = .tuple us.toArray ∧ Rvs m cs us
  | .undef, _ => True
def Rvs (m : Inj) : List PV → List Value → Prop
  | [], us => us = []
  | p :: ps, us => ∃ v r, us = v :: r ∧ Rv m p v ∧ Rvs m ps r
end

def Ext (m m' : Inj) : Prop := ∀ i x, m i = some x → m' i = some x

mutual
theorem Rv.mono {m m' : Inj} (h : Ext m m') : ∀ {p : PV} {u : Value}, Rv m p u → Rv m' p u
  | .sc _, _, H => by unfold Rv at H ⊢; exact H
  | .ptr _ _ _ _, _, H => by
    unfold Rv at H ⊢; obtain ⟨b, base, t, h1, h2⟩ := H; exact ⟨b, base, t, h _ _ h1, h2⟩
  | .sl _ _ _ _ _ _ _, _, H => by
    unfold Rv at H ⊢
    rcases H with H | ⟨h0, b, base, t, cap, off, h1, h2⟩
    · exact Or.inl H
    · exact Or.inr ⟨h0, b, base, t, cap, off, h _ _ h1, h2⟩
  | .fn _ _, _, H => by unfold Rv at H ⊢; obtain ⟨us, h1, h2⟩ := H; exact ⟨us, h1, Rvs.mono h h2⟩
  | .agg _, _, H => by unfold Rv at H ⊢; obtain ⟨us, h1, h2⟩ := H; exact ⟨us, h1, Rvs.mono h h2⟩
  | .arr _ _ _, _, H => by unfold Rv at H ⊢; exact H
  | .tup _, _, H => by unfold Rv at H ⊢; obtain ⟨us, h1, h2⟩ := H; exact ⟨us, h1, Rvs.mono h h2⟩
  | .undef, _, _ => by unfold Rv; trivial
theorem Rvs.mono {m m' : Inj} (h : Ext m m') : ∀ {ps : List PV} {us : List Value}, Rvs m ps us → Rvs m' ps us
  | [], _, H => by unfold Rvs at H ⊢; exact H
  | _ :: _, _, H => by unfold Rvs at H ⊢; obtain ⟨v, r, h1, h2, h3⟩ := H; exact ⟨v, r, h1, Rv.mono h h2, Rvs.mono h h3⟩
end

section
variable {m : Inj}
theorem Rvs.length {ps : List PV} : ∀ {us : List Value}, Rvs m ps us → us.length = ps.length := by
  induction ps with
  | nil => intro us h; unfold Rvs at h; subst h; rfl
  | cons p ps ih => intro us h; unfold Rvs at h; obtain ⟨v, r, rfl, _, h3⟩ := h; simp [ih h3]
theorem Rvs.get {ps : List PV} : ∀ {us : List Value} {k : Nat} {p : PV}, Rvs m ps us → ps[k]? = some p → ∃ u, us[k]? = some u ∧ Rv m p u := by
  induction ps with
  | nil => intro us k p h hk; simp at hk
  | cons q ps ih =>
    intro us k p h hk
    unfold Rvs at h; obtain ⟨v, r, rfl, h2, h3⟩ := h
    cases k with
    | zero => simp at hk; subst hk; exact ⟨v, by simp, h2⟩
    | succ k => simp at hk; obtain ⟨u, hu, hr⟩ := ih h3 hk; exact ⟨u, by simpa using hu, hr⟩
theorem Rvs.of_get {ps : List PV} : ∀ {us : List Value}, us.length = ps.length → (∀ (k : Nat) (p : PV) (u : Value), ps[k]? = some p → us[k]? = some u → Rv m p u) → Rvs m ps us := by
  induction ps with
  | nil => intro us h _; unfold Rvs; exact List.length_eq_zero_iff.1 h
  | cons q ps ih =>
    intro us h H
    cases us with
    | nil => simp at h
    | cons v r =>
      unfold Rvs
      exact ⟨v, r, rfl, H 0 q v rfl rfl, ih (by simpa using h) (fun k p u h1 h2 => H (k + 1) p u (by simpa using h1) (by simpa using h2))⟩
theorem Rvs.append {ps qs : List PV} {us vs : List Value} (h1 : Rvs m ps us) (h2 : Rvs m qs vs) : Rvs m (ps ++ qs) (us ++ vs) := by
  induction ps generalizing us with
  | nil => unfold Rvs at h1; subst h1; simpa using h2
  | cons p ps ih =>
    unfold Rvs at h1; obtain ⟨v, r, rfl, a, b⟩ := h1
    show Rvs m (p :: (ps ++ qs)) (v :: (r ++ vs))
    unfold Rvs; exact ⟨v, _, rfl, a, ih b⟩
theorem Rvs.take {ps : List PV} {us : List Value} (h : Rvs m ps us) (n : Nat) : Rvs m (ps.take n) (us.take n) := by
  refine Rvs.of_get (by simp [h.length]) ?_
  intro k p u h1 h2
  rw [List.getElem?_take] at h1 h2
  split at h1
  · rename_i hk; rw [if_pos hk] at h2; obtain ⟨u', hu', hr⟩ := h.get h1; rw [h2] at hu'; cases hu'; exact hr
  · simp at h1
theorem Rvs.drop {ps : List PV} {us : List Value} (h : Rvs m ps us) (n : Nat) : Rvs m (ps.drop n) (us.drop n) := by
  refine Rvs.of_get (by simp [h.length]) ?_
  intro k p u h1 h2
  rw [List.getElem?_drop] at h1 h2
  obtain ⟨u', hu', hr⟩ := h.get h1; rw [h2] at hu'; cases hu'; exact hr
theorem Rvs.nil : Rvs m [] [] := by unfold Rvs; rfl
theorem Rvs.cons {p : PV} {ps : List PV} {v : Value} {vs : List Value} (h : Rv m p v) (hs : Rvs m ps vs) : Rvs m (p :: ps) (v :: vs) := by
  unfold Rvs; exact ⟨v, vs, rfl, h, hs⟩
theorem Rvs.one {p : PV} {v : Value} (h : Rv m p v) : Rvs m [p] [v] := Rvs.cons h Rvs.nil
theorem Rvs.of_one {p : PV} {us : List Value} (h : Rvs m [p] us) : ∃ v, us = [v] ∧ Rv m p v := by
  unfold Rvs at h; obtain ⟨v, r, rfl, h1, h2⟩ := h; unfold Rvs at h2; subst h2; exact ⟨v, rfl, h1⟩
theorem Rv_sc {v u : Value} : Rv m (.sc v) u ↔ u = v := by unfold Rv; exact Iff.rfl
theorem Rvs_scs (vs : List Value) : Rvs m (scs vs) vs := by
  induction vs with
  | nil => exact Rvs.nil
  | cons v vs ih => exact Rvs.cons (Rv_sc.2 rfl) ih
theorem Rvs_scs_eq {vs us : List Value} (h : Rvs m (scs vs) us) : us = vs := by
  induction vs generalizing us with
  | nil => unfold scs Rvs at h; exact h
  | cons v vs ih =>
    unfold scs at h; rw [List.map_cons] at h; unfold Rvs at h
    obtain ⟨v', r, rfl, h1, h2⟩ := h
    rw [Rv_sc.1 h1, ih h2]
theorem Rv_ofV (v : Value) : Rv m (ofV v) v := by
  cases v <;> first
    | exact Rv_sc.2 rfl
    | (unfold ofV Rv; trivial)
    | (rename_i cs; unfold ofV Rv; exact ⟨cs.toList, by simp, Rvs_scs _⟩)
theorem unsc_eq {cs : List PV} : ∀ {vs : List Value}, unsc cs = some vs → cs = scs vs := by
  induction cs with
  | nil => intro vs h; unfold unsc at h; cases h; rfl
  | cons c cs ih =>
    intro vs h
    cases c <;> simp only [unsc] at h <;> try contradiction
    cases hr : unsc cs with
    | none => rw [hr] at h; simp at h
    | some r => rw [hr] at h; simp at h; subst h; rw [ih hr]; rfl
theorem unsc_rv {cs : List PV} {vs us : List Value} (h : unsc cs = some vs) (H : Rvs m cs us) : us = vs := by
  rw [unsc_eq h] at H; exact Rvs_scs_eq H
theorem Kd.len_vals : ∀ (k : Kd) (x : k.den), (k.vals x).length = k.sz
  | .int _, _ => rfl
  | .bool, _ => rfl
  | .str, _ => rfl
  | .flt _, _ => rfl
  | .pair a b, x => by simp [Kd.vals, Kd.sz, Kd.len_vals a, Kd.len_vals b]
theorem Kd.sz_pos : ∀ (k : Kd), 0 < k.sz
  | .int _ => Nat.one_pos
  | .bool => Nat.one_pos
  | .str => Nat.one_pos
  | .flt _ => Nat.one_pos
  | .pair a b => by have := Kd.sz_pos a; show 0 < a.sz + b.sz; omega
theorem Kd.one_vals : ∀ (k : Kd) (x : k.den) (v : Value), v ∈ k.vals x → v.oneCell' = true
  | .int _, _, v, h => by simp [Kd.vals] at h; subst h; rfl
  | .bool, _, v, h => by simp [Kd.vals] at h; subst h; rfl
  | .str, _, v, h => by simp [Kd.vals] at h; subst h; rfl
  | .flt _, _, v, h => by simp [Kd.vals] at h; subst h; rfl
  | .pair a b, x, v, h => by
    simp only [Kd.vals, List.mem_append] at h
    exact h.elim (Kd.one_vals a _ v) (Kd.one_vals b _ v)
theorem Kd.parse_eq : ∀ (k : Kd) {vs r : List Value} {x : k.den}, k.parse vs = some (x, r) → vs = k.vals x ++ r
  | .int k, vs, r, x, h => by
    cases vs with
    | nil => simp [Kd.parse] at h
    | cons v vs =>
      cases v <;> simp only [Kd.parse] at h <;> try contradiction
      split at h
      · rename_i hk; subst hk; simp at h; obtain ⟨rfl, rfl⟩ := h; rfl
      · simp at h
  | .bool, vs, r, x, h => by
    cases vs with
    | nil => simp [Kd.parse] at h
    | cons v vs =>
      cases v <;> simp only [Kd.parse] at h <;> try contradiction
      simp at h; obtain ⟨rfl, rfl⟩ := h; rfl
  | .str, vs, r, x, h => by
    cases vs with
    | nil => simp [Kd.parse] at h
    | cons v vs =>
      cases v <;> simp only [Kd.parse] at h <;> try contradiction
      simp at h; obtain ⟨rfl, rfl⟩ := h; rfl
  | .flt k, vs, r, x, h => by
    cases vs with
    | nil => simp [Kd.parse] at h
    | cons v vs =>
      cases v <;> simp only [Kd.parse] at h <;> try contradiction
      split at h
      · rename_i hk; subst hk; simp at h; obtain ⟨rfl, rfl⟩ := h; rfl
      · simp at h
  | .pair a b, vs, r, x, h => by
    simp only [Kd.parse] at h
    cases h1 : a.parse vs with
    | none => rw [h1] at h; simp at h
    | some q =>
      obtain ⟨y, r1⟩ := q
      rw [h1] at h
      cases h2 : b.parse r1 with
      | none => simp only [h2] at h; simp at h
      | some q2 =>
        obtain ⟨z, r2⟩ := q2
        simp only [h2] at h
        simp at h; obtain ⟨rfl, rfl⟩ := h
        rw [Kd.parse_eq a h1, Kd.parse_eq b h2]; simp [Kd.vals]
theorem Kd.parseAll_eq (k : Kd) : ∀ {n : Nat} {vs : List Value} {xs : List k.den}, k.parseAll n vs = some xs → vs = xs.flatMap k.vals ∧ xs.length = n
  | 0, vs, xs, h => by
    cases vs with
    | nil => simp [Kd.parseAll] at h; subst h; exact ⟨rfl, rfl⟩
    | cons _ _ => simp [Kd.parseAll] at h
  | n + 1, vs, xs, h => by
    simp only [Kd.parseAll] at h
    cases h1 : k.parse vs with
    | none => rw [h1] at h; simp at h
    | some q =>
      obtain ⟨y, r1⟩ := q
      rw [h1] at h
      cases h2 : k.parseAll n r1 with
      | none => simp only [h2] at h; simp at h
      | some ys =>
        simp only [h2] at h; simp at h; subst h
        obtain ⟨e1, e2⟩ := Kd.parseAll_eq k h2
        exact ⟨by rw [Kd.parse_eq k h1, e1]; simp, by simp [e2]⟩
theorem Kd.len_flat (k : Kd) (xs : List k.den) : (xs.flatMap k.vals).length = xs.length * k.sz := by
  induction xs with
  | nil => simp
  | cons x xs ih => rw [List.flatMap_cons, List.length_append, ih, Kd.len_vals, List.length_cons, Nat.succ_mul, Nat.add_comm]
/-- A cell of a row, by element and place. -/
theorem Kd.get_flat (k : Kd) (xs : List k.den) (e j : Nat) (hj : j < k.sz) : (xs.flatMap k.vals)[e * k.sz + j]? = (xs[e]?).bind fun x => (k.vals x)[j]? := by
  induction xs generalizing e with
  | nil => simp
  | cons x xs ih =>
    rw [List.flatMap_cons]
    cases e with
    | zero =>
      rw [Nat.zero_mul, Nat.zero_add, List.getElem?_append_left (by rw [Kd.len_vals]; exact hj)]
      simp
    | succ e =>
      rw [List.getElem?_append_right (by rw [Kd.len_vals, Nat.succ_mul]; omega), Kd.len_vals]
      rw [show (e + 1) * k.sz + j - k.sz = e * k.sz + j by rw [Nat.succ_mul]; omega, ih]
      simp
theorem one1_rv {p : PV} {u : Value} (h : one1 p = true) (H : Rv m p u) : u.oneCell' = true := by
  cases p <;> simp only [one1] at h <;> try contradiction
  · rw [Rv_sc.1 H]; exact h
  · unfold Rv at H; obtain ⟨b, base, t, _, rfl⟩ := H; rfl
  · unfold Rv at H
    rcases H with ⟨_, _, _, rfl, _⟩ | ⟨_, b, base, t, cap, off, _, rfl, _⟩ <;> rfl
  · unfold Rv at H; obtain ⟨us, rfl, _⟩ := H; rfl
theorem oneCell_cells {u : Value} (h : u.oneCell' = true) : u.cells = #[u] := by
  cases u <;> first | rfl | (simp [Value.oneCell'] at h)
theorem cells1_rv {p : PV} {cs : List PV} {u : Value} (h : cells1 p = some cs) (H : Rv m p u) : Rvs m cs u.cells.toList ∧ ∀ v ∈ u.cells.toList, v.oneCell' = true := by
  have single : ∀ (q : PV), one1 q = true → Rv m q u → Rvs m [q] u.cells.toList ∧ ∀ v ∈ u.cells.toList, v.oneCell' = true := by
    intro q hq Hq
    have h1 := one1_rv hq Hq
    rw [oneCell_cells h1]
    exact ⟨Rvs.one Hq, by simpa using h1⟩
  cases p <;> simp only [cells1] at h <;> try contradiction
  · rename_i v
    cases hv : v.oneCell' with
    | false => rw [hv] at h; simp at h
    | true => rw [hv] at h; simp at h; subst h; exact single _ hv H
  · simp at h; subst h; exact single _ rfl H
  · simp at h; subst h; exact single _ rfl H
  · simp at h; subst h; exact single _ rfl H
  · rename_i cs'
    cases ha : cs'.all one1 with
    | false => rw [ha] at h; simp at h
    | true =>
      rw [ha] at h; simp at h; subst h
      unfold Rv at H; obtain ⟨us, rfl, hr⟩ := H
      refine ⟨hr, fun v hv => ?_⟩
      simp only [Value.cells] at hv
      obtain ⟨k, hk⟩ := List.mem_iff_getElem?.1 hv
      have hl := hr.length
      have hk' : k < us.length := (List.getElem?_eq_some_iff.1 hk).1
      obtain ⟨q, hq⟩ : ∃ q, cs'[k]? = some q := ⟨cs'[k]'(by omega), List.getElem?_eq_getElem _⟩
      obtain ⟨u', hu', hrv⟩ := hr.get hq
      have : u' = v := by rw [show us[k]? = some v from hk] at hu'; cases hu'; rfl
      subst this
      exact one1_rv (List.all_eq_true.1 ha q (List.mem_of_getElem? hq)) hrv
  · rename_i k n xs
    simp at h; subst h
    unfold Rv at H; obtain ⟨_, rfl⟩ := H
    refine ⟨Rvs_scs _, fun v hv => ?_⟩
    simp only [Value.cells, List.mem_flatMap] at hv
    obtain ⟨x, _, hx⟩ := hv
    exact Kd.one_vals k x v hx
theorem oneOf_rv {cs : List PV} {p : PV} {us : List Value} (h : oneOf cs = some p) (H : Rvs m cs us) : ∃ u, us = [u] ∧ Rv m p u := by
  match cs, h with
  | [c], h => simp only [oneOf, Option.some.injEq] at h; subst h; exact Rvs.of_one H
theorem ofCells_rv {P : Program} {t : TypeId} {cs : List PV} {p : PV} {us : List Value} (h : ofCells P t cs = some p) (H : Rvs m cs us) :
    ∃ d, P.underlying t = some d ∧ ((aggT P t = true ∧ Rv m p (.agg us.toArray)) ∨ (aggT P t = false ∧ ∃ u, us = [u] ∧ Rv m p u)) := by
  unfold ofCells at h
  cases hd : P.underlying t with
  | none => rw [hd] at h; simp at h
  | some d =>
    refine ⟨d, rfl, ?_⟩
    rw [hd] at h
    cases d
    case struct fs =>
      left
      refine ⟨by simp [aggT, hd], ?_⟩
      simp at h; subst h
      unfold Rv; exact ⟨us, rfl, H⟩
    case array n e =>
      left
      refine ⟨by simp [aggT, hd], ?_⟩
      simp only [] at h
      cases hk : rowKd P t with
      | none =>
        rw [hk] at h; simp at h; subst h
        unfold Rv; exact ⟨us, rfl, H⟩
      | some k =>
        rw [hk] at h; simp only [] at h
        cases hs : unsc cs with
        | none => rw [hs] at h; simp at h
        | some vs =>
          rw [hs] at h; simp only [] at h
          cases hp : k.parseAll (cs.length / k.sz) vs with
          | none => rw [hp] at h; simp at h
          | some xs =>
            rw [hp] at h; simp at h; subst h
            obtain ⟨e1, e2⟩ := Kd.parseAll_eq k hp
            unfold Rv
            exact ⟨e2, by rw [unsc_rv hs H, e1]⟩
    all_goals exact Or.inr ⟨by simp [aggT, hd], oneOf_rv h H⟩
theorem getB_eq : ∀ (H : List Blk) (i : Nat), getB H i = H[i]?
  | [], i => by simp [getB]
  | B :: r, 0 => by simp [getB]
  | B :: r, i + 1 => by simp [getB, getB_eq r i]
theorem setB_eq : ∀ (H : List Blk) (i : Nat) (B : Blk), setB H i B = H.set i B
  | [], i, B => by simp [setB]
  | A :: r, 0, B => by simp [setB]
  | A :: r, i + 1, B => by simp [setB, setB_eq r i B]
theorem bindO_some {α R : Type} {o : Option α} {K : α → Option R} {r : R} (h : bindO o K = some r) : ∃ x, o = some x ∧ K x = some r := by
  cases o with
  | none => simp [bindO] at h
  | some x => exact ⟨x, rfl, h⟩
theorem guardB_some {R : Type} {b : Bool} {x : Option R} {r : R} (h : guardB b x = some r) : b = true ∧ x = some r := by
  cases b with
  | false => simp [guardB] at h
  | true => exact ⟨rfl, h⟩
end
end Go.Proofs.YtokephobkllfgaaDoorEv
