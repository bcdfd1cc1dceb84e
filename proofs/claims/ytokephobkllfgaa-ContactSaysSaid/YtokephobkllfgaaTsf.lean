/- What is laid here: the library's contract of slices.SortFunc on structs, told over our blocks of cells, for whatever kind of struct. No condition. -/
import Derived.Test.YtokephobkllfgaaEvZf
import Derived.Test.YtokephobkllfgaaProg
import Derived.Shelf.SlLaysF0
import Derived.Shelf.SlSortCmp.NoneTotal
namespace Go.Proofs.YtokephobkllfgaaSf
open Go Go.Proofs Go.Shelf Go.Sort Go.Lib Go.RowKit Go.Proofs.YtokephobkllfgaaEv
set_option linter.unusedVariables false
set_option linter.unusedSimpArgs false
theorem flatK_list {α : Type} [Inhabited α] {enc : α → List Value} {k : Nat} (hk : ∀ x, (enc x).length = k) (zs : List α) (j : Nat) (hj : j < zs.length * k) : (zs.flatMap enc)[j]? = some ((flatK enc k zs.toArray)[j]!) := by
  rw [get_flatK _ _ _ _ (by simpa using hj)]
  induction zs generalizing j with
  | nil => simp at hj
  | cons x r ih =>
    have hk0 : 0 < k := by
      rcases Nat.eq_zero_or_pos k with h | h
      · subst h; simp at hj
      · exact h
    rw [List.flatMap_cons]
    by_cases h : j < k
    · rw [List.getElem?_append_left (by rw [hk]; exact h), Nat.div_eq_of_lt h, Nat.mod_eq_of_lt h]
      simp [hk, h]
    · have h' : k ≤ j := by omega
      rw [List.getElem?_append_right (by rw [hk]; exact h'), hk]
      have hj2 : j - k < r.length * k := by rw [List.length_cons, Nat.add_mul, Nat.one_mul] at hj; omega
      rw [ih (j - k) hj2]
      have e1 : j / k = (j - k) / k + 1 := by rw [Nat.div_eq_sub_div hk0 h']
      have e2 : j % k = (j - k) % k := Nat.mod_eq_sub_mod h'
      rw [e1, e2]
      have hlt : (j - k) / k < r.length := by rw [Nat.div_lt_iff_lt_mul hk0]; exact hj2
      simp [hlt]
theorem row_cs {o : Bool} {k : Kd} {l : List k.den} {q : Nat} {v : Value} (h : (l.flatMap k.vals)[q]? = some v) : (Blk.row o k l).cs[q]? = some (.sc v) := by
  show (scs (l.flatMap k.vals))[q]? = _
  simp [scs, h]
theorem row_cs' {o : Bool} {k : Kd} {l : List k.den} {q : Nat} {p : PV} (h : (Blk.row o k l).cs[q]? = some p) : ∃ v, (l.flatMap k.vals)[q]? = some v ∧ p = .sc v := by
  change (scs (l.flatMap k.vals))[q]? = _ at h
  simp only [scs, List.getElem?_map, Option.map_eq_some_iff] at h
  obtain ⟨x, h1, h2⟩ := h
  exact ⟨x, h1, h2.symm⟩
theorem flat_len {k : Kd} (l : List k.den) : (l.flatMap k.vals).length = l.length * k.sz := by
  induction l with
  | nil => simp
  | cons x r ih => rw [List.flatMap_cons, List.length_append, ih, Kd.len_vals, List.length_cons, Nat.add_mul, Nat.one_mul]; omega
/-- The sort's contract over our blocks, out of the library's contract. -/
theorem sortF_call {k : Kd} [Inhabited k.den] {f g : Nat} {sr : List k.den → List k.den} (hsl : ∀ l, (sr l).length = l.length)
    (hcall : ∀ (blk off cap : Nat) (zs : List k.den) (w : World), HoldsK k.vals k.sz w blk off zs.toArray → blk < w.heap.size → zs.length < 4611686018427387904 →
      Calls Try.prog f #[.slice (some ⟨blk, off, none⟩) zs.length cap, .func (.func g) #[] #[]] w fun e w' => e = .returned (.tuple #[]) ∧ ∃ n os, w' = sortWorldK k.vals k.sz w blk off n (sr zs).toArray os)
    (zs : List k.den) (nl : Bool) (h1 : 1 ≤ zs.length) (h2 : zs.length ≤ 100000) :
    CallOK Try.prog f [.sl 0 0 k.sz zs.length zs.length false nl, .fn g []] [.row true k zs] (.tup []) [.row true k (sr zs)] := by
  intro m w vs hm hB hd hvs
  have hm : ∀ i, 1 ≤ i → m i = none := hm
  obtain ⟨v1, r1, rfl, hv1, hr1⟩ : ∃ v r, vs = v :: r ∧ Rv m (.sl 0 0 k.sz zs.length zs.length false nl) v ∧ Rvs m [.fn g []] r := hvs
  obtain ⟨v2, rfl, hv2⟩ := Rvs.of_one hr1
  unfold Rv at hv2
  obtain ⟨us, rfl, hus⟩ := hv2
  obtain rfl : us = [] := hus
  unfold Rv at hv1
  rcases hv1 with ⟨_, h0, _⟩ | ⟨_, b, base, t, cap, off, g1', rfl, g2', g3', _, g5', g6'⟩
  · omega
  have h5 := g5' (by omega)
  rw [Nat.zero_mul, Nat.add_zero] at h5
  subst h5
  rcases hB 0 _ rfl with h | ⟨h, _⟩ | ⟨b', base', t', c, e, fz, g1, g2, g3, g4, g5⟩
  · cases h
  · rw [h] at g1'; cases g1'
  rw [g1] at g1'
  obtain ⟨rfl, rfl, rfl⟩ : b' = b ∧ base' = off ∧ t' = t := by simpa using g1'
  have hfz : fz = (0, 0) := g4 rfl
  subst hfz
  have hb : b' < w.heap.size := (Array.getElem?_eq_some_iff.1 g2).1
  have hc : ∀ (q : Nat) (x : Value), (zs.flatMap k.vals)[q]? = some x → c[base' + q]? = some x := fun q x hq => by
    obtain ⟨u, hu, hr⟩ := g5 q (.sc x) (row_cs hq)
    rw [hu, Rv_sc.1 hr]
  have hH : HoldsK k.vals k.sz w b' base' zs.toArray := by
    intro j hj
    rw [size_flatK] at hj
    have hj : j < zs.length * k.sz := by simpa using hj
    have e3 := hc j _ (flatK_list (Kd.len_vals k) zs j hj)
    constructor
    · unfold World.cell?
      show (match w.heap[b']? with | some (.cells c _ _) => if (none : Option _).isSome then none else c[base' + j]? | _ => none) = _
      rw [g2]; exact e3
    · unfold World.frozen?
      show (match w.heap[b']? with | some (.cells _ _ (lo, hi)) => decide (lo ≤ base' + j) && decide (base' + j < hi) | _ => false) = _
      rw [g2]; simp
  refine Calls.mono (hcall b' base' cap zs w hH hb (by omega)) ?_
  rintro ee w' ⟨rfl, n, os, rfl⟩
  have hh : (sortWorldK k.vals k.sz w b' base' n (sr zs).toArray os).heap[b']? = some (.cells (putCells id base' (flatK k.vals k.sz (sr zs).toArray) c) e (0, 0)) := by
    show (Array.modify w.heap b' (onCells (putCells id base' (flatK k.vals k.sz (sr zs).toArray))) ++ os)[b']? = _
    rw [Array.getElem?_append_left (by simpa using hb), Array.getElem?_modify, if_pos rfl, g2]; rfl
  have ho : ∀ j, j < w.heap.size → j ≠ b' → (sortWorldK k.vals k.sz w b' base' n (sr zs).toArray os).heap[j]? = w.heap[j]? := fun j hj hne => by
    show (Array.modify w.heap b' (onCells (putCells id base' (flatK k.vals k.sz (sr zs).toArray))) ++ os)[j]? = _
    rw [Array.getElem?_append_left (by simpa using hj), Array.getElem?_modify, if_neg (fun e => hne e.symm)]
  refine ⟨_, m, rfl, ⟨by unfold Rv; exact ⟨[], rfl, rfl⟩, fun i _ => rfl, fun i hi => hm i hi, ?_, Nat.le_refl _, ?_, ?_, ?_, ?_⟩⟩
  · intro i B h
    cases i with
    | succ i => simp [getB] at h
    | zero =>
      obtain rfl : Blk.row true k (sr zs) = B := by simpa [getB] using h
      refine Or.inr (Or.inr ⟨b', base', t', _, e, (0, 0), g1, hh, ?_, fun _ => rfl, ?_⟩)
      · rw [← g3]; simp [putCells]
      · intro q p hq
        obtain ⟨x, hx, rfl⟩ := row_cs' hq
        refine ⟨_, ?_, Rv_sc.2 rfl⟩
        have hq2 : q < (sr zs).length * k.sz := by rw [← flat_len]; exact (List.getElem?_eq_some_iff.1 hx).1
        have hq3 : q < zs.length * k.sz := by rw [hsl] at hq2; exact hq2
        have hcs := (Array.getElem?_eq_some_iff.1 (hc q _ (flatK_list (Kd.len_vals k) zs q hq3))).1
        have hx2 := flatK_list (Kd.len_vals k) (sr zs) q hq2
        rw [hx] at hx2
        unfold putCells
        rw [Array.getElem?_mapIdx, Array.getElem?_eq_getElem hcs]
        simp only [Option.map_some]
        rw [if_pos ⟨by omega, by rw [size_flatK]; simpa using Nat.add_lt_add_left hq2 base'⟩, show base' + q - base' = q by omega]
        exact hx2.symm
  · intro i B hi h hn
    cases i with
    | succ i => simp [getB] at h
    | zero =>
      obtain rfl : Blk.row true k (sr zs) = B := by simpa [getB] using h
      exact ⟨.row true k zs, rfl, by simp, rfl⟩
  · intro i b2 base2 t2 B hi h
    cases i with
    | succ i => simp [getB] at h
    | zero => exact absurd (show 1 ≤ 0 from hi) (by decide)
  · intro i j b2 base2 t2 base3 t3 B B2 hi hj h
    cases i with
    | succ i => simp [getB] at h
    | zero => exact absurd (show 1 ≤ 0 from hi) (by decide)
  · refine ⟨rfl, rfl, rfl, ?_, fun j hj hn => ho j hj (fun e => hn ⟨0, .row true k zs, base', t', rfl, rfl, by rw [e]; exact g1⟩), ?_⟩
    · show w.heap.size ≤ (Array.modify w.heap b' (onCells (putCells id base' (flatK k.vals k.sz (sr zs).toArray))) ++ os).size
      simp
    · exact Nat.le_add_right _ _
/-- The same at no element. -/
theorem sortF_none {k : Kd} {f g : Nat} (hnone : ∀ (p : Option Addr) (cap : Nat) (w : World), Calls Try.prog f #[.slice p 0 cap, .func (.func g) #[] #[]] w fun e w' => e = .returned (.tuple #[]) ∧ w' = w) (nl : Bool) :
    CallOK Try.prog f [.sl 0 0 k.sz 0 0 false nl, .fn g []] [.row true k []] (.tup []) [.row true k []] := by
  intro m w vs hm hB hd hvs
  have hm : ∀ i, 1 ≤ i → m i = none := hm
  obtain ⟨v1, r1, rfl, hv1, hr1⟩ : ∃ v r, vs = v :: r ∧ Rv m (.sl 0 0 k.sz 0 0 false nl) v ∧ Rvs m [.fn g []] r := hvs
  obtain ⟨v2, rfl, hv2⟩ := Rvs.of_one hr1
  unfold Rv at hv2
  obtain ⟨us, rfl, hus⟩ := hv2
  obtain rfl : us = [] := hus
  obtain ⟨p, cap, rfl⟩ : ∃ p cap, v1 = .slice p 0 cap := by
    unfold Rv at hv1
    rcases hv1 with ⟨_, _, a, rfl, _⟩ | ⟨_, b, base, t, cap, off, _, rfl, _⟩
    · exact ⟨a, 0, rfl⟩
    · exact ⟨_, cap, rfl⟩
  refine Calls.mono (hnone p cap w) ?_
  rintro e w' ⟨rfl, rfl⟩
  refine ⟨_, m, rfl, ⟨by unfold Rv; exact ⟨[], rfl, rfl⟩, fun i _ => rfl, fun i hi => hm i hi, hB, Nat.le_refl _, fun i B hi h hn => ⟨B, h, hn, rfl⟩, ?_, ?_, Fr.refl _ _⟩⟩
  · intro i b2 base2 t2 B hi h
    cases i with
    | succ i => simp [getB] at h
    | zero => exact absurd (show 1 ≤ 0 from hi) (by decide)
  · intro i j b2 base2 t2 base3 t3 B B2 hi hj h
    cases i with
    | succ i => simp [getB] at h
    | zero => exact absurd (show 1 ≤ 0 from hi) (by decide)
/-- What a function of two structs without blocks answers, in whatever world: the world is drawn ahead and grown alone. -/
theorem grown_call {k : Kd} {g : Nat} {cf : k.den → k.den → Int} (h : ∀ x y, CallOK Try.prog g [.agg (scs (k.vals x)), .agg (scs (k.vals y))] [] (.sc (.int .i64 (cf x y))) []) (x y : k.den) (W : World) :
    Calls Try.prog g #[.agg (k.vals x).toArray, .agg (k.vals y).toArray] W fun e w' => e = .returned (.int .i64 (cf x y)) ∧ ∃ q os', w' = grow (W.drewN q) os' := by
  have hc := h x y (fun _ => none) W [.agg (k.vals x).toArray, .agg (k.vals y).toArray] (fun _ _ => rfl) (fun i B hB => by simp [getB] at hB) (fun i j Bi Bj _ hi => by simp [getB] at hi)
    ⟨_, _, rfl, by unfold Rv; exact ⟨_, rfl, Rvs_scs _⟩, _, _, rfl, by unfold Rv; exact ⟨_, rfl, Rvs_scs _⟩, rfl⟩
  refine Calls.mono hc ?_
  rintro e w' ⟨v, m', rfl, hp⟩
  refine ⟨by rw [Rv_sc.1 hp.val], w'.drawn - W.drawn, w'.heap.extract W.heap.size w'.heap.size, ?_⟩
  have hf := hp.frame
  have hd := hf.drawn
  have hheap : w'.heap = W.heap ++ w'.heap.extract W.heap.size w'.heap.size := by
    apply Array.ext_getElem?
    intro j
    by_cases hj : j < W.heap.size
    · rw [Array.getElem?_append_left hj]
      exact hf.block j hj (by rintro ⟨i, B, _, _, hB, _⟩; simp [getB] at hB)
    · rw [Array.getElem?_append_right (by omega), Array.getElem?_extract]
      have := hf.size
      by_cases h2 : j < w'.heap.size
      · rw [if_pos (by omega)]; congr 1; omega
      · rw [if_neg (by omega), Array.getElem?_eq_none (by omega)]
  obtain ⟨h1, h2, h3, h4, h5⟩ := w'
  obtain ⟨k1, k2, k3, k4, k5⟩ := W
  have e1 := hf.os; have e2 := hf.tape; have e3 := hf.output
  simp only at e1 e2 e3 hd hheap
  subst e1 e2 e3
  unfold grow World.drewN
  simp only [World.mk.injEq]
  exact ⟨hheap, trivial, by omega, trivial, trivial⟩
end Go.Proofs.YtokephobkllfgaaSf
