/- What is laid here: slices.Insert of one element told over our blocks, for whatever kind of element. No condition but the facts of InsL. -/
import Derived.Test.YtokephobkllfgaaTins
import Derived.Test.YtokephobkllfgaaEvZe
namespace Go.Proofs.YtokephobkllfgaaIn
open Go Go.Proofs Go.Shelf Go.RowKit Go.Lib Go.Proofs.YtokephobkllfgaaEv
variable {P : Program} {ρ : Ren} {zv : Value} {ib : Nat}
/-- What storing cells does to the world. -/
theorem setCells_at (b : Nat) : ∀ (vs : List Value) (o : Nat) (w : World) (c : Array Value) (e : TypeId) (fz : Nat × Nat), w.heap[b]? = some (.cells c e fz) → o + vs.length ≤ c.size →
    ∃ c' : Array Value, (w.setCells b o vs).heap[b]? = some (.cells c' e fz) ∧ c'.size = c.size ∧ (∀ q : Nat, c'[q]? = if o ≤ q ∧ q < o + vs.length then vs[q - o]? else c[q]?) ∧ Fr (fun g => g = b) w (w.setCells b o vs)
  | [], o, w, c, e, fz, h, _ => ⟨c, h, rfl, fun q => by rw [if_neg (by simp only [List.length_nil]; omega)], Fr.refl _ _⟩
  | v :: r, o, w, c, e, fz, h, hf => by
    have hlt : b < w.heap.size := (Array.getElem?_eq_some_iff.1 h).1
    have hf : o + (r.length + 1) ≤ c.size := hf
    have h1 : (w.setCell ⟨b, o, none⟩ v).heap[b]? = some (.cells (c.setIfInBounds o v) e fz) := by
      simp only [World.setCell]
      rw [Array.getElem?_modify, if_pos rfl, h]; rfl
    obtain ⟨c', g1, g2, g3, g4⟩ := setCells_at b r (o + 1) (w.setCell ⟨b, o, none⟩ v) _ e fz h1 (by simp; omega)
    have g0 : Fr (fun g => g = b) w (w.setCell ⟨b, o, none⟩ v) := ⟨rfl, rfl, rfl, by simp, fun j _ hn => by
      simp only [World.setCell]
      rw [Array.getElem?_modify, if_neg (fun e => hn e.symm)], Nat.le_refl _⟩
    refine ⟨c', g1, by rw [g2]; simp, fun q => ?_, Fr.trans g0 g4⟩
    rw [g3 q, List.length_cons]
    by_cases hq : o = q
    · subst hq
      rw [if_neg (by omega), if_pos (by omega), Nat.sub_self, Array.getElem?_setIfInBounds, if_pos rfl, if_pos (by omega)]; rfl
    · by_cases hq2 : o + 1 ≤ q ∧ q < o + 1 + r.length
      · rw [if_pos hq2, if_pos (by omega), show q - o = q - (o + 1) + 1 by omega]; simp
      · rw [if_neg hq2, if_neg (by omega), Array.getElem?_setIfInBounds, if_neg hq]
/-- The list behind the insertion. -/
def insL {α : Type} (xs : List α) (i : Nat) (x : α) : List α := xs.take i ++ x :: xs.drop i
theorem flat_take' (k : Kd) (xs : List k.den) (i : Nat) : (xs.take i).flatMap k.vals = (xs.flatMap k.vals).take (i * k.sz) := by
  induction xs generalizing i with
  | nil => simp
  | cons x r ih =>
    cases i with
    | zero => simp
    | succ i =>
      rw [List.take_succ_cons, List.flatMap_cons, List.flatMap_cons, ih, List.take_append, Kd.len_vals, Nat.add_mul, Nat.one_mul]
      rw [List.take_of_length_le (l := k.vals x) (by rw [Kd.len_vals]; omega), show i * k.sz + k.sz - k.sz = i * k.sz by omega]
theorem flat_drop' (k : Kd) (xs : List k.den) (i : Nat) : (xs.drop i).flatMap k.vals = (xs.flatMap k.vals).drop (i * k.sz) := by
  induction xs generalizing i with
  | nil => simp
  | cons x r ih =>
    cases i with
    | zero => simp
    | succ i =>
      rw [List.drop_succ_cons, List.flatMap_cons, ih, List.drop_append, Kd.len_vals, Nat.add_mul, Nat.one_mul]
      rw [List.drop_eq_nil_of_le (show (k.vals x).length ≤ i * k.sz + k.sz by rw [Kd.len_vals]; omega), show i * k.sz + k.sz - k.sz = i * k.sz by omega]; simp
theorem flat_len' {k : Kd} (l : List k.den) : (l.flatMap k.vals).length = l.length * k.sz := by
  induction l with
  | nil => simp
  | cons x r ih => rw [List.flatMap_cons, List.length_append, ih, Kd.len_vals, List.length_cons, Nat.add_mul, Nat.one_mul]; omega
theorem insL_at {k : Kd} (xs : List k.den) (i : Nat) (x : k.den) (hi : i ≤ xs.length) (q : Nat) :
    ((insL xs i x).flatMap k.vals)[q]? = if q < i * k.sz then (xs.flatMap k.vals)[q]? else if q < (i + 1) * k.sz then (k.vals x)[q - i * k.sz]? else ((xs.flatMap k.vals).drop (i * k.sz))[q - (i + 1) * k.sz]? := by
  have e2 : (i + 1) * k.sz = i * k.sz + k.sz := by rw [Nat.add_mul, Nat.one_mul]
  have e3 : i * k.sz ≤ xs.length * k.sz := Nat.mul_le_mul_right _ hi
  unfold insL
  rw [List.flatMap_append, List.flatMap_cons, flat_take', flat_drop']
  have hl : ((xs.flatMap k.vals).take (i * k.sz)).length = i * k.sz := by rw [List.length_take, flat_len']; omega
  by_cases h1 : q < i * k.sz
  · rw [if_pos h1, List.getElem?_append_left (by omega), List.getElem?_take, if_pos h1]
  · rw [if_neg h1, List.getElem?_append_right (by omega), hl]
    by_cases h2 : q < (i + 1) * k.sz
    · rw [if_pos h2, List.getElem?_append_left (by rw [Kd.len_vals]; omega)]
    · rw [if_neg h2, List.getElem?_append_right (by rw [Kd.len_vals]; omega), Kd.len_vals]
      congr 1; omega
theorem one_vals : ∀ (k : Kd) (x : k.den), ∀ v ∈ k.vals x, v.oneCell' = true := by
  intro k
  induction k with
  | pair a b iha ihb =>
    intro x v hv
    have hv : v ∈ a.vals x.1 ++ b.vals x.2 := hv
    rcases List.mem_append.1 hv with h | h
    · exact iha _ _ h
    · exact ihb _ _ h
  | _ =>
    intro x v hv
    simp only [Kd.vals, List.mem_singleton] at hv
    subst hv; rfl
theorem one_flat (k : Kd) (xs : List k.den) : ∀ v ∈ xs.flatMap k.vals, v.oneCell' = true := by
  intro v hv
  obtain ⟨x, _, h⟩ := List.mem_flatMap.1 hv
  exact one_vals k x v h
/-- Where the answer's block lies: in the old one's place, or in a new one. -/
theorem ins_post {m : Inj} {w w' : World} {kd : Kd} {xs : List kd.den} {B1 : Blk} {i : Nat} {x : kd.den} {N off cap : Nat} {c : Array Value} {e : TypeId} (hd1 : B1 ≠ .dead)
    (hm : ∀ j, 2 ≤ j → m j = none) (hB1 : BRep m w' 1 B1) (hi : i ≤ xs.length) (hcap : xs.length + 1 ≤ cap ∧ cap ≤ 9223372036854775807) (hoff : off + cap * kd.sz ≤ c.size)
    (hN : w'.heap[N]? = some (.cells c e (0, 0))) (hcs : ∀ q, q < (xs.length + 1) * kd.sz → c[off + q]? = ((insL xs i x).flatMap kd.vals)[q]?)
    (hfr : Fr (fun b => ∃ j B base t, getB [Blk.row true kd xs, B1] j = some B ∧ B.own = true ∧ m j = some (b, base, t)) w w')
    (hnew : w.heap.size ≤ N ∨ ∃ base t, m 0 = some (N, base, t)) :
    ∃ v m', Value.slice (some ⟨N, off, none⟩) (xs.length + 1) cap = v ∧ PostC m w [.row true kd xs, B1] (.sl 2 0 kd.sz (xs.length + 1) (xs.length + 1) false false) [.dead, B1, .row true kd (insL xs i x)] v m' w' := by
  refine ⟨_, Inj.put m 2 (N, off, c.size), rfl, ?_, ?_, ?_, ?_, ?_, ?_, ?_, ?_, hfr⟩
  · unfold Rv
    exact Or.inr ⟨rfl, N, off, c.size, cap, off, Inj.put_same, rfl, Nat.le_refl _, hcap, (fun h => by cases h), (fun _ => by omega), hoff⟩
  · intro j hj
    exact Inj.put_other (by have : j < 2 := hj; omega)
  · intro j hj
    have : 3 ≤ j := hj
    rw [Inj.put_other (by omega)]; exact hm j (by omega)
  · intro j B hB
    match j, hB with
    | 0, hB => exact Or.inl (by simpa [getB] using hB.symm)
    | 1, hB =>
      obtain rfl : B1 = B := by simpa [getB] using hB
      rcases hB1 with h | ⟨h, g⟩ | ⟨b, base, t, c', e', fz, g1, g2, g3, g4, g5⟩
      · exact Or.inl h
      · exact Or.inr (Or.inl ⟨by rw [Inj.put_other (by decide)]; exact h, g⟩)
      · exact Or.inr (Or.inr ⟨b, base, t, c', e', fz, by rw [Inj.put_other (by decide)]; exact g1, g2, g3, g4, fun q p hq => by
          obtain ⟨u, hu, hr⟩ := g5 q p hq
          exact ⟨u, hu, hr.mono (Inj.put_ext (hm 2 (by decide)))⟩⟩)
    | 2, hB =>
      obtain rfl : Blk.row true kd (insL xs i x) = B := by simpa [getB] using hB
      refine Or.inr (Or.inr ⟨N, off, c.size, c, e, (0, 0), Inj.put_same, hN, rfl, fun _ => rfl, fun q p hq => ?_⟩)
      change (scs ((insL xs i x).flatMap kd.vals))[q]? = some p at hq
      simp only [scs, List.getElem?_map, Option.map_eq_some_iff] at hq
      obtain ⟨y, hy, rfl⟩ := hq
      have hq2 := (List.getElem?_eq_some_iff.1 hy).1
      rw [flat_len'] at hq2
      have hl : (insL xs i x).length = xs.length + 1 := by unfold insL; simp; omega
      rw [hl] at hq2
      exact ⟨y, by rw [hcs q hq2, hy], Rv_sc.2 rfl⟩
    | j + 3, hB => simp [getB] at hB
  · simp
  · intro j B hj hB hd
    have hj : j < 2 := hj
    match j, hj, hB with
    | 0, _, hB => exact absurd (by simpa [getB] using hB.symm) hd
    | 1, _, hB =>
      obtain rfl : B1 = B := by simpa [getB] using hB
      exact ⟨B1, rfl, hd1, rfl⟩
  · intro j b base t B hj hB hd hmj
    have hj : 2 ≤ j := hj
    match j, hj, hB with
    | 2, _, hB =>
      rw [Inj.put_same] at hmj
      obtain ⟨rfl, rfl, rfl⟩ : N = b ∧ off = base ∧ c.size = t := by simpa using hmj
      rcases hnew with h | ⟨base0, t0, h⟩
      · exact Or.inl h
      · exact Or.inr ⟨0, .row true kd xs, base0, t0, by simp, rfl, rfl, rfl, h⟩
    | j + 3, _, hB => simp [getB] at hB
  · intro i1 j1 b base t base2 t2 B B2 hi1 hj1 hB hB2 hd hd2 _ _
    have hi1 : 2 ≤ i1 := hi1
    have hj1 : 2 ≤ j1 := hj1
    have a1 : i1 < 3 := by
      rcases Nat.lt_or_ge i1 3 with h | h
      · exact h
      · obtain ⟨q, rfl⟩ := Nat.exists_eq_add_of_le h
        rw [Nat.add_comm] at hB; simp [getB] at hB
    have a2 : j1 < 3 := by
      rcases Nat.lt_or_ge j1 3 with h | h
      · exact h
      · obtain ⟨q, rfl⟩ := Nat.exists_eq_add_of_le h
        rw [Nat.add_comm] at hB2; simp [getB] at hB2
    omega
theorem brep_at {m : Inj} {w w' : World} {i : Nat} {B : Blk} {b base t : Nat} (h : BRep m w i B) (hm : m i = some (b, base, t)) (hh : w'.heap[b]? = w.heap[b]?) : BRep m w' i B := by
  rcases h with h | ⟨h, _⟩ | ⟨b', base', t', c', e', fz, g1, g2, g3, g4, g5⟩
  · exact Or.inl h
  · rw [h] at hm; cases hm
  · rw [g1] at hm
    obtain ⟨rfl, rfl, rfl⟩ : b' = b ∧ base' = base ∧ t' = t := by simpa using hm
    exact Or.inr (Or.inr ⟨b', base', t', c', e', fz, g1, hh.trans g2, g3, g4, g5⟩)
/-- **slices.Insert of one element over our blocks.** -/
theorem ins_call {kd : Kd} (L : InsL P ρ kd.sz zv ib) (hzk : zv.cells.size = kd.sz) (hib : 0 < ib) (hib2 : ib ≤ 1000) (hk0 : 0 < kd.sz) (xs : List kd.den) (i : Nat) (x : kd.den) (lo lo2 : Nat) (full nl full2 nl2 : Bool) (B1 : Blk)
    (hi : i ≤ xs.length) (hn : xs.length ≤ 100000) (h1 : B1.own = true) (hcs1 : B1.cs = scs (kd.vals x)) :
    CallOK P (ρ.f 22) [.sl 0 0 kd.sz xs.length lo full nl, .sc (.int .i64 i), .sl 1 0 kd.sz 1 lo2 full2 nl2] [.row true kd xs, B1] (.sl 2 0 kd.sz (xs.length + 1) (xs.length + 1) false false) [.dead, B1, .row true kd (insL xs i x)] := by
  intro m w vs hm hB hd hvs
  have hm : ∀ j, 2 ≤ j → m j = none := hm
  obtain ⟨v1, r1, rfl, hv1, hr1⟩ : ∃ v r, vs = v :: r ∧ Rv m (.sl 0 0 kd.sz xs.length lo full nl) v ∧ Rvs m [.sc (.int .i64 i), .sl 1 0 kd.sz 1 lo2 full2 nl2] r := hvs
  obtain ⟨v2, r2, rfl, hv2, hr2⟩ : ∃ v r, r1 = v :: r ∧ Rv m (.sc (.int .i64 i)) v ∧ Rvs m [.sl 1 0 kd.sz 1 lo2 full2 nl2] r := hr1
  obtain ⟨v3, rfl, hv3⟩ := Rvs.of_one hr2
  rw [Rv_sc] at hv2
  subst hv2
  have hib3 : (xs.length + 1) * ib ≤ 140737488355328 := Nat.le_trans (Nat.mul_le_mul (show xs.length + 1 ≤ 100001 by omega) hib2) (by decide)
  -- the element
  unfold Rv at hv3
  rcases hv3 with ⟨h0, _⟩ | ⟨_, vb, vbase, vt, vcap, voff, hm1, rfl, hl1, hl2, _, hvo, hvf⟩
  · cases h0
  have hvo := hvo (by omega)
  rw [Nat.zero_mul, Nat.add_zero] at hvo
  subst hvo
  have hd1 : B1 ≠ .dead := by
    rintro rfl
    have := congrArg List.length hcs1
    simp [Blk.cs, scs, Kd.len_vals] at this
    omega
  have hR1 := hB 1 B1 rfl
  obtain ⟨c1, e1, hh1, hc1, hx1⟩ : ∃ c1 e1, w.heap[vb]? = some (.cells c1 e1 (0, 0)) ∧ c1.size = vt ∧ ∀ (j : Nat) (v : Value), (kd.vals x)[j]? = some v → c1[voff + j]? = some v := by
    rcases hR1 with h | ⟨h, _⟩ | ⟨b', base', t', c', e', fz, g1, g2, g3, g4, g5⟩
    · exact absurd h hd1
    · rw [h] at hm1; cases hm1
    · rw [g1] at hm1
      obtain ⟨rfl, rfl, rfl⟩ : b' = vb ∧ base' = voff ∧ t' = vt := by simpa using hm1
      have := g4 h1
      subst this
      refine ⟨c', e', g2, g3, fun j v hj => ?_⟩
      obtain ⟨u, hu, hr⟩ := g5 j (.sc v) (by rw [hcs1]; simp [scs, hj])
      rw [hu, Rv_sc.1 hr]
  have cell_of : ∀ {g : Nat} {c : Array Value} {e : TypeId} (o : Nat), w.heap[g]? = some (.cells c e (0, 0)) → w.cell? ⟨g, o, none⟩ = c[o]? := fun {g c e} o h => by
    unfold World.cell?
    show (match w.heap[g]? with | some (.cells c _ _) => if (none : Option _).isSome then none else c[o]? | _ => none) = _
    rw [h]; rfl
  have froz_of : ∀ {g : Nat} {c : Array Value} {e : TypeId} (o : Nat), w.heap[g]? = some (.cells c e (0, 0)) → w.frozen? ⟨g, o, none⟩ = false := fun {g c e} o h => by
    unfold World.frozen?
    show (match w.heap[g]? with | some (.cells _ _ (lo, hi)) => decide (lo ≤ o) && decide (o < hi) | _ => false) = _
    rw [h]; simp
  have hvs : ∀ (j : Nat) (v : Value), (kd.vals x)[j]? = some v → w.cell? ⟨vb, voff + j, none⟩ = some v := fun j v hj => by rw [cell_of _ hh1]; exact hx1 j v hj
  have hxl : (kd.vals x).length = kd.sz := Kd.len_vals _ _
  have hx1' := one_vals kd x
  have hxs1 := one_flat kd xs
  have hxsl := flat_len' (k := kd) xs
  have e2 : (i + 1) * kd.sz = i * kd.sz + kd.sz := by rw [Nat.add_mul, Nat.one_mul]
  have e3 : i * kd.sz ≤ xs.length * kd.sz := Nat.mul_le_mul_right _ hi
  have e4 : (xs.length + 1) * kd.sz = xs.length * kd.sz + kd.sz := by rw [Nat.add_mul, Nat.one_mul]
  -- a new row behind the elements
  have newrow : ∀ (base : Option Addr) (c : Nat), c < xs.length + 1 → xs.length ≤ c → i = xs.length → (base = none → xs.length = 0) → (∀ a, base = some a → ∀ (j : Nat) (v : Value), (xs.flatMap kd.vals)[j]? = some v → w.cell? (a.add j) = some v) →
      Calls P (ρ.f 22) #[.slice base xs.length c, .int .i64 i, .slice (some ⟨vb, voff, none⟩) 1 vcap] w fun e w' => ∃ v m', e = .returned v ∧ PostC m w [.row true kd xs, B1] (.sl 2 0 kd.sz (xs.length + 1) (xs.length + 1) false false) [.dead, B1, .row true kd (insL xs i x)] v m' w' := by
    intro base c g1 g2 g3 g4 g5
    rw [g3]
    refine Calls.mono (ins_end_grow L base xs.length c vb voff vcap (xs.flatMap kd.vals) (kd.vals x) w g1 g2 hib3 (by omega) hxsl hxl g4 g5 hvs hx1') ?_
    rintro ee w' ⟨rfl, rfl⟩
    have hf : Fr (fun _ => False) w (w.drew.alloc (.cells ((xs.flatMap kd.vals ++ kd.vals x).toArray ++ Builtin.zeroCells zv.cells (grownCap w (xs.length + 1) c (ρ.t 9) - (xs.length + 1))) (ρ.t 9))) := Fr.trans (Fr.drew _ w) (Fr.alloc _ _ _)
    have hG := grownCap_bd w (xs.length + 1) c (ρ.t 9) (by omega)
    have hvw : vb < w.heap.size := (Array.getElem?_eq_some_iff.1 hh1).1
    obtain ⟨v, m', rfl, hp⟩ := ins_post (m := m) (w := w) (w' := w.drew.alloc (.cells ((xs.flatMap kd.vals ++ kd.vals x).toArray ++ Builtin.zeroCells zv.cells (grownCap w (xs.length + 1) c (ρ.t 9) - (xs.length + 1))) (ρ.t 9))) (kd := kd) (xs := xs) (B1 := B1) (i := xs.length) (x := x) (N := w.heap.size) (off := 0) (cap := grownCap w (xs.length + 1) c (ρ.t 9)) (e := ρ.t 9) hd1 hm (brep_at hR1 hm1 (hf.block _ hvw (fun h => h))) (Nat.le_refl _) hG
      (c := (xs.flatMap kd.vals ++ kd.vals x).toArray ++ Builtin.zeroCells zv.cells (grownCap w (xs.length + 1) c (ρ.t 9) - (xs.length + 1))) (by
        rw [Array.size_append, zeroCells_size, hzk, List.size_toArray, List.length_append, hxsl, hxl, ← e4, Nat.zero_add, ← Nat.add_mul]
        exact Nat.mul_le_mul_right _ (by omega)) (heap_alloc_new w.drew _) (fun q hq => by
        rw [Nat.zero_add, Array.getElem?_append_left (by rw [List.size_toArray, List.length_append, hxsl, hxl]; omega), List.getElem?_toArray]
        unfold insL
        rw [List.take_length, List.drop_length, List.flatMap_append, List.flatMap_cons, List.flatMap_nil, List.append_nil]) (hf.mono (fun _ _ h => h.elim)) (Or.inl (Nat.le_refl _))
    exact ⟨_, m', rfl, hp⟩
  unfold Rv at hv1
  rcases hv1 with ⟨h0, _, a, rfl, _⟩ | ⟨_, b, base, t, cap, off, hm0, rfl, hl3, hl4, _, hoff, hfit⟩
  · have hx0 : xs = [] := List.length_eq_zero_iff.1 h0
    have := newrow a 0 (by omega) (by omega) (by omega) (fun _ => h0) (fun a' _ j v hj => by rw [hx0] at hj; simp at hj)
    rw [h0] at this
    simpa only [h0] using this
  obtain ⟨c0, e0, hh0, hc0, hx0⟩ : ∃ c0 e0, w.heap[b]? = some (.cells c0 e0 (0, 0)) ∧ c0.size = t ∧ ∀ (j : Nat) (v : Value), (xs.flatMap kd.vals)[j]? = some v → c0[base + j]? = some v := by
    rcases hB 0 _ rfl with h | ⟨h, _⟩ | ⟨b', base', t', c', e', fz, g1, g2, g3, g4, g5⟩
    · cases h
    · rw [h] at hm0; cases hm0
    · rw [g1] at hm0
      obtain ⟨rfl, rfl, rfl⟩ : b' = b ∧ base' = base ∧ t' = t := by simpa using hm0
      have := g4 rfl
      subst this
      refine ⟨c', e', g2, g3, fun j v hj => ?_⟩
      obtain ⟨u, hu, hr⟩ := g5 j (.sc v) (by show (scs (xs.flatMap kd.vals))[j]? = _; simp [scs, hj])
      rw [hu, Rv_sc.1 hr]
  have hbw : b < w.heap.size := (Array.getElem?_eq_some_iff.1 hh0).1
  have hvw : vb < w.heap.size := (Array.getElem?_eq_some_iff.1 hh1).1
  have hne : vb ≠ b := fun e => by
    subst e
    exact hd 0 1 _ B1 (by decide) rfl rfl (by simp) hd1 rfl vb base t voff vt hm0 hm1
  by_cases hroom : xs.length + 1 ≤ cap
  · have hoff := hoff (by omega)
    rw [Nat.zero_mul, Nat.add_zero] at hoff
    subst hoff
    have hck : (xs.length + 1) * kd.sz ≤ cap * kd.sz := Nat.mul_le_mul_right _ hroom
    have mine : ∀ {w' : World}, Fr (fun g => g = b) w w' → Fr (fun b => ∃ j B base t, getB [Blk.row true kd xs, B1] j = some B ∧ B.own = true ∧ m j = some (b, base, t)) w w' := fun h => h.mono (fun g _ hg => ⟨0, .row true kd xs, off, t, rfl, rfl, by rw [hg]; exact hm0⟩)
    have hc63 : cap ≤ 9223372036854775807 := hl4.2
    have hsp : ∀ j, j < (xs.length + 1) * kd.sz → (w.cell? ⟨b, off + j, none⟩).isSome = true := fun j hj => by
      rw [cell_of _ hh0, Array.getElem?_eq_getElem (by omega)]; rfl
    have hfz : ∀ j, j < (xs.length + 1) * kd.sz → w.frozen? ⟨b, off + j, none⟩ = false := fun j _ => froz_of _ hh0
    have hcs0 : ∀ (j : Nat) (v : Value), (xs.flatMap kd.vals)[j]? = some v → w.cell? ⟨b, off + j, none⟩ = some v := fun j v hj => by rw [cell_of _ hh0]; exact hx0 j v hj
    rcases Nat.lt_or_ge i xs.length with hlt | hge
    · have e5 : (i + 1) * kd.sz ≤ xs.length * kd.sz := Nat.mul_le_mul_right _ hlt
      have hb0 : 0 < c0.size := by omega
      refine Calls.mono (ins_shift L b off xs.length cap i vb voff vcap (xs.flatMap kd.vals) (kd.vals x) w hlt hroom hc63 hne hxsl hxl hcs0 hsp hfz hvs hxs1 hx1' e1 e0 c1.size c0.size (by unfold World.shape?; rw [hh1]) (by unfold World.shape?; rw [hh0]) (by omega) (froz_of _ hh1) (froz_of _ hh1)) ?_
      rintro ee w' ⟨rfl, rfl⟩
      have hdl : ((xs.flatMap kd.vals).drop (i * kd.sz)).length = xs.length * kd.sz - i * kd.sz := by rw [List.length_drop, hxsl]
      obtain ⟨c2, g1, g2, g3, g4⟩ := setCells_at b ((xs.flatMap kd.vals).drop (i * kd.sz)) (off + (i + 1) * kd.sz) w.drew c0 e0 (0, 0) hh0 (by rw [hdl]; omega)
      obtain ⟨c3, k1, k2, k3, k4⟩ := setCells_at b (kd.vals x) (off + i * kd.sz) _ c2 e0 (0, 0) g1 (by rw [hxl]; omega)
      have hf := Fr.trans (Fr.trans (Fr.drew (fun g => g = b) w) g4) k4
      obtain ⟨v, m', rfl, hp⟩ := ins_post (i := i) (x := x) (xs := xs) (cap := cap) (off := off) hd1 hm (brep_at hR1 hm1 (hf.block _ hvw hne)) hi ⟨hroom, hc63⟩ (by rw [k2, g2]; omega) k1 (fun q hq => by
        rw [insL_at xs i x hi q, k3, hxl]
        by_cases q1 : q < i * kd.sz
        · rw [if_pos q1, if_neg (by omega), g3, if_neg (by omega)]
          obtain ⟨y, hy⟩ : ∃ y, (xs.flatMap kd.vals)[q]? = some y := ⟨_, List.getElem?_eq_getElem (by omega)⟩
          rw [hy]; exact hx0 q y hy
        · rw [if_neg q1]
          by_cases q2 : q < (i + 1) * kd.sz
          · rw [if_pos q2, if_pos (by omega), show off + q - (off + i * kd.sz) = q - i * kd.sz by omega]
          · rw [if_neg q2, if_neg (by omega), g3, hdl, if_pos (by omega), show off + q - (off + (i + 1) * kd.sz) = q - (i + 1) * kd.sz by omega]) (mine hf) (Or.inr ⟨off, t, hm0⟩)
      exact ⟨_, m', rfl, hp⟩
    · have hie : i = xs.length := by omega
      rw [hie]
      refine Calls.mono (ins_end_room L b off xs.length cap vb voff vcap (kd.vals x) w hroom hc63 hxl (fun j hj => by rw [Nat.add_assoc]; exact hsp _ (by omega)) (fun j hj => by rw [Nat.add_assoc]; exact hfz _ (by omega)) hvs hx1') ?_
      rintro ee w' ⟨rfl, rfl⟩
      obtain ⟨c3, k1, k2, k3, hf⟩ := setCells_at b (kd.vals x) (off + xs.length * kd.sz) _ c0 e0 (0, 0) hh0 (by rw [hxl]; omega)
      obtain ⟨v, m', rfl, hp⟩ := ins_post (i := xs.length) (x := x) (xs := xs) (cap := cap) (off := off) hd1 hm (brep_at hR1 hm1 (hf.block _ hvw hne)) (Nat.le_refl _) ⟨hroom, hc63⟩ (by rw [k2]; omega) k1 (fun q hq => by
        rw [insL_at xs xs.length x (Nat.le_refl _) q, k3, hxl]
        by_cases q1 : q < xs.length * kd.sz
        · rw [if_pos q1, if_neg (by omega)]
          obtain ⟨y, hy⟩ : ∃ y, (xs.flatMap kd.vals)[q]? = some y := ⟨_, List.getElem?_eq_getElem (by omega)⟩
          rw [hy]; exact hx0 q y hy
        · rw [if_neg q1, if_pos (by omega), if_pos (by omega), show off + q - (off + xs.length * kd.sz) = q - xs.length * kd.sz by omega]) (mine hf) (Or.inr ⟨off, t, hm0⟩)
      exact ⟨_, m', rfl, hp⟩
  · have hn0 : 0 < xs.length → off = base := fun h => by
      have := hoff (by omega)
      rw [Nat.zero_mul, Nat.add_zero] at this
      exact this
    rcases Nat.lt_or_ge i xs.length with hlt | hge
    · have hob := hn0 (by omega)
      subst hob
      have e5 : (i + 1) * kd.sz ≤ xs.length * kd.sz := Nat.mul_le_mul_right _ hlt
      have hcs0 : ∀ (j : Nat) (v : Value), (xs.flatMap kd.vals)[j]? = some v → w.cell? ⟨b, off + j, none⟩ = some v := fun j v hj => by rw [cell_of _ hh0]; exact hx0 j v hj
      refine Calls.mono (ins_grow L hzk b off xs.length cap i vb voff vcap (xs.flatMap kd.vals) (kd.vals x) w hlt (by omega) (by omega) hib3 hib hk0 hxsl hxl hcs0 hvs hxs1 hx1') ?_
      rintro ee w' ⟨rfl, ROW, r1, r2, rfl⟩
      have hG := grownCap_bd w (xs.length + 1) cap (ρ.t 9) (by omega)
      have hGk : (xs.length + 1) * kd.sz ≤ grownCap w (xs.length + 1) cap (ρ.t 9) * kd.sz := Nat.mul_le_mul_right _ hG.1
      have hdl : ((xs.flatMap kd.vals).drop (i * kd.sz)).length = xs.length * kd.sz - i * kd.sz := by rw [List.length_drop, hxsl]
      obtain ⟨c2, g1, g2, g3, g4⟩ := setCells_at w.heap.size (kd.vals x) (i * kd.sz) (w.alloc (.cells ROW (ρ.t 9))).drew ROW (ρ.t 9) (0, 0) (heap_alloc_new w _) (by rw [hxl, r1]; omega)
      obtain ⟨c3, k1, k2, k3, k4⟩ := setCells_at w.heap.size ((xs.flatMap kd.vals).drop (i * kd.sz)) ((i + 1) * kd.sz) _ c2 (ρ.t 9) (0, 0) (show (((w.alloc (.cells ROW (ρ.t 9))).drew.setCells w.heap.size (i * kd.sz) (kd.vals x)).drew).heap[w.heap.size]? = _ from g1) (by rw [hdl, g2, r1]; omega)
      have h := Fr.trans (Fr.trans (Fr.trans (Fr.trans (Fr.alloc (fun g => g = w.heap.size) w (.cells ROW (ρ.t 9))) (Fr.drew _ _)) g4) (Fr.drew _ _)) k4
      have hf := h.mono (A' := fun _ => False) (fun g hg he => by omega)
      obtain ⟨v, m', rfl, hp⟩ := ins_post (i := i) (x := x) (xs := xs) (N := w.heap.size) (cap := grownCap w (xs.length + 1) cap (ρ.t 9)) (off := 0) hd1 hm (brep_at hR1 hm1 (hf.block _ hvw (fun h => h))) hi hG (by rw [k2, g2, r1]; omega) k1 (fun q hq => by
        rw [Nat.zero_add, insL_at xs i x hi q, k3, hdl]
        by_cases q1 : q < i * kd.sz
        · rw [if_pos q1, if_neg (by omega), g3, if_neg (by omega)]
          obtain ⟨y, hy⟩ : ∃ y, (xs.flatMap kd.vals)[q]? = some y := ⟨_, List.getElem?_eq_getElem (by omega)⟩
          rw [hy]; exact r2 q y q1 hy
        · rw [if_neg q1]
          by_cases q2 : q < (i + 1) * kd.sz
          · rw [if_pos q2, if_neg (by omega), g3, hxl, if_pos (by omega)]
          · rw [if_neg q2, if_pos (by omega)]) (hf.mono (fun _ _ h => h.elim)) (Or.inl (Nat.le_refl _))
      exact ⟨_, m', rfl, hp⟩
    · refine newrow (some ⟨b, off, none⟩) cap (by omega) (by omega) (by omega) (fun h => by cases h) (fun a' ha j v hj => ?_)
      cases ha
      have hlx : 0 < xs.length := by
        rcases Nat.eq_zero_or_pos xs.length with h | h
        · rw [List.length_eq_zero_iff.1 h] at hj; simp at hj
        · exact h
      rw [hn0 hlx, Addr.add_lit, cell_of _ hh0]
      exact hx0 j v hj
end Go.Proofs.YtokephobkllfgaaIn
