/- What is proved here: append of the evaluator says what the machine's own does, whether the old array had room or not. No condition. -/
import Derived.Test.YtokephobkllfgaaDoorEvI
namespace Go.Proofs.YtokephobkllfgaaDoorEv
open Go
section
variable {P : Program} {m : Inj} {w : World} {R : Type} {n : Nat} {hp : Nat → Option Blk}

theorem run_append_types {t t2 ty e e2 : TypeId} (ht : P.underlying t = some (.slice e)) (h2 : P.underlying t2 = some (.slice e2)) (s x : Value) :
    (Builtin.append_ #[t, t2] ty #[s, x]).run P w = (Builtin.append_ #[t, t] ty #[s, x]).run P w := by
  cases s <;> simp [Builtin.append_, run_underlying ht, run_underlying h2]

theorem run_append_zero {t ty e : TypeId} {i : TypeInfo} (ht : P.underlying t = some (.slice e)) (hi : P.info? e = some i) (base a : Option Addr) (len cap c : Nat) (hl : len ≤ cap) :
    (Builtin.append_ #[t, t] ty #[.slice base len cap, .slice a 0 c]).run P w = .ok (.slice base len cap) w := by
  have hf : (Builtin.firstCells i.size 0 (.slice a 0 c)).run P w = .ok #[] w := by
    cases a <;> simp [Builtin.firstCells, loadCells, loadCellsFrom]
  cases base <;> simp [Builtin.append_, run_underlying ht, sizeOf, typeInfo, hi, Builtin.lenOf, hl, hf, storeCells]

theorem run_append_room0 {t ty e : TypeId} {i : TypeInfo} (ht : P.underlying t = some (.slice e)) (hi : P.info? e = some i)
    (g o sLen sCap : Nat) (cur : Array Value) (el : TypeId) (hg : w.heap[g]? = some (.cells cur el (0, 0)))
    (a : Addr) (q c : Nat) (news : List Value) (hl : news.length = q * i.size) (hnews : ∀ j u, news[j]? = some u → w.cell? (a.add j) = some u) (h1 : ∀ u ∈ news, u.oneCell' = true)
    (hroom : sLen + q ≤ sCap) (hfit : o + sLen * i.size + news.length ≤ cur.size) :
    (Builtin.append_ #[t, t] ty #[.slice (some ⟨g, o, none⟩) sLen sCap, .slice (some a) q c]).run P w =
      .ok (.slice (some ⟨g, o, none⟩) (sLen + q) sCap) (w.setRow g (splice cur.toList (o + sLen * i.size) news).toArray) := by
  have hf := run_firstCells_some (P := P) w i.size q a q c news hl hnews
  have hst := run_storeCells_at P g (o + sLen * i.size) el news 0 cur w hg (by simpa using hfit) h1
  simp only [Nat.add_zero, List.append_assoc] at hst
  simp [Builtin.append_, run_underlying ht, sizeOf, typeInfo, hi, Builtin.lenOf, hroom, hf, Addr.add_lit, hst, splice]

/-- A row that has grown has its bound. -/
theorem grownCap_bd (w : World) (need old : Nat) (e : TypeId) (h : need ≤ 9223372036854775807) : need ≤ grownCap w need old e ∧ grownCap w need old e ≤ 9223372036854775807 := by
  refine ⟨grownCap_ge w need old e, ?_⟩
  have := grownCap_le_maxLen w need old e (by unfold maxLen; omega)
  unfold maxLen at this
  omega
/-- What a slice of a row shows, as the machine has it. -/
theorem slice_cells {i e len lo : Nat} {full nl own : Bool} {k : Kd} {xs : List k.den} {v : Value} (hb : BRep m w i (.row own k xs)) (hv : Rv m (.sl i e k.sz len lo full nl) v) (hin : e + len ≤ xs.length) :
    (len = 0 ∧ ∃ a : Option Addr, v = .slice a 0 0 ∧ nl = a.isNone) ∨
    (nl = false ∧ ∃ b base t cap off c el fz, m i = some (b, base, t) ∧ v = .slice (some ⟨b, off, none⟩) len cap ∧ (len ≤ cap ∧ cap ≤ 9223372036854775807) ∧ (full = true → cap = len) ∧ off + cap * k.sz ≤ c.size ∧
      w.heap[b]? = some (.cells c el fz) ∧ c.size = t ∧ (own = true → fz = (0, 0)) ∧ ∀ j u, (((xs.drop e).take len).flatMap k.vals)[j]? = some u → c[off + j]? = some u) := by
  unfold Rv at hv
  rcases hv with ⟨h1, _, h3⟩ | ⟨h1, b, base, t, cap, off, hm, rfl, hl1, hl2, hf, ho, htot⟩
  · exact Or.inl ⟨h1, h3⟩
  · right
    rcases hb with h | ⟨h, _⟩ | ⟨b', base', t', c, el, fz, hm', hh, hc, hz, H⟩
    · cases h
    · rw [h] at hm; cases hm
    rw [hm] at hm'; cases hm'
    refine ⟨h1, b, base, t, cap, off, c, el, fz, hm, rfl, by omega, hf, by omega, hh, hc, hz, fun j u hj => ?_⟩
    have hjl : j < len * k.sz := by
      have := (List.getElem?_eq_some_iff.1 hj).1
      rw [Kd.len_flat, List.length_take, List.length_drop, Nat.min_eq_left (by omega)] at this
      exact this
    have hlen : 0 < len := by
      rcases Nat.eq_zero_or_pos len with h0 | h0
      · rw [h0] at hjl; simp at hjl
      · exact h0
    rw [ho (by omega)]
    have e1 : ((xs.flatMap k.vals)[e * k.sz + j]?) = some u := by
      rw [← flat_take, ← flat_drop, List.getElem?_take, if_pos hjl, List.getElem?_drop] at hj
      exact hj
    obtain ⟨u', hu', hr⟩ := H (e * k.sz + j) (.sc u) (by simp only [Blk.cs, scs, List.getElem?_map, e1]; rfl)
    rw [Rv_sc.1 hr] at hu'
    rw [Nat.add_assoc]; exact hu'

/-- A block of its own that goes on under a new number. -/
theorem Post.reuse {p : PV} {rd : List Nat} {up : List (Nat × Blk)} {B : Blk} {v : Value} {w' : World} {b off : Nat} {c' : Array Value} {el : TypeId} {k : Nat} {B0 : Blk} {base0 t0 : Nat} (hm : m n = none)
    (hup : ∀ i B, (i, B) ∈ up → B = .dead ∧ ∃ B0, hp i = some B0) (hk : (k, Blk.dead) ∈ up) (h0 : hp k = some B0) (ho : B0.own = true) (hmk : m k = some (b, base0, t0))
    (hh : w'.heap[b]? = some (.cells c' el (0, 0))) (hf : Fr (Ids ⟨rd, up, [B]⟩ m hp) w w') (hv : Rv (Inj.put m n (b, off, c'.size)) p v)
    (hB : ∀ (q : Nat) (p : PV), B.cs[q]? = some p → ∃ u, c'[off + q]? = some u ∧ Rv m p u) : Post m w hp n p ⟨rd, up, [B]⟩ v (Inj.put m n (b, off, c'.size)) w' := by
  have one : ∀ {k : Nat} {B' : Blk}, [B][k]? = some B' → k = 0 ∧ B' = B := by
    intro k B' hk
    have hk0 : k = 0 := by
      have := (List.getElem?_eq_some_iff.1 hk).1
      simp at this; omega
    subst hk0
    simp at hk; exact ⟨rfl, hk.symm⟩
  refine ⟨hv, fun i hi => Inj.put_other (by simp at hi; omega), fun i B h => Or.inl (hup i B h).1, ?_, fun i B h hd => absurd (hup i B h).1 hd, ?_, ?_, hf, fun i B B' h h' => by rw [(hup i B h).1, (hup i B' h').1], fun i B h => (hup i B h).2⟩
  · intro k B' hk
    obtain ⟨rfl, rfl⟩ := one hk
    refine Or.inr (Or.inr ⟨_, _, _, c', el, (0, 0), Inj.put_same, hh, rfl, fun _ => rfl, ?_⟩)
    intro q p hq
    obtain ⟨u, hu, hr⟩ := hB q p hq
    exact ⟨u, hu, hr.mono (Inj.put_ext hm)⟩
  · intro k' b' base t B' hk' _ he
    obtain ⟨rfl, rfl⟩ := one hk'
    rw [Nat.add_zero, Inj.put_same] at he
    cases he
    exact Or.inr ⟨k, B0, base0, t0, hk, h0, ho, hmk⟩
  · intro k l b base t base2 t2 B1 B2 hk hl _ _ _ _
    rw [(one hk).1, (one hl).1]

theorem row_cells {k : Kd} {zs : List k.den} {c : Array Value} {off : Nat} (h : ∀ (j : Nat) u, (zs.flatMap k.vals)[j]? = some u → c[off + j]? = some u) :
    ∀ (q : Nat) (p : PV), (Blk.row true k zs).cs[q]? = some p → ∃ u, c[off + q]? = some u ∧ Rv m p u := by
  intro q p hq
  simp only [Blk.cs, scs, List.getElem?_map, Option.map_eq_some_iff] at hq
  obtain ⟨u, h1, rfl⟩ := hq
  exact ⟨u, h q u h1, Rv_sc.2 rfl⟩

theorem append_core {t ty e : TypeId} {inf : TypeInfo} {zv : Value} {k : Kd} (ht : P.underlying t = some (.slice e)) (hi : P.info? e = some inf) (hz : inf.zero = some zv) (hks : inf.size = k.sz) (hzc : zv.cells.size = inf.size)
    {xs ys : List k.den} {sv xv : Value} {nz : Bool} {up : List (Nat × Blk)} {rd : List Nat} (hup : ∀ i B, (i, B) ∈ up → B = .dead ∧ ∃ B0, hp i = some B0) (hn : m n = none)
    (hb : (xs.length + ys.length) * inf.bytes ≤ 140737488355328) (hL : xs.length + ys.length ≤ 4611686018427387904)
    (hx : (ys = [] ∧ ∃ a c, xv = .slice a 0 c) ∨ ∃ a c, xv = .slice (some a) ys.length c ∧ ∀ (j : Nat) u, (ys.flatMap k.vals)[j]? = some u → w.cell? (a.add j) = some u)
    (hs : (xs = [] ∧ ∃ a0 : Option Addr, sv = .slice a0 0 0 ∧ nz = a0.isNone) ∨ (nz = false ∧ ∃ b cap off c el fz, sv = .slice (some ⟨b, off, none⟩) xs.length cap ∧ (xs.length ≤ cap ∧ cap ≤ 9223372036854775807) ∧ off + cap * k.sz ≤ c.size ∧ w.heap[b]? = some (.cells c el fz) ∧
      (∀ (j : Nat) u, (xs.flatMap k.vals)[j]? = some u → c[off + j]? = some u) ∧ (cap < xs.length + ys.length ∨ (fz = (0, 0) ∧ ∃ i B0 base0 t0, (i, Blk.dead) ∈ up ∧ hp i = some B0 ∧ B0.own = true ∧ m i = some (b, base0, t0))))) :
    ∃ v m' w', (Builtin.append_ #[t, t] ty #[sv, xv]).run P w = .ok v w' ∧
      Post m w hp n (.sl n 0 k.sz (xs.length + ys.length) (xs.length + ys.length) false (nz && Nat.beq ys.length 0)) ⟨rd, up, [.row true k (xs ++ ys)]⟩ v m' w' := by
  have zero : ys = [] → ∀ a c, xv = .slice a 0 c → ∃ v m' w', (Builtin.append_ #[t, t] ty #[sv, xv]).run P w = .ok v w' ∧
      Post m w hp n (.sl n 0 k.sz (xs.length + ys.length) (xs.length + ys.length) false (nz && Nat.beq ys.length 0)) ⟨rd, up, [.row true k (xs ++ ys)]⟩ v m' w' := by
    rintro rfl a c rfl
    rcases hs with ⟨rfl, a0, rfl, rfl⟩ | ⟨rfl, b, cap, off, c, el, fz, rfl, hc, hfit, hh, hcells, hroom⟩
    · refine ⟨_, m, w, run_append_zero ht hi a0 a 0 0 c (Nat.le_refl _), ?_, fun _ _ => rfl, fun i B h => Or.inl (hup i B h).1, ?_, fun i B h hd => absurd (hup i B h).1 hd, ?_, ?_, Fr.refl _ _, fun i B B' h h' => by rw [(hup i B h).1, (hup i B' h').1], fun i B h => (hup i B h).2⟩
      · unfold Rv; exact Or.inl ⟨rfl, rfl, a0, rfl, by simp⟩
      · intro q B hq
        have hq0 : q = 0 := by have := (List.getElem?_eq_some_iff.1 hq).1; simp at this; omega
        subst hq0
        simp at hq; subst hq
        exact Or.inr (Or.inl ⟨hn, true, k, rfl⟩)
      · intro q b base t B hq _ he
        have hq0 : q = 0 := by have := (List.getElem?_eq_some_iff.1 hq).1; simp at this; omega
        subst hq0
        rw [Nat.add_zero, hn] at he; cases he
      · intro q l b base t base2 t2 B1 B2 hq hl _ _ _ _
        have h1 := (List.getElem?_eq_some_iff.1 hq).1
        have h2 := (List.getElem?_eq_some_iff.1 hl).1
        simp at h1 h2; omega
    · rcases hroom with h | ⟨rfl, i, B0, base0, t0, h1, h2, h3, h4⟩
      · simp at h; omega
      refine ⟨_, _, w, run_append_zero ht hi _ a xs.length cap _ hc.1, Post.reuse (off := off) hn hup h1 h2 h3 h4 hh (Fr.refl _ _) ?_ ?_⟩
      · unfold Rv
        exact Or.inr ⟨by simp, b, off, c.size, cap, off, Inj.put_same, rfl, by simp, by simpa using hc, (fun h => by cases h), fun _ => by simp, hfit⟩
      · rw [List.append_nil]; exact row_cells hcells
  rcases hx with ⟨h1, a, c, h2⟩ | ⟨a, ca, rfl, hnews⟩
  · exact zero h1 a c h2
  · by_cases hy : ys = []
    · exact zero hy (some a) ca (by rw [hy]; rfl)
    · have hyl : 0 < ys.length := List.length_pos_iff.2 hy
      have hnl : (ys.flatMap k.vals).length = ys.length * inf.size := by rw [Kd.len_flat, hks]
      have hol : (xs.flatMap k.vals).length = xs.length * inf.size := by rw [Kd.len_flat, hks]
      have hbz : Nat.beq ys.length 0 = false := by
        cases hl : ys.length with
        | zero => omega
        | succ q => rfl
      have hzs : ∀ (c0 : Array Value) (cap : Nat), (xs ++ ys).flatMap k.vals = c0.toList → ∀ (q : Nat) (p : PV), (Blk.row true k (xs ++ ys)).cs[q]? = some p → ∃ u, (c0 ++ Builtin.zeroCells zv.cells cap)[q]? = some u ∧ Rv m p u := by
        intro c0 cap hc q p hq
        have := row_cells (m := m) (zs := xs ++ ys) (c := c0 ++ Builtin.zeroCells zv.cells cap) (off := 0) (fun j u hj => by
          rw [hc] at hj
          have hlt := (List.getElem?_eq_some_iff.1 hj).1
          rw [Nat.zero_add, Array.getElem?_append_left (by simpa using hlt)]
          simpa using hj) q p hq
        simpa using this
      rcases hs with ⟨rfl, a0, rfl, rfl⟩ | ⟨rfl, b, cap, off, c, el, fz, rfl, hc, hfit, hh, hcells, hroom⟩
      · cases a0 with
        | some b0 =>
          have hr := run_append_grow (P := P) (w := w) t ty e inf zv ht hi hz b0 0 0 [] (by simp) (fun j u hj => by simp at hj) a ys.length ca (ys.flatMap k.vals) hnl hnews (by omega) (by simp at hL; omega) (growslice_fits (by omega) (by simpa using hb))
          have hge := grownCap_bd w (0 + ys.length) 0 e (by simp at hL ⊢; omega)
          simp only [List.length_nil, Nat.zero_add, List.nil_append, hbz, Bool.and_false] at *
          refine ⟨_, _, _, hr, Post.make hn w.drew rfl (Fr.drew _ _) hup ?_ (fun q p hq => hzs _ _ (by simp) q p hq)⟩
          unfold Rv
          refine Or.inr ⟨rfl, w.heap.size, 0, _, _, 0, Inj.put_same, rfl, Nat.le_refl _, hge, (fun h => by cases h), fun _ => by simp, ?_⟩
          simp only [Array.size_append, List.size_toArray, size_zeroCells, hnl, hzc, List.length_nil, ← Nat.add_mul, Nat.zero_add, hks]
          exact Nat.mul_le_mul_right _ (by omega)
        | none =>
        have hr := run_append_nil (P := P) (w := w) t ty e inf zv ht hi hz a ys.length ca (ys.flatMap k.vals) hnl hnews hyl (by simp at hL; omega) (by simp at hb; omega)
        have hge := grownCap_bd w ys.length 0 e (by simp at hL; omega)
        simp only [List.length_nil, Nat.zero_add, List.nil_append, hbz, Bool.and_false] at *
        refine ⟨_, _, _, hr, Post.make hn w.drew rfl (Fr.drew _ _) hup ?_ (fun q p hq => hzs _ _ (by simp) q p hq)⟩
        unfold Rv
        refine Or.inr ⟨rfl, w.heap.size, 0, _, _, 0, Inj.put_same, rfl, Nat.le_refl _, hge, (fun h => by cases h), fun _ => by simp, ?_⟩
        simp only [Array.size_append, List.size_toArray, size_zeroCells, hnl, hzc, ← Nat.add_mul, Nat.zero_add, hks]
        exact Nat.mul_le_mul_right _ (by omega)
      · have holds : ∀ (j : Nat) u, (xs.flatMap k.vals)[j]? = some u → w.cell? ((⟨b, off, none⟩ : Addr).add j) = some u := fun j u hj => by
          rw [cell_at hh]; exact hcells j u hj
        simp only [hbz, Bool.and_false]
        by_cases hrm : xs.length + ys.length ≤ cap
        · rcases hroom with h | ⟨rfl, i, B0, base0, t0, h1, h2, h3, h4⟩
          · omega
          have hmul : (xs.length + ys.length) * k.sz ≤ cap * k.sz := Nat.mul_le_mul_right _ hrm
          rw [Nat.add_mul] at hmul
          have hr := run_append_room0 (P := P) (w := w) (ty := ty) ht hi b off xs.length cap c el hh a ys.length ca (ys.flatMap k.vals) hnl hnews
            (fun u hu => by
              obtain ⟨x, _, hx⟩ := List.mem_flatMap.1 hu
              exact Kd.one_vals k x u hx) hrm (by rw [hnl, hks]; omega)
          have hfit2 : off + xs.length * inf.size + (ys.flatMap k.vals).length ≤ c.toList.length := by
            rw [hnl, hks]; simp only [Array.length_toList]; omega
          have hsp : (splice c.toList (off + xs.length * inf.size) (ys.flatMap k.vals)).length = c.size := by
            rw [splice_len _ _ _ hfit2, Array.length_toList]
          refine ⟨_, _, _, hr, Post.reuse (off := off) (c' := (splice c.toList (off + xs.length * inf.size) (ys.flatMap k.vals)).toArray) hn hup h1 h2 h3 h4 (setRow_heap w b c _ el _ hh) (Fr.setRow _ _ _ ⟨i, .dead, B0, base0, t0, h1, h2, h3, h4⟩) ?_ ?_⟩
          · unfold Rv
            refine Or.inr ⟨rfl, b, off, _, cap, off, Inj.put_same, rfl, Nat.le_refl _, ⟨hrm, hc.2⟩, (fun h => by cases h), fun _ => by simp, ?_⟩
            simp only [List.size_toArray, hsp]; exact hfit
          · refine row_cells (fun j u hj => ?_)
            rw [List.getElem?_toArray, splice_get _ _ _ hfit2]
            rw [List.flatMap_append] at hj
            by_cases hjx : j < (xs.flatMap k.vals).length
            · rw [List.getElem?_append_left hjx] at hj
              rw [hol] at hjx
              rw [if_pos (by omega), Array.getElem?_toList]
              exact hcells j u hj
            · rw [List.getElem?_append_right (by omega)] at hj
              have hlt := (List.getElem?_eq_some_iff.1 hj).1
              rw [hol] at hjx hj hlt
              rw [if_neg (by omega), if_pos (by omega)]
              rw [← hj]; congr 1; omega
        · have hr := run_append_grow (P := P) (w := w) t ty e inf zv ht hi hz ⟨b, off, none⟩ xs.length cap (xs.flatMap k.vals) hol holds a ys.length ca (ys.flatMap k.vals) hnl hnews (by omega) (by omega) (growslice_fits (by omega) hb)
          have hge := grownCap_bd w (xs.length + ys.length) cap e (by omega)
          refine ⟨_, _, _, hr, Post.make hn w.drew rfl (Fr.drew _ _) hup ?_ (fun q p hq => hzs _ _ (by simp) q p hq)⟩
          unfold Rv
          refine Or.inr ⟨rfl, w.heap.size, 0, _, _, 0, Inj.put_same, rfl, Nat.le_refl _, hge, (fun h => by cases h), fun _ => by simp, ?_⟩
          simp only [Array.size_append, List.size_toArray, size_zeroCells, hnl, hol, hzc, ← Nat.add_mul, Nat.zero_add, hks]
          exact Nat.mul_le_mul_right _ (by omega)
end
end Go.Proofs.YtokephobkllfgaaDoorEv
