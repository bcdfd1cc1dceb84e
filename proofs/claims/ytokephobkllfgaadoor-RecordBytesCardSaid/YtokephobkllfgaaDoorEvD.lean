/- What is proved here: what a store, a new variable, append and make do to the machine's world, told by the evaluator's blocks. No condition. -/
import Derived.Test.YtokephobkllfgaaDoorEvC
namespace Go.Proofs.YtokephobkllfgaaDoorEv
open Go

/-- The machine's blocks that an operation may have changed: those of its own that it names. -/
def Ids (c : Chg) (m : Inj) (hp : Nat → Option Blk) (b : Nat) : Prop := ∃ i B B0 base t, (i, B) ∈ c.up ∧ hp i = some B0 ∧ B0.own = true ∧ m i = some (b, base, t)

/-- Behind an operation: its value, and what has been read, changed and made. -/
structure Post (m : Inj) (w : World) (hp : Nat → Option Blk) (n : Nat) (p : PV) (c : Chg) (v : Value) (m' : Inj) (w' : World) : Prop where
  val : Rv m' p v
  ext : ∀ i, (i < n ∨ n + c.nw.length ≤ i) → m' i = m i
  up : ∀ i B, (i, B) ∈ c.up → BRep m' w' i B
  nw : ∀ k B, c.nw[k]? = some B → BRep m' w' (n + k) B
  own : ∀ i B, (i, B) ∈ c.up → B ≠ .dead → ∃ B0, hp i = some B0 ∧ B0 ≠ .dead ∧ B.own = B0.own
  fresh : ∀ (k b base t : Nat) (B : Blk), c.nw[k]? = some B → B ≠ .dead → m' (n + k) = some (b, base, t) → w.heap.size ≤ b ∨ ∃ i B0 base0 t0, (i, Blk.dead) ∈ c.up ∧ hp i = some B0 ∧ B0.own = true ∧ m i = some (b, base0, t0)
  dist : ∀ (k l b base t base2 t2 : Nat) (B B2 : Blk), c.nw[k]? = some B → c.nw[l]? = some B2 → B ≠ .dead → B2 ≠ .dead → m' (n + k) = some (b, base, t) → m' (n + l) = some (b, base2, t2) → k = l
  frame : Fr (Ids c m hp) w w'
  upf : ∀ i B B', (i, B) ∈ c.up → (i, B') ∈ c.up → B = B'
  upn : ∀ i B, (i, B) ∈ c.up → ∃ B0, hp i = some B0

section
variable {P : Program} {m : Inj} {w : World} {n : Nat} {hp : Nat → Option Blk}

theorem Post.pure {p : PV} {rd : List Nat} {v : Value} (h : Rv m p v) : Post m w hp n p ⟨rd, [], []⟩ v m w :=
  ⟨h, fun _ _ => rfl, fun i B h => by simp at h, fun k B h => by simp at h, fun i B h => by simp at h, fun k b base t B h => by simp at h, fun k l b base t base2 t2 B B2 h => by simp at h, Fr.refl _ _, fun i B B' h => by simp at h, fun i B h => by simp at h⟩

/-- The blocks' places with one more. -/
def Inj.put (m : Inj) (n : Nat) (x : Nat × Nat × Nat) : Inj := fun i => if i = n then some x else m i
theorem Inj.put_same {x} : Inj.put m n x n = some x := by simp [Inj.put]
theorem Inj.put_other {x} {i : Nat} (h : i ≠ n) : Inj.put m n x i = m i := by simp [Inj.put, h]
theorem Inj.put_ext {x} (h : m n = none) : Ext m (Inj.put m n x) := by
  intro i y hy
  by_cases e : i = n
  · subst e; rw [h] at hy; cases hy
  · rw [Inj.put_other e]; exact hy

theorem Fr.alloc (A : Nat → Prop) (w : World) (o : Obj) : Fr A w (w.alloc o) := ⟨rfl, rfl, rfl, by simp, fun k hk _ => heap_alloc_old w o k hk, Nat.le_refl _⟩
theorem Fr.setRow {A : Nat → Prop} (w : World) (g : Nat) (cs : Array Value) (h : A g) : Fr A w (w.setRow g cs) :=
  ⟨rfl, rfl, rfl, by simp, fun k _ hk => setRow_other w g k cs (fun e => hk (e ▸ h)), Nat.le_refl _⟩

/-- One new block, of which nothing is known but that its first cells are these. -/
theorem Post.make {p : PV} {rd : List Nat} {up : List (Nat × Blk)} {B : Blk} {v : Value} {c : Array Value} {e : TypeId} (hm : m n = none) (w1 : World) (h1 : w1.heap.size = w.heap.size) (hf : Fr (Ids ⟨rd, up, [B]⟩ m hp) w w1)
    (hup : ∀ i B, (i, B) ∈ up → B = .dead ∧ ∃ B0, hp i = some B0) (hv : Rv (Inj.put m n (w.heap.size, 0, c.size)) p v)
    (hB : ∀ (q : Nat) (p : PV), B.cs[q]? = some p → ∃ u, c[q]? = some u ∧ Rv m p u) : Post m w hp n p ⟨rd, up, [B]⟩ v (Inj.put m n (w.heap.size, 0, c.size)) (w1.alloc (.cells c e)) := by
  have one : ∀ {k : Nat} {B' : Blk}, [B][k]? = some B' → k = 0 ∧ B' = B := by
    intro k B' hk
    have hk0 : k = 0 := by
      have := (List.getElem?_eq_some_iff.1 hk).1
      simp at this; omega
    subst hk0
    simp at hk; exact ⟨rfl, hk.symm⟩
  refine ⟨hv, fun i hi => Inj.put_other (by simp at hi; omega), fun i B h => Or.inl (hup i B h).1, ?_, fun i B h hd => absurd (hup i B h).1 hd, ?_, ?_, hf.trans (Fr.alloc _ _ _), fun i B B' h h' => by rw [(hup i B h).1, (hup i B' h').1], fun i B h => (hup i B h).2⟩
  · intro k B' hk
    obtain ⟨rfl, rfl⟩ := one hk
    refine Or.inr (Or.inr ⟨_, _, _, c, e, (0, 0), Inj.put_same, ?_, rfl, fun _ => rfl, ?_⟩)
    · rw [← h1]; exact heap_alloc_new _ _
    · intro q p hq
      obtain ⟨u, hu, hr⟩ := hB q p hq
      exact ⟨u, by rw [Nat.zero_add]; exact hu, hr.mono (Inj.put_ext hm)⟩
  · intro k b base t B' hk _ he
    obtain ⟨rfl, rfl⟩ := one hk
    rw [Nat.add_zero, Inj.put_same] at he
    cases he
    exact Or.inl (Nat.le_refl _)
  · intro k l b base t base2 t2 B1 B2 hk hl _ _ _ _
    rw [(one hk).1, (one hl).1]

theorem blkOf_own {own : Bool} {p : PV} {B : Blk} (h : blkOf own p = some B) : ∃ cs, cells1 p = some cs ∧ B.cs = cs := by
  cases p <;> simp only [blkOf] at h <;> first
    | (simp at h; subst h; exact ⟨_, rfl, rfl⟩)
    | skip
  all_goals
    cases hc : cells1 _ with
    | none => rw [hc] at h; simp at h
    | some cs => rw [hc] at h; simp at h; subst h; exact ⟨cs, rfl, rfl⟩
theorem mixB_own {own : Bool} {o N : Nat} {k : Kd} {p : PV} {B : Blk} (h : mixB own o k N p = some B) : ∃ cs, cells1 p = some cs ∧ B.cs = cs := by
  cases p <;> simp only [mixB] at h <;> try contradiction
  rename_i cs
  cases hb : cs.all one1 && Nat.ble (o + N * k.sz) cs.length with
  | false => rw [hb] at h; simp at h
  | true =>
    rw [hb] at h; simp only [cond_true] at h
    rw [Bool.and_eq_true] at hb
    cases hu : unsc ((cs.drop o).take (N * k.sz)) with
    | none => rw [hu] at h; simp at h
    | some vs =>
      rw [hu] at h; simp only [] at h
      cases hp : k.parseAll N vs with
      | none => rw [hp] at h; simp at h
      | some xs =>
        rw [hp] at h; simp only [Option.some.injEq] at h
        subst h
        refine ⟨cs, by simp only [cells1]; rw [hb.1]; rfl, ?_⟩
        simp only [Blk.cs]
        obtain ⟨e1, _⟩ := Kd.parseAll_eq k hp
        rw [← e1, ← unsc_eq hu, show cs.drop (o + N * k.sz) = (cs.drop o).drop (N * k.sz) by rw [List.drop_drop], List.take_append_drop, List.take_append_drop]
theorem blkOfT_own {P : Program} {t : TypeId} {own : Bool} {p : PV} {B : Blk} (h : blkOfT P t own p = some B) : ∃ cs, cells1 p = some cs ∧ B.cs = cs := by
  unfold blkOfT at h
  split at h
  · exact mixB_own h
  · exact blkOf_own h
theorem ptrTo_rv {B : Blk} {x : Nat × Nat × Nat} (h : m n = some x) (hb : x.2.1 = 0) : Rv m (ptrTo n B) (.pointer (some ⟨x.1, 0, none⟩)) := by
  obtain ⟨b, base, t⟩ := x
  simp only at hb; subst hb
  cases B <;> (unfold ptrTo Rv; exact ⟨b, 0, t, h, by simp⟩)
/-- A new variable that holds this. -/
theorem newVar_post {p : PV} {B : Blk} {u : Value} {t t0 : TypeId} (hbk : blkOfT P t0 true p = some B) (hu : Rv m p u) (hm : m n = none) :
    ∃ v m' w', (newVar t u).run P w = .ok ⟨w.heap.size, 0, none⟩ w' ∧ v = .pointer (some ⟨w.heap.size, 0, none⟩) ∧ Post m w hp n (ptrTo n B) ⟨[], [], [B]⟩ v m' w' := by
  obtain ⟨cs, hc, hcs⟩ := blkOfT_own hbk
  obtain ⟨h1, _⟩ := cells1_rv hc hu
  refine ⟨_, _, w.alloc (.cells u.cells t), rfl, rfl, Post.make (c := u.cells) hm w rfl (Fr.refl _ _) (fun i B h => by simp at h) (ptrTo_rv (x := (w.heap.size, 0, u.cells.size)) Inj.put_same rfl) ?_⟩
  intro q p hq
  rw [hcs] at hq
  obtain ⟨u', hu', hr⟩ := h1.get hq
  exact ⟨u', by simpa using hu', hr⟩

/-! ### A store -/
theorem splice_get {α : Type} (xs : List α) (j : Nat) (ys : List α) (h : j + ys.length ≤ xs.length) (q : Nat) :
    (splice xs j ys)[q]? = if q < j then xs[q]? else if q < j + ys.length then ys[q - j]? else xs[q]? := by
  unfold splice
  by_cases h1 : q < j
  · rw [if_pos h1, List.getElem?_append_left (by simp; omega), List.getElem?_take, if_pos h1]
  · rw [if_neg h1, List.getElem?_append_right (by simp; omega), List.length_take, Nat.min_eq_left (by omega)]
    by_cases h2 : q < j + ys.length
    · rw [if_pos h2, List.getElem?_append_left (by omega)]
    · rw [if_neg h2, List.getElem?_append_right (by omega), List.getElem?_drop]
      congr 1; omega
theorem splice_len {α : Type} (xs : List α) (j : Nat) (ys : List α) (h : j + ys.length ≤ xs.length) : (splice xs j ys).length = xs.length := by
  unfold splice; simp; omega
theorem store_seg {i e sz j k : Nat} {t : TypeId} {B B' : Blk} {vs : List PV} {va vv : Value} (hb : BRep m w i B) (ho : B.own = true) (ha : Rv m (.ptr i e sz j) va) (hv : Rvs m vs vv.cells.toList)
    (h1 : ∀ u ∈ vv.cells.toList, u.oneCell' = true) (hs : sizeT P t = some k) (hk : vs.length = k) (hle : e * sz + j + vs.length ≤ B.cs.length) (hB : B'.cs = splice B.cs (e * sz + j) vs) :
    ∃ w', (Instr.storeAt t va vv).run P w = .ok () w' ∧ BRep m w' i B' ∧ Fr (fun b => ∃ base t, m i = some (b, base, t)) w w' := by
  unfold Rv at ha
  obtain ⟨b, base, tt, hm, rfl⟩ := ha
  rcases hb with rfl | ⟨h, _⟩ | ⟨b', base', t', c, el, fz, hm', hh, hc, hz, H⟩
  · simp [Blk.own] at ho
  · rw [h] at hm; cases hm
  rw [hm] at hm'; cases hm'
  obtain rfl := hz ho
  have hlen := hv.length
  have hcell : ∀ q, q < B.cs.length → base + q < c.size := by
    intro q hq
    obtain ⟨u, hu, _⟩ := H q _ (List.getElem?_eq_getElem hq)
    exact (Array.getElem?_eq_some_iff.1 hu).1
  have hsize : vv.cells.toList.length = 0 ∨ base + (e * sz + j) + vv.cells.toList.length ≤ c.size := by
    rcases Nat.eq_zero_or_pos vs.length with h0 | h0
    · left; omega
    · right
      have := hcell (e * sz + j + vs.length - 1) (by omega)
      omega
  have hsz : vv.cells.size = k := by rw [← Array.length_toList, hlen, hk]
  rcases hsize with h0 | hfit
  · have hnil : vv.cells.toList = [] := List.length_eq_zero_iff.1 h0
    have hvs : vs = [] := List.length_eq_zero_iff.1 (by omega)
    refine ⟨w, ?_, ?_, Fr.refl _ _⟩
    · simp [Instr.storeAt, Instr.sureAddr, storeVar, run_sizeOf hs, hsz, hnil, storeCells]
    · refine Or.inr (Or.inr ⟨b, base, tt, c, el, (0, 0), hm, hh, hc, fun _ => rfl, ?_⟩)
      rw [hB, hvs]; simp only [splice, List.nil_append, List.length_nil, Nat.add_zero, List.take_append_drop]; exact H
  · have hst := run_storeCells_at P b (base + e * sz + j) el vv.cells.toList 0 c w hh (by simp only [Nat.add_zero]; omega) h1
    have hlst : c.toList.take (base + e * sz + j + 0) ++ vv.cells.toList ++ c.toList.drop (base + e * sz + j + 0 + vv.cells.toList.length) = splice c.toList (base + e * sz + j) vv.cells.toList := by
      unfold splice; rw [List.append_assoc, Nat.add_zero]
    rw [hlst] at hst
    refine ⟨w.setRow b (splice c.toList (base + e * sz + j) vv.cells.toList).toArray, ?_, ?_, Fr.setRow _ _ _ ⟨base, tt, hm⟩⟩
    · simp only [Instr.storeAt, Instr.sureAddr, Sem.run_bind, Sem.run_pure, Result.andThen_ok, storeVar, run_sizeOf hs, hsz, ne_eq, not_true_eq_false, if_false]
      exact hst
    refine Or.inr (Or.inr ⟨b, base, tt, _, el, (0, 0), hm, setRow_heap w b c _ el _ hh, ?_, fun _ => rfl, ?_⟩)
    · rw [List.size_toArray, splice_len _ _ _ (by simp only [Array.length_toList] at hfit ⊢; omega), Array.length_toList, hc]
    · intro q p hq
      rw [hB, splice_get _ _ _ hle] at hq
      rw [List.getElem?_toArray, splice_get _ _ _ (by simp only [Array.length_toList] at hfit ⊢; omega)]
      split at hq
      · rename_i hlt
        rw [if_pos (by omega)]
        obtain ⟨u, hu, hr⟩ := H q p hq
        exact ⟨u, by simpa using hu, hr⟩
      · rename_i hlt
        rw [if_neg (by omega)]
        split at hq
        · rename_i hlt2
          rw [if_pos (by omega)]
          obtain ⟨u, hu, hr⟩ := hv.get hq
          exact ⟨u, by rw [show base + q - (base + e * sz + j) = q - (e * sz + j) by omega]; exact hu, hr⟩
        · rename_i hlt2
          rw [if_neg (by omega)]
          obtain ⟨u, hu, hr⟩ := H q p hq
          exact ⟨u, by simpa using hu, hr⟩

theorem scs_splice (xs : List Value) (j : Nat) (ys : List Value) : scs (splice xs j ys) = splice (scs xs) j (scs ys) := by
  simp [scs, splice, List.map_take, List.map_drop]
theorem flat_splice (k : Kd) (xs : List k.den) (e : Nat) (ys : List k.den) (_h : e + ys.length ≤ xs.length) :
    (splice xs e ys).flatMap k.vals = splice (xs.flatMap k.vals) (e * k.sz) (ys.flatMap k.vals) := by
  unfold splice
  rw [List.flatMap_append, List.flatMap_append, flat_take, Kd.len_flat, ← Nat.add_mul, flat_drop]
theorem set_splice {α : Type} (xs : List α) (e : Nat) (y : α) (h : e < xs.length) : xs.set e y = splice xs e [y] := by
  apply List.ext_getElem?
  intro q
  rw [splice_get _ _ _ (by simp; omega), List.getElem?_set]
  by_cases h1 : e = q
  · subst h1; simp [h]
  · rw [if_neg h1]
    split
    · rfl
    · rw [if_neg (by simp; omega)]
theorem splice_splice {α : Type} (xs : List α) (a j : Nat) (zs ys : List α) (hz : zs = ((xs.drop a).take zs.length)) (h : j + ys.length ≤ zs.length) (ha : a + zs.length ≤ xs.length) :
    splice xs a (splice zs j ys) = splice xs (a + j) ys := by
  apply List.ext_getElem?
  intro q
  have hl := splice_len zs j ys h
  rw [splice_get xs a (splice zs j ys) (by omega) q, splice_get xs (a + j) ys (by omega) q, hl]
  by_cases h1 : q < a
  · rw [if_pos h1, if_pos (by omega)]
  · rw [if_neg h1]
    by_cases h2 : q < a + zs.length
    · rw [if_pos h2, splice_get zs j ys h (q - a)]
      have hzq : zs[q - a]? = xs[q]? := by
        rw [hz, List.getElem?_take, if_pos (by omega), List.getElem?_drop]
        congr 1; omega
      by_cases h3 : q - a < j
      · rw [if_pos h3, if_pos (by omega)]; exact hzq
      · rw [if_neg h3, if_neg (show ¬ q < a + j by omega)]
        by_cases h4 : q - a < j + ys.length
        · rw [if_pos h4, if_pos (show q < a + j + ys.length by omega)]; congr 1; omega
        · rw [if_neg h4, if_neg (show ¬ q < a + j + ys.length by omega)]; exact hzq
    · rw [if_neg h2, if_neg (show ¬ q < a + j by omega), if_neg (show ¬ q < a + j + ys.length by omega)]

theorem splice_left {α : Type} (A B : List α) (j : Nat) (ys : List α) (h : j + ys.length ≤ A.length) : splice (A ++ B) j ys = splice A j ys ++ B := by
  unfold splice
  rw [List.take_append_of_le_length (by omega), List.drop_append_of_le_length (by omega)]
  simp
theorem splice_right {α : Type} (A B : List α) (j : Nat) (ys : List α) : splice (A ++ B) (A.length + j) ys = A ++ splice B j ys := by
  unfold splice
  rw [List.take_append, List.take_of_length_le (by omega), List.drop_append, List.drop_eq_nil_of_le (by omega), Nat.add_sub_cancel_left, show A.length + j + ys.length - A.length = j + ys.length by omega]
  simp
/-- One element's cells changed: the row's cells. -/
theorem row_set {k : Kd} {xs : List k.den} {e j : Nat} {x y : k.den} {vs rr : List Value} {cs : List PV} (hx : xs[e]? = some x) (hu : unsc cs = some vs) (hj : j + vs.length ≤ k.sz) (hp : k.parse (splice (k.vals x) j vs) = some (y, rr)) :
    scs ((xs.set e y).flatMap k.vals) = splice (scs (xs.flatMap k.vals)) (e * k.sz + j) cs := by
  have he : e < xs.length := (List.getElem?_eq_some_iff.1 hx).1
  have hxl := Kd.len_vals k x
  have hpe := Kd.parse_eq k hp
  have hll := splice_len (k.vals x) j vs (by omega)
  have hrr : rr = [] := by
    have h3 := congrArg List.length hpe
    rw [List.length_append, Kd.len_vals, hll] at h3
    exact List.length_eq_zero_iff.1 (by omega)
  rw [hrr, List.append_nil] at hpe
  have hfl := Kd.len_flat k xs
  have hmul : e * k.sz + k.sz ≤ xs.length * k.sz := by
    rw [← Nat.succ_mul]; exact Nat.mul_le_mul_right _ he
  rw [unsc_eq hu]
  rw [← scs_splice, set_splice _ _ _ he, flat_splice k xs e [y] (by simp; omega)]
  congr 1
  simp only [List.flatMap_cons, List.flatMap_nil, List.append_nil]
  rw [← hpe]
  refine splice_splice _ _ _ _ _ ?_ (by omega) (by omega)
  have := flat_elem k xs e 0 k.sz x hx (by simp [hxl])
  rw [hxl]
  simp only [Nat.add_zero, List.drop_zero] at this
  rw [this]
  rw [← hxl, List.take_length]
theorem evStore_sound {R : Type} {H : List Blk} {t : TypeId} {a v : PV} {K : Chg → Option R} {r : R} (h : evStore P H t a v K = some r) :
    ∃ i B B', K ⟨[i], [(i, B')], []⟩ = some r ∧ getB H i = some B ∧ (B.own = true ∧ B'.own = true) ∧ ∀ m w va vv, BRep m w i B → Rv m a va → Rv m v vv →
      ∃ w', (Instr.storeAt t va vv).run P w = .ok () w' ∧ BRep m w' i B' ∧ Fr (fun b => ∃ base t, m i = some (b, base, t)) w w' := by
  unfold evStore at h
  cases a <;> simp only [] at h <;> try contradiction
  rename_i i e sz j
  cases hB : getB H i with
  | none => rw [hB] at h; simp at h
  | some B =>
    rw [hB] at h
    cases B with
    | dead => simp at h
    | fix own cs =>
      cases own with
      | false => simp at h
      | true =>
        simp only [] at h
        cases hs : sizeT P t with
        | none => rw [hs] at h; simp at h
        | some k =>
          cases hc : cells1 v with
          | none => rw [hs, hc] at h; simp at h
          | some vs =>
            rw [hs, hc] at h; simp only [] at h
            obtain ⟨hg, h1⟩ := guardB_some h
            simp only [Bool.and_eq_true, Nat.beq_eq, Nat.ble_eq] at hg
            obtain ⟨hk, hle⟩ := hg
            refine ⟨i, _, _, h1, hB, ⟨rfl, rfl⟩, fun m w va vv hb ha hv => ?_⟩
            obtain ⟨hv1, hv2⟩ := cells1_rv hc hv
            exact store_seg hb rfl ha hv1 hv2 hs hk (by simp only [Blk.cs]; omega) (by simp only [Blk.cs])
    | mix own pre k N xs post =>
      cases own with
      | false => simp at h
      | true =>
        simp only [] at h
        cases hs : sizeT P t with
        | none => rw [hs] at h; simp at h
        | some n =>
          cases hc : cells1 v with
          | none => rw [hs, hc] at h; simp at h
          | some vs =>
            rw [hs, hc] at h; simp only [] at h
            cases hsz : Nat.beq sz 1 with
            | true =>
              rw [hsz] at h; simp only [cond_true] at h
              obtain rfl := Nat.eq_of_beq_eq_true hsz
              obtain ⟨hg, h1⟩ := guardB_some h
              simp only [Bool.and_eq_true, Nat.beq_eq] at hg
              obtain ⟨rfl, hk⟩ := hg
              cases hj : Nat.ble (j + n) pre.length with
              | true =>
                rw [hj] at h1; simp only [cond_true] at h1
                have hj := Nat.le_of_ble_eq_true hj
                refine ⟨i, _, _, h1, hB, ⟨rfl, rfl⟩, fun m w va vv hb ha hv => ?_⟩
                obtain ⟨hv1, hv2⟩ := cells1_rv hc hv
                exact store_seg hb rfl ha hv1 hv2 hs hk (by simp only [Blk.cs, List.length_append]; omega) (by simp only [Blk.cs, Nat.zero_mul, Nat.zero_add]; rw [splice_left _ _ _ _ (by omega)])
              | false =>
                rw [hj] at h1; simp only [cond_false] at h1
                obtain ⟨hg, h2⟩ := guardB_some h1
                obtain ⟨hl, h3⟩ := guardB_some h2
                simp only [Bool.and_eq_true, Nat.ble_eq, decide_eq_true_eq] at hg hl
                have hlen : (scs (xs.flatMap k.vals)).length = N * k.sz := by rw [scs_len, Kd.len_flat, hl]
                refine ⟨i, _, _, h3, hB, ⟨rfl, rfl⟩, fun m w va vv hb ha hv => ?_⟩
                obtain ⟨hv1, hv2⟩ := cells1_rv hc hv
                refine store_seg hb rfl ha hv1 hv2 hs hk (by simp only [Blk.cs, List.length_append, hlen]; omega) ?_
                simp only [Blk.cs, Nat.zero_mul, Nat.zero_add]
                rw [← List.append_assoc, ← List.append_assoc, show j = (pre ++ scs (xs.flatMap k.vals)).length + (j - (pre.length + N * k.sz)) by rw [List.length_append, hlen]; omega, splice_right]
                congr 3
                rw [List.length_append, hlen]; omega
            | false =>
              rw [hsz] at h; simp only [cond_false] at h
              cases hu : unsc vs with
              | none => rw [hu] at h; simp at h
              | some us =>
                rw [hu] at h; simp only [] at h
                obtain ⟨hg, h1⟩ := guardB_some h
                obtain ⟨x, hx, h2⟩ := bindO_some h1
                simp only [Bool.and_eq_true, Nat.beq_eq, Nat.ble_eq] at hg
                obtain ⟨⟨⟨rfl, hj⟩, hl⟩, hle⟩ := hg
                cases hp : k.parse (splice (k.vals x) (j - pre.length) us) with
                | none => rw [hp] at h2; simp at h2
                | some yr =>
                  obtain ⟨y, rr⟩ := yr
                  rw [hp] at h2; simp only [] at h2
                  have hx : xs[e]? = some x := hx
                  have he : e < xs.length := (List.getElem?_eq_some_iff.1 hx).1
                  have hmul : e * k.sz + k.sz ≤ xs.length * k.sz := by
                    rw [← Nat.succ_mul]; exact Nat.mul_le_mul_right _ he
                  have hcl : vs.length = n := by rw [unsc_eq hu, scs_len]; exact hl
                  refine ⟨i, _, _, h2, hB, ⟨rfl, rfl⟩, fun m w va vv hb ha hv => ?_⟩
                  obtain ⟨hv1, hv2⟩ := cells1_rv hc hv
                  refine store_seg hb rfl ha hv1 hv2 hs hcl (by simp only [Blk.cs, List.length_append, scs_len, Kd.len_flat]; omega) ?_
                  simp only [Blk.cs]
                  rw [show e * k.sz + j = pre.length + (e * k.sz + (j - pre.length)) by omega, splice_right, splice_left _ _ _ _ (by rw [scs_len, Kd.len_flat]; omega), row_set hx hu (by omega) hp]
    | row own k xs =>
      cases own with
      | false => simp at h
      | true =>
        simp only [] at h
        cases hs : sizeT P t with
        | none => rw [hs] at h; simp at h
        | some q =>
          rw [hs] at h; simp only [] at h
          have gen : ∀ vp, (match cells1 vp with
              | some cs =>
                (match unsc cs with
                 | some vs => guardB (Nat.beq sz k.sz && Nat.beq vs.length q && Nat.ble (j + q) k.sz) (bindO xs[e]? fun x =>
                     match k.parse (splice (k.vals x) j vs) with
                     | some (y, _) => K ⟨[i], [(i, .row true k (xs.set e y))], []⟩
                     | none => none)
                 | none => none)
              | none => none) = some r → ∃ i' B B', K ⟨[i'], [(i', B')], []⟩ = some r ∧ getB H i' = some B ∧ (B.own = true ∧ B'.own = true) ∧ ∀ m w va vv, BRep m w i' B → Rv m (.ptr i e sz j) va → Rv m vp vv →
                ∃ w', (Instr.storeAt t va vv).run P w = .ok () w' ∧ BRep m w' i' B' ∧ Fr (fun b => ∃ base t, m i' = some (b, base, t)) w w' := by
            intro vp h
            cases hc : cells1 vp with
            | none => rw [hc] at h; simp at h
            | some cs =>
              rw [hc] at h; simp only [] at h
              cases hu : unsc cs with
              | none => rw [hu] at h; simp at h
              | some vs =>
                rw [hu] at h; simp only [] at h
                obtain ⟨hg, h1⟩ := guardB_some h
                obtain ⟨x, hx, h2⟩ := bindO_some h1
                simp only [Bool.and_eq_true, Nat.beq_eq, Nat.ble_eq] at hg
                obtain ⟨⟨rfl, hl⟩, hj⟩ := hg
                cases hp : k.parse (splice (k.vals x) j vs) with
                | none => rw [hp] at h2; simp at h2
                | some yr =>
                  obtain ⟨y, rr⟩ := yr
                  rw [hp] at h2; simp only [] at h2
                  have hx : xs[e]? = some x := hx
                  have he : e < xs.length := (List.getElem?_eq_some_iff.1 hx).1
                  have hxl := Kd.len_vals k x
                  have hpe := Kd.parse_eq k hp
                  have hll := splice_len (k.vals x) j vs (by omega)
                  have hrr : rr = [] := by
                    have h3 := congrArg List.length hpe
                    rw [List.length_append, Kd.len_vals, hll] at h3
                    exact List.length_eq_zero_iff.1 (by omega)
                  rw [hrr, List.append_nil] at hpe
                  have hfl := Kd.len_flat k xs
                  have hmul : e * k.sz + k.sz ≤ xs.length * k.sz := by
                    rw [← Nat.succ_mul]; exact Nat.mul_le_mul_right _ he
                  have hB' : (Blk.row true k (xs.set e y)).cs = splice (Blk.row true k xs).cs (e * k.sz + j) cs := by
                    rw [unsc_eq hu]
                    simp only [Blk.cs]
                    rw [← scs_splice, set_splice _ _ _ he, flat_splice k xs e [y] (by simp; omega)]
                    congr 1
                    simp only [List.flatMap_cons, List.flatMap_nil, List.append_nil]
                    rw [← hpe]
                    refine splice_splice _ _ _ _ _ ?_ (by omega) (by omega)
                    have := flat_elem k xs e 0 k.sz x hx (by simp [hxl])
                    rw [hxl]
                    simp only [Nat.add_zero, List.drop_zero] at this
                    rw [this]
                    rw [← hxl, List.take_length]
                  refine ⟨i, _, _, h2, hB, ⟨rfl, rfl⟩, fun m w va vv hb ha hv => ?_⟩
                  obtain ⟨hv1, hv2⟩ := cells1_rv hc hv
                  have hcl : cs.length = q := by rw [unsc_eq hu, scs_len]; exact hl
                  exact store_seg hb rfl ha hv1 hv2 hs hcl (by simp only [Blk.cs, scs_len, hcl]; omega) hB'
          cases v <;> first
            | exact gen _ h
            | skip
          rename_i k' q' ys
          simp only [] at h
          split at h
          · rename_i hk
            subst hk
            obtain ⟨hg, h1⟩ := guardB_some h
            obtain ⟨hle, h2⟩ := guardB_some h1
            simp only [Bool.and_eq_true, Nat.beq_eq, decide_eq_true_eq] at hg hle
            obtain ⟨⟨rfl, rfl⟩, hq⟩ := hg
            refine ⟨i, _, _, h2, hB, ⟨rfl, rfl⟩, fun m w va vv hb ha hv => ?_⟩
            unfold Rv at hv
            obtain ⟨hyl, rfl⟩ := hv
            refine store_seg (vs := scs (ys.flatMap k'.vals)) hb rfl ha (Rvs_scs _) (fun u hu => ?_) hs ?_ ?_ ?_
            · simp only [Value.cells, List.mem_flatMap] at hu
              obtain ⟨x, _, hx⟩ := hu
              exact Kd.one_vals k' x u hx
            · rw [scs_len, Kd.len_flat, hyl]; exact hq
            · simp only [Blk.cs, scs_len, Kd.len_flat, Nat.add_zero, ← Nat.add_mul, hyl]; exact Nat.mul_le_mul_right _ hle
            · simp only [Blk.cs, Nat.add_zero, flat_splice k' xs e ys (by omega), scs_splice]
          · simp at h
end
end Go.Proofs.YtokephobkllfgaaDoorEv
