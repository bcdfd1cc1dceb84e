/- What is proved here: the evaluator's conversions, those between strings and rows of bytes among them, say what the machine's own do. No condition. -/
import Derived.Test.YtokephobkllfgaaDoorEvL
import Derived.Laws.BytesArg
import Derived.Laws.IdiomStrings
namespace Go.Proofs.YtokephobkllfgaaDoorEv
open Go
section
variable {P : Program} {R : Type} {m : Inj} {w : World} {n : Nat} {hp : Nat → Option Blk}

/-- One new block that is not to be written. -/
theorem run_convert_bytes_none (w : World) (src e : TypeId) (hs : P.underlying src = some (.slice e)) (he : P.underlying e = some (.int .u8)) (a : Option Addr) (c : Nat) :
    ∀ dst, P.underlying dst = some .string → (convert src dst (.slice a 0 c)).run P w = .ok (.string ByteArray.empty) w := by
  intro dst hd
  rw [run_convert_bytes_string w src dst e _ 0 c hs he hd]
  cases a <;> simp [Conv.bytesToString, loadCells, loadCellsFrom, ByteArray.empty, ByteArray.emptyWithCapacity]
theorem Post.makeF {p : PV} {B : Blk} {v : Value} {c : Array Value} {e : TypeId} {fz : Nat × Nat} (ho : B.own = false) (hm : m n = none) (w1 : World) (h1 : w1.heap.size = w.heap.size) (hf : Fr (Ids ⟨[], [], [B]⟩ m hp) w w1)
    (hv : Rv (Inj.put m n (w.heap.size, 0, c.size)) p v)
    (hB : ∀ (q : Nat) (p : PV), B.cs[q]? = some p → ∃ u, c[q]? = some u ∧ Rv m p u) : Post m w hp n p ⟨[], [], [B]⟩ v (Inj.put m n (w.heap.size, 0, c.size)) (w1.alloc (.cells c e fz)) := by
  have one : ∀ {k : Nat} {B' : Blk}, [B][k]? = some B' → k = 0 ∧ B' = B := by
    intro k B' hk
    have hk0 : k = 0 := by
      have := (List.getElem?_eq_some_iff.1 hk).1
      simp at this; omega
    subst hk0
    simp at hk; exact ⟨rfl, hk.symm⟩
  refine ⟨hv, fun i hi => Inj.put_other (by simp at hi; omega), fun i B h => by simp at h, ?_, fun i B h => by simp at h, ?_, ?_, hf.trans (Fr.alloc _ _ _), fun i B B' h => by simp at h, fun i B h => by simp at h⟩
  · intro k B' hk
    obtain ⟨rfl, rfl⟩ := one hk
    refine Or.inr (Or.inr ⟨_, _, _, c, e, fz, Inj.put_same, ?_, rfl, (fun h => by rw [ho] at h; cases h), ?_⟩)
    · rw [← h1]; exact heap_alloc_new _ _
    · intro q p hq
      obtain ⟨u, hu, hr⟩ := hB q p hq
      exact ⟨u, by rw [Nat.zero_add]; exact hu, hr.mono (Inj.put_ext hm)⟩
  · intro k b base t B' hk _ he
    obtain ⟨rfl, rfl⟩ := one hk
    rw [Nat.add_zero, Inj.put_same] at he
    cases he
    exact Or.inl (Nat.le_refl _)
  · intro k l b base t base2 t2 B1 B2 hk hl _ _ _ _
    rw [(one hk).1, (one hl).1]

theorem bytes_flat (s : ByteArray) : (bytesI s).flatMap (Kd.vals (.int .u8)) = s.data.toList.map fun b => Value.int .u8 b.toNat := by
  unfold bytesI
  rw [List.flatMap_map]
  induction s.data.toList with
  | nil => rfl
  | cons b l ih => simp only [List.flatMap_cons, ih, List.map_cons]; rfl
theorem u8_flat (xs : List Int) : List.flatMap (Kd.vals (.int .u8)) xs = xs.map (Value.int .u8) := by
  induction xs with
  | nil => rfl
  | cons b l ih => simp only [List.flatMap_cons, ih, List.map_cons]; rfl
theorem evConv_sound {H : List Blk} {s d : TypeId} {x : PV} {K : PV → Chg → Option R} {r : R} (h : evConv P n H s d x K = some r) :
    ∃ p c, K p c = some r ∧ ∀ m w xv, Rv m x xv → Reads m w H c.rd → (∀ i, n ≤ i → i < n + c.nw.length → m i = none) → ∃ v m' w', (convert s d xv).run P w = .ok v w' ∧ Post m w (getB H) n p c v m' w' := by
  unfold evConv at h
  split at h
  · -- a string to bytes
    rename_i e b hs hd
    split at h
    · rename_i he
      obtain ⟨hgb, h⟩ := guardB_some h
      have hgb := of_decide_eq_true hgb
      refine ⟨_, _, h, fun m w xv hx _ hfree => ?_⟩
      obtain rfl := Rv_sc.1 hx
      have hrun := run_bytes_of_string (P := P) w s d e b hs hd he
      have hm := hfree n (Nat.le_refl _) (by simp)
      have hsz : (bytesRow b (grownCap w b.size 0 e)).size = grownCap w b.size 0 e := by
        have := grownCap_ge w b.size 0 e
        have hb : b.data.size = b.size := rfl
        unfold bytesRow
        rw [Array.size_append, Array.size_map, Array.size_replicate, hb]; omega
      have hge := grownCap_bd w b.size 0 e (by omega)
      refine ⟨_, _, _, hrun, Post.makeF rfl hm w.drew rfl (Fr.drew _ _) ?_ ?_⟩
      · unfold Rv
        refine Or.inr ⟨rfl, w.heap.size, 0, _, grownCap w b.size 0 e, 0, Inj.put_same, rfl, Nat.le_refl _, hge, fun h => (nomatch h), fun _ => by simp, ?_⟩
        rw [hsz]; omega
      · intro q p hq
        have hq2 : (scs (b.data.toList.map fun x => Value.int .u8 x.toNat))[q]? = some p := by rw [← bytes_flat]; exact hq
        simp only [scs, List.getElem?_map, Option.map_eq_some_iff] at hq2
        obtain ⟨_, ⟨x, hx, rfl⟩, rfl⟩ := hq2
        refine ⟨.int .u8 x.toNat, ?_, Rv_sc.2 rfl⟩
        have hlt : q < b.data.size := by
          have := (List.getElem?_eq_some_iff.1 hx).1
          simpa using this
        unfold bytesRow
        rw [Array.getElem?_append_left (by simpa using hlt), Array.getElem?_map]
        rw [Array.getElem?_toList] at hx
        rw [hx]; rfl
    · cases h
  · -- bytes to a string
    rename_i e i e0 sz len lo full nl hs hd
    split at h
    · rename_i he
      split at h
      · rename_i in1 own xs hrow
        obtain ⟨hin, hk⟩ := guardB_some h
        refine ⟨_, _, hk, fun m w xv hx hrd _ => ?_⟩
        obtain ⟨i', e', sz', len', lo', full', nl', zs, hxe, hB, hsz, hss, hin', hxs⟩ := rowOf_some hrow
        cases hxe
        simp only at hB hsz hxs
        subst hsz
        have hle : e0 + len ≤ zs.length := by rw [hin] at hin'; simpa using hin'.symm
        have hxl : xs.length = len := by rw [hxs]; exact len_seg hle
        rcases slice_cells (hrd i (by simp) _ hB) hx hle with ⟨h2, a, rfl, _⟩ | ⟨_, b, base, tt, cap, off, c, el', fz, hm, rfl, hlc, _, hfit, hh, _, _, hc⟩
        · refine ⟨_, _, _, run_convert_bytes_none w s e hs he a 0 d hd, Post.pure ?_⟩
          have : xs = [] := List.length_eq_zero_iff.1 (by omega)
          rw [this]; exact Rv_sc.2 rfl
        · refine ⟨_, _, _, run_convert_bytes_arg w s e hs he b off len cap xs hxl (fun j hj => ?_) d hd, Post.pure (Rv_sc.2 rfl)⟩
          have hcell := hc j (.int .u8 (xs.getD j 0)) (by
            rw [← hxs, u8_flat, List.getElem?_map, List.getElem?_eq_getElem (by omega)]
            simp [List.getD, List.getElem?_eq_getElem (show j < xs.length by omega)])
          simp [World.cell?, hh, hcell]
      · cases h
    · cases h
  · -- nil to a string
    rename_i e hs hd
    split at h
    · rename_i he
      refine ⟨_, _, h, fun m w xv hx _ _ => ?_⟩
      obtain rfl := Rv_sc.1 hx
      exact ⟨_, _, _, run_convert_bytes_nil w s e hs he 0 0 d hd, Post.pure (Rv_sc.2 rfl)⟩
    · cases h
  · -- a literal's row, that is not to be written any more
    rename_i e e' i e0 sz len lo full nl hs hd
    split at h
    · rename_i he
      split at h
      · rename_i k xs hB
        obtain ⟨hsd, hk⟩ := guardB_some h
        simp only [Bool.and_eq_true, Nat.beq_eq, Bool.not_eq_true', Nat.ble_eq] at hsd
        obtain ⟨⟨⟨hsd, hnl⟩, hni⟩, hl1⟩ := hsd
        subst hsd; subst hnl
        refine ⟨_, _, hk, fun m w xv hx hrd hfree => ?_⟩
        have hm := hfree n (Nat.le_refl _) (by simp)
        have hlt : ¬ Nat.beq i n = true := by rw [hni]; simp
        have hne : i ≠ n := fun e => hlt (by rw [e]; simp)
        unfold Rv at hx
        rcases hx with ⟨h, _⟩ | ⟨_, b, base, t, cap, off, hmi, rfl, h1, h2, h3, h4, h5⟩
        · omega
        rcases hrd i (by simp) _ hB with h | ⟨h, _⟩ | ⟨b', base', t', c, el, fz, hm', hh, hc, hz, HH⟩
        · cases h
        · rw [h] at hmi; cases hmi
        rw [hmi] at hm'; cases hm'
        have hz := hz rfl
        subst hz
        have hsh : w.shape? b = some (el, c.size) := by unfold World.shape?; rw [hh]
        have hfr : w.freeze ⟨b, c.size, none⟩ 1 = { w with heap := w.heap.modify b fun
            | .cells c elem (lo, hi) => .cells c elem (if lo == hi then (c.size, c.size + 1) else (min lo c.size, max hi (c.size + 1)))
            | o => o } := by
          unfold World.freeze
          rw [if_neg (by decide)]
          have : ∀ o : Obj, w.heap[b]? = some o → (match o with
            | .cells c' elem (lo, hi) => Obj.cells c' elem (if lo == hi then (c.size, c.size + 1) else (min lo c.size, max hi (c.size + 1)))
            | o => o) = (match o with
            | .cells c elem (lo, hi) => Obj.cells c elem (if lo == hi then (c.size, c.size + 1) else (min lo c.size, max hi (c.size + 1)))
            | o => o) := by
            intro o ho
            rw [hh] at ho; cases ho; rfl
          congr 1
          apply Array.ext_getElem?
          intro j
          rw [Array.getElem?_modify, Array.getElem?_modify]
          split
          · rename_i hj
            subst hj
            rw [hh]; rfl
          · rfl
        have hh' : (w.freeze ⟨b, c.size, none⟩ 1).heap[b]? = some (.cells c el (c.size, c.size + 1)) := by
          rw [hfr]
          show (w.heap.modify b _)[b]? = _
          rw [Array.getElem?_modify, if_pos rfl, hh]; rfl
        have hoth : ∀ j, j ≠ b → (w.freeze ⟨b, c.size, none⟩ 1).heap[j]? = w.heap[j]? := by
          intro j hj
          rw [hfr]
          show (w.heap.modify b _)[j]? = _
          rw [Array.getElem?_modify, if_neg (fun h => hj h.symm)]
        have hsize : (w.freeze ⟨b, c.size, none⟩ 1).heap.size = w.heap.size := by rw [hfr]; simp
        have hos : (w.freeze ⟨b, c.size, none⟩ 1).os = w.os ∧ (w.freeze ⟨b, c.size, none⟩ 1).tape = w.tape ∧ (w.freeze ⟨b, c.size, none⟩ 1).output = w.output := by rw [hfr]; exact ⟨rfl, rfl, rfl⟩
        have hrun : (convert s s (.slice (some ⟨b, off, none⟩) len cap)).run P w = .ok (.slice (some ⟨b, off, none⟩) len cap) (w.freeze ⟨b, c.size, none⟩ 1) := by
          rw [hd] at hs; cases hs
          simp [convert, run_underlying hd, run_underlying he, markStringish, hsh]
        have hext : Ext m (fun j => if j = n then m i else m j) := by
          intro j y hy
          by_cases e : j = n
          · subst e; rw [hm] at hy; cases hy
          · simp only [if_neg e]; exact hy
        refine ⟨_, fun j => if j = n then m i else m j, _, hrun, ?_, ?_, ?_, ?_, ?_, ?_, ?_, ?_, ?_, ?_⟩
        · unfold Rv
          exact Or.inr ⟨rfl, b, base, t, cap, off, by simp [hmi], rfl, h1, h2, h3, h4, h5⟩
        · intro j hj
          have : j ≠ n := by simp at hj; omega
          simp [this]
        · intro j B h
          simp at h; obtain ⟨rfl, rfl⟩ := h
          exact Or.inl rfl
        · intro q B h
          match q, h with
          | 0, h =>
            simp at h; subst h
            refine Or.inr (Or.inr ⟨b, base, t, c, el, _, by simp [hmi], hh', hc, (fun h => by simp [Blk.own] at h), fun q p hq => ?_⟩)
            obtain ⟨u, g1, g2⟩ := HH q p hq
            exact ⟨u, g1, Rv.mono hext g2⟩
          | q + 1, h => simp at h
        · intro j B h hd
          simp at h; obtain ⟨rfl, rfl⟩ := h; exact absurd rfl hd
        · intro q b base t B h hd hq
          match q, h with
          | 0, h =>
            simp at h; subst h
            refine Or.inr ⟨i, _, base, t, by simp, hB, rfl, by simpa using hq⟩
          | q + 1, h => simp at h
        · intro q l b base t base2 t2 B B2 h h2
          have : q = 0 := by
            match q, h with
            | 0, _ => rfl
            | q + 1, h => simp at h
          have : l = 0 := by
            match l, h2 with
            | 0, _ => rfl
            | l + 1, h => simp at h
          intros; omega
        · refine ⟨hos.1, hos.2.1, hos.2.2, by rw [hsize]; omega, fun j _ hA => hoth j (fun e => hA ?_), by rw [hfr]; exact Nat.le_refl _⟩
          subst e
          exact ⟨i, .dead, .row true k xs, base, t, by simp, hB, rfl, hmi⟩
        · intro j B B' h h'
          simp at h h'; rw [h.2, h'.2]
        · intro j B h
          simp at h; obtain ⟨rfl, rfl⟩ := h; exact ⟨_, hB⟩
      · cases h
    · cases h
  · obtain ⟨p, hk, hp⟩ := evConvert_sound h
    refine ⟨p, _, hk, fun m w xv hx _ _ => ?_⟩
    obtain ⟨v, hv, hrv⟩ := hp m w xv hx
    exact ⟨v, m, w, hv, Post.pure hrv⟩
end
end Go.Proofs.YtokephobkllfgaaDoorEv
