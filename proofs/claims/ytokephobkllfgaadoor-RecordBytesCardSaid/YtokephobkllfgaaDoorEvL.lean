/- What is proved here: one operation of the evaluator says what the machine's own does. No condition but that the table's contracts hold. -/
import Derived.Test.YtokephobkllfgaaDoorEvK
namespace Go.Proofs.YtokephobkllfgaaDoorEv
open Go
section
variable {P : Program} {R : Type} {n : Nat}

theorem rowOf_some {H : List Blk} {x : PV} {s : Nat} {in1 own : Bool} {kx : (k : Kd) × List k.den} (h : rowOf H x s = some (in1, own, kx)) :
    ∃ i e sz len lo full nl xs, x = .sl i e sz len lo full nl ∧ getB H i = some (.row own kx.1 xs) ∧ sz = kx.1.sz ∧ s = sz ∧ in1 = decide (e + len ≤ xs.length) ∧ kx.2 = (xs.drop e).take len := by
  unfold rowOf at h
  cases x <;> simp only [] at h <;> try contradiction
  rename_i i e sz len lo full nl
  cases hb : getB H i with
  | none => rw [hb] at h; simp at h
  | some B =>
    rw [hb] at h
    cases B <;> simp only [] at h <;> try contradiction
    rename_i o k xs
    cases hc : (Nat.beq sz k.sz && Nat.beq s sz) with
    | false => rw [hc] at h; simp at h
    | true =>
      rw [hc] at h; simp only [cond_true, Option.some.injEq, Prod.mk.injEq] at h
      obtain ⟨rfl, rfl, rfl⟩ := h
      simp only [Bool.and_eq_true, Nat.beq_eq] at hc
      exact ⟨i, e, sz, len, lo, full, nl, xs, rfl, hb, hc.1, hc.2, rfl, rfl⟩

/-- What the operation's own condition gives. -/
def Reads (m : Inj) (w : World) (H : List Blk) (rd : List Nat) : Prop := ∀ i ∈ rd, ∀ B, getB H i = some B → BRep m w i B

theorem len_seg {α : Type} {xs : List α} {e len : Nat} (h : e + len ≤ xs.length) : ((xs.drop e).take len).length = len := by
  rw [List.length_take, List.length_drop]; omega

theorem evAppend_sound {H : List Blk} {t : TypeId} {s x : PV} {K : PV → Chg → Option R} {r : R} (h : evAppend P n H t s x K = some r) :
    ∃ p c B, K p c = some r ∧ c.nw = [B] ∧ ∃ e0, P.underlying t = some (.slice e0) ∧ ∀ m w sv xv t2 ty e2, P.underlying t2 = some (.slice e2) → m n = none → Reads m w H c.rd → Rv m s sv → Rv m x xv →
      ∃ v m' w', (Builtin.append_ #[t, t2] ty #[sv, xv]).run P w = .ok v w' ∧ Post m w (getB H) n p c v m' w' := by
  unfold evAppend at h
  cases hu : P.underlying t with
  | none => rw [hu] at h; simp at h
  | some d =>
    rw [hu] at h
    cases d <;> (try simp only [] at h) <;> (try contradiction)
    rename_i el
    cases hi : P.info? el with
    | none => rw [hi] at h; simp at h
    | some inf =>
      rw [hi] at h; simp only [] at h
      obtain ⟨hz0, h1⟩ := guardB_some h
      clear h
      have hzero : ∃ zv, inf.zero = some zv ∧ zv.cells.size = inf.size := by
        cases hz : zeroCells P el with
        | none => rw [hz] at hz0; simp at hz0
        | some z =>
          rw [hz] at hz0; simp only [Nat.beq_eq] at hz0
          obtain ⟨i', zv, hi', hzv, hr⟩ := zeroCells_rv (m := fun _ => none) hz
          rw [hi] at hi'; cases hi'
          exact ⟨zv, hzv, by rw [← Array.length_toList, hr.length]; exact hz0⟩
      obtain ⟨zv, hzv, hzs⟩ := hzero
      -- what x shows
      have hxx : ∀ {in2 own2 : Bool} {k : Kd} {ys : List k.den} {j e2 sz2 len2 lo2 : Nat} {full2 nl2 : Bool}, rowOf H (.sl j e2 sz2 len2 lo2 full2 nl2) inf.size = some (in2, own2, ⟨k, ys⟩) → in2 = true →
          inf.size = k.sz ∧ sz2 = k.sz ∧ ys.length = len2 ∧ ∀ m w xv, BRep m w j (.row own2 k (match getB H j with | some (.row _ k' zs) => (if h : k' = k then h ▸ zs else []) | _ => [])) → Rv m (.sl j e2 sz2 len2 lo2 full2 nl2) xv →
            (ys = [] ∧ ∃ a c, xv = .slice a 0 c) ∨ ∃ a c, xv = .slice (some a) ys.length c ∧ ∀ (q : Nat) u, (ys.flatMap k.vals)[q]? = some u → w.cell? (a.add q) = some u := by
        intro in2 own2 k ys j e2 sz2 len2 lo2 full2 nl2 hr hin
        obtain ⟨i, e, sz, len, lo, full, nl, zs, he, hb, hsz, hss, hin', hys⟩ := rowOf_some hr
        cases he
        subst hin
        have hle : e2 + len2 ≤ zs.length := by simpa using hin'.symm
        simp only at hb hsz hys
        refine ⟨by rw [hss, hsz], hsz, by rw [hys]; exact len_seg hle, fun m w xv hrep hv => ?_⟩
        rw [hb] at hrep
        simp only [dite_true] at hrep
        subst hsz
        rcases slice_cells hrep hv hle with ⟨h2, a, rfl, _⟩ | ⟨_, b, base, tt, cap, off, c, el', fz, hm, rfl, hlc, _, hfit, hh, _, _, hc⟩
        · left
          subst h2
          exact ⟨by rw [hys]; simp, a, 0, rfl⟩
        · right
          refine ⟨⟨b, off, none⟩, cap, by rw [hys, len_seg hle], fun q u hq => ?_⟩
          rw [cell_at hh]
          rw [hys] at hq
          exact hc q u hq
      have hgetrow : ∀ {in2 own2 : Bool} {k : Kd} {ys : List k.den} {j e2 sz2 len2 lo2 : Nat} {full2 nl2 : Bool}, rowOf H (.sl j e2 sz2 len2 lo2 full2 nl2) inf.size = some (in2, own2, ⟨k, ys⟩) →
          getB H j = some (.row own2 k (match getB H j with | some (.row _ k' zs) => (if h : k' = k then h ▸ zs else []) | _ => [])) := by
        intro in2 own2 k ys j e2 sz2 len2 lo2 full2 nl2 hr
        obtain ⟨i, e, sz, len, lo, full, nl, zs, he, hb, hsz, hss, hin', hys⟩ := rowOf_some hr
        cases he
        simp only at hb
        rw [hb]
        simp
      split at h1
      · -- both told
        rename_i i e sz len lo full nl j e2 sz2 len2 lo2 full2 nl2
        split at h1
        · rename_i in1 own k xs in2 own2 k' ys hr1 hr2
          split at h1
          · rename_i hk
            subst hk
            obtain ⟨hg, h2⟩ := guardB_some h1
            simp only [Bool.and_eq_true, decide_eq_true_eq] at hg
            obtain ⟨⟨⟨hin1, hin2⟩, hbytes⟩, hL⟩ := hg
            obtain ⟨q1, q2, q3, q4⟩ := hxx hr2 hin2
            obtain ⟨i0, e0, sz0, len0, lo0, full0, nl0, zs, he, hb, hsz, hss, hin', hxs⟩ := rowOf_some hr1
            cases he
            subst hin1
            have hle : e + len ≤ zs.length := by simpa using hin'.symm
            simp only at hb hsz hxs
            subst hsz
            have hxl : xs.length = len := by rw [hxs]; exact len_seg hle
            have core : ∀ (up : List (Nat × Blk)) (nl' : Bool) (p : PV), (∀ i B, (i, B) ∈ up → B = .dead ∧ ∃ B0, getB H i = some B0) → ((own = true ∧ (i, Blk.dead) ∈ up) ∨ (full = true ∧ 1 ≤ len2)) →
                (∀ nz : Bool, nz = nl → (nz && Nat.beq ys.length 0) = nl' ∨ (full = true ∧ 1 ≤ len2 ∧ nl' = false)) → p = .sl n 0 k'.sz (len + len2) (len + len2) false nl' →
                ∀ m w sv xv t2 ty et2, P.underlying t2 = some (.slice et2) → m n = none → Reads m w H [i, j] → Rv m (.sl i e k'.sz len lo full nl) sv → Rv m (.sl j e2 sz2 len2 lo2 full2 nl2) xv →
                ∃ v m' w', (Builtin.append_ #[t, t2] ty #[sv, xv]).run P w = .ok v w' ∧ Post m w (getB H) n p ⟨[i, j], up, [.row true k' (xs ++ ys)]⟩ v m' w' := by
              intro up nl' p hup hroom hnl hp m w sv xv t2 ty et2 h2' hm hrd hs hx
              rw [run_append_types hu h2']
              have hx' := q4 m w xv (hrd j (by simp) _ (hgetrow hr2)) hx
              have hs' : (xs = [] ∧ ∃ a0 : Option Addr, sv = .slice a0 0 0 ∧ nl = a0.isNone) ∨ (nl = false ∧ ∃ b cap off c el fz, sv = .slice (some ⟨b, off, none⟩) xs.length cap ∧ (xs.length ≤ cap ∧ cap ≤ 9223372036854775807) ∧ off + cap * k'.sz ≤ c.size ∧ w.heap[b]? = some (.cells c el fz) ∧
                  (∀ (j : Nat) u, (xs.flatMap k'.vals)[j]? = some u → c[off + j]? = some u) ∧ (cap < xs.length + ys.length ∨ (fz = (0, 0) ∧ ∃ i B0 base0 t0, (i, Blk.dead) ∈ up ∧ getB H i = some B0 ∧ B0.own = true ∧ m i = some (b, base0, t0)))) := by
                rcases slice_cells (hrd i (by simp) _ hb) hs hle with ⟨h2, h3⟩ | ⟨h1, b, base, tt, cap, off, c, el', fz, hm', h3, hlc, hf, hfit, hh, _, hz, hc⟩
                · exact Or.inl ⟨by rw [hxs, h2]; simp, h3⟩
                · right
                  refine ⟨h1, b, cap, off, c, el', fz, by rw [h3, hxl], by omega, hfit, hh, fun j u hj => hc j u (by rw [← hxs]; exact hj), ?_⟩
                  rcases hroom with ⟨ho, hd⟩ | ⟨h4, h5⟩
                  · exact Or.inr ⟨hz ho, i, _, base, tt, hd, hb, ho, hm'⟩
                  · left; have := hf h4; omega
              obtain ⟨v, m', w', hrun, hpost⟩ := append_core (ty := ty) (rd := [i, j]) hu hi hzv q1 hzs hup hm (by rw [hxl, q3]; exact hbytes) (by rw [hxl, q3]; exact hL) hx' hs'
              refine ⟨v, m', w', hrun, ?_⟩
              rw [hp]
              rcases hnl nl rfl with h | ⟨h4, h5, h6⟩
              · rw [← h, ← q3, ← hxl]; exact hpost
              · have hb0 : Nat.beq ys.length 0 = false := by rw [q3]; cases len2 with | zero => omega | succ q => rfl
                rw [hb0, Bool.and_false] at hpost
                rw [h6, ← q3, ← hxl]; exact hpost
            cases hfl : (full && decide (1 ≤ len2)) with
            | true =>
              rw [hfl] at h2; simp only [cond_true] at h2
              simp only [Bool.and_eq_true, decide_eq_true_eq] at hfl
              exact ⟨_, _, _, h2, rfl, el, rfl, core [] false _ (fun i B h => by simp at h) (Or.inr hfl) (fun nz _ => Or.inr ⟨hfl.1, hfl.2, rfl⟩) rfl⟩
            | false =>
              rw [hfl] at h2; simp only [cond_false] at h2
              cases own with
              | false => simp at h2
              | true =>
                simp only [cond_true] at h2
                exact ⟨_, _, _, h2, rfl, el, rfl, core [(i, .dead)] _ _ (fun i' B h => by simp at h; exact ⟨h.2, _, by rw [h.1]; exact hb⟩) (Or.inl ⟨rfl, by simp⟩) (fun nz hz => Or.inl (by rw [hz, q3, Bool.and_comm])) rfl⟩
          · cases h1
        · cases h1
      · -- onto nil
        rename_i j e2 sz2 len2 lo2 full2 nl2
        split at h1
        · rename_i in2 own2 k ys hr2
          obtain ⟨hg, h2⟩ := guardB_some h1
          simp only [Bool.and_eq_true, decide_eq_true_eq] at hg
          obtain ⟨⟨hin2, hbytes⟩, hL⟩ := hg
          obtain ⟨q1, q2, q3, q4⟩ := hxx hr2 hin2
          refine ⟨_, _, _, h2, rfl, el, rfl, fun m w sv xv t2 ty et2 h2' hm hrd hs hx => ?_⟩
          rw [run_append_types hu h2']
          obtain rfl := Rv_sc.1 hs
          have hx' := q4 m w xv (hrd j (by simp) _ (hgetrow hr2)) hx
          obtain ⟨v, m', w', hrun, hpost⟩ := append_core (ty := ty) (rd := [j]) (up := []) (hp := getB H) (xs := []) (nz := true) hu hi hzv q1 hzs (fun i B h => by simp at h) hm (by simpa [q3] using hbytes) (by simpa [q3] using hL) hx' (Or.inl ⟨rfl, none, rfl, rfl⟩)
          refine ⟨v, m', w', hrun, ?_⟩
          simp only [List.length_nil, Nat.zero_add, List.nil_append, Bool.true_and, q3] at hpost
          rw [q2]; exact hpost
        · -- cells that stand in no row
          split at h1
          · rename_i o cs hB
            obtain ⟨hg, h2⟩ := guardB_some h1
            simp only [Bool.and_eq_true, decide_eq_true_eq, Nat.beq_eq, Bool.not_eq_true'] at hg
            obtain ⟨⟨⟨⟨⟨⟨⟨rfl, rfl⟩, rfl⟩, g4⟩, rfl⟩, g6⟩, g7⟩, g8⟩ := hg
            have g4 := Nat.le_of_ble_eq_true g4
            refine ⟨_, _, _, h2, rfl, el, rfl, fun m w sv xv t2 ty et2 h2' hm hrd hs hx => ?_⟩
            rw [run_append_types hu h2']
            obtain rfl := Rv_sc.1 hs
            unfold Rv at hx
            rcases hx with ⟨h, _⟩ | ⟨_, b, base, tt, cap, off, hmi, rfl, q1, q2, q3, q4, q5⟩
            · omega
            rcases hrd j (by simp) _ hB with h | ⟨h, _⟩ | ⟨b', base', t', c, el', fz, hmi', hh, hc, _, H⟩
            · cases h
            · rw [h] at hmi; cases hmi
            rw [hmi] at hmi'; cases hmi'
            have hoff : off = base := by rw [q4 (by omega)]; omega
            subst hoff
            have hnl : ((List.range cs.length).map fun q => (c[off + q]?).getD undef).length = cs.length * inf.size := by rw [g6]; simp
            have hr := run_append_nil (P := P) (w := w) t ty el inf zv hu hi hzv ⟨b, off, none⟩ cs.length cap ((List.range cs.length).map fun q => (c[off + q]?).getD undef) hnl (fun q u hq => by
              rw [cell_at hh]
              have hlt : q < cs.length := by
                have := (List.getElem?_eq_some_iff.1 hq).1
                simpa using this
              obtain ⟨u', hu', _⟩ := H q _ (List.getElem?_eq_getElem hlt)
              simp [hlt, hu'] at hq
              rw [hu', hq]) (by omega) (by omega) (by omega)
            have hge := grownCap_bd w cs.length 0 el (by omega)
            refine ⟨_, _, _, hr, Post.make hm w.drew rfl (Fr.drew _ _) (fun i B h => by simp at h) ?_ (fun q p hq => ?_)⟩
            · unfold Rv
              refine Or.inr ⟨rfl, w.heap.size, 0, _, _, 0, Inj.put_same, rfl, Nat.le_refl _, hge, (fun h => by cases h), fun _ => by simp, ?_⟩
              simp only [Array.size_append, List.size_toArray, size_zeroCells, hnl, hzs, Nat.zero_add, g6, Nat.mul_one]
              omega
            · have hq2 : cs[q]? = some p := hq
              have hlt := (List.getElem?_eq_some_iff.1 hq2).1
              obtain ⟨u', hu', hr'⟩ := H q p hq2
              refine ⟨u', ?_, hr'⟩
              rw [Array.getElem?_append_left (by simpa using hlt)]
              simp [hlt, hu']
          · cases h1
      · cases h1

/-! ### In place -/
theorem Post.upd1 {m : Inj} {w w' : World} {H : List Blk} {p : PV} {v : Value} {i : Nat} {B B' : Blk} (hB : getB H i = some B) (ho1 : B.own = true) (ho2 : B'.own = true) (hv : Rv m p v) (h2 : BRep m w' i B')
    (h3 : Fr (fun b => ∃ base t, m i = some (b, base, t)) w w') : Post m w (getB H) n p ⟨[i], [(i, B')], []⟩ v m w' := by
  refine ⟨hv, fun _ _ => rfl, ?_, fun k B h => by simp at h, ?_, fun k b base t B h => by simp at h, fun k l b base t base2 t2 B B2 h => by simp at h, ?_, fun i B B' h h' => by simp at h h'; rw [h.2, h'.2], fun i' B' h => by simp at h; exact ⟨B, by rw [h.1]; exact hB⟩⟩
  · intro i1 B1 h
    simp only [List.mem_singleton, Prod.mk.injEq] at h
    obtain ⟨rfl, rfl⟩ := h
    exact h2
  · intro i1 B1 h _
    simp only [List.mem_singleton, Prod.mk.injEq] at h
    obtain ⟨rfl, rfl⟩ := h
    exact ⟨B, hB, fun e => by rw [e] at ho1; simp [Blk.own] at ho1, by rw [ho1, ho2]⟩
  · refine h3.mono ?_
    rintro b _ ⟨base, t0, hm⟩
    exact ⟨i, B', B, base, t0, by simp, hB, ho1, hm⟩
theorem row_setRow {m : Inj} {w : World} {i : Nat} {k : Kd} {xs ys : List k.den} {e b base tt : Nat} {c : Array Value} {el : TypeId} (hm : m i = some (b, base, tt)) (hh : w.heap[b]? = some (.cells c el (0, 0))) (hc : c.size = tt)
    (H : ∀ (q : Nat) (p : PV), (Blk.row true k xs).cs[q]? = some p → ∃ u, c[base + q]? = some u ∧ Rv m p u) (hle : e + ys.length ≤ xs.length) (hy : 0 < ys.length) :
    base + e * k.sz + (ys.flatMap k.vals).length ≤ c.size ∧ BRep m (w.setRow b (splice c.toList (base + e * k.sz) (ys.flatMap k.vals)).toArray) i (.row true k (splice xs e ys)) := by
  have hcs : (Blk.row true k xs).cs.length = xs.length * k.sz := by simp only [Blk.cs, scs_len, Kd.len_flat]
  have hyl : (ys.flatMap k.vals).length = ys.length * k.sz := Kd.len_flat k ys
  have hmul : e * k.sz + ys.length * k.sz ≤ xs.length * k.sz := by rw [← Nat.add_mul]; exact Nat.mul_le_mul_right _ hle
  have hpos : 0 < ys.length * k.sz := Nat.mul_pos hy (Kd.sz_pos k)
  have hcell : ∀ q, q < (Blk.row true k xs).cs.length → base + q < c.size := by
    intro q hq
    obtain ⟨u, hu, _⟩ := H q _ (List.getElem?_eq_getElem hq)
    exact (Array.getElem?_eq_some_iff.1 hu).1
  have hfit : base + e * k.sz + (ys.flatMap k.vals).length ≤ c.size := by
    have := hcell (e * k.sz + ys.length * k.sz - 1) (by rw [hcs]; omega)
    omega
  have hB : (Blk.row true k (splice xs e ys)).cs = splice (Blk.row true k xs).cs (e * k.sz) (scs (ys.flatMap k.vals)) := by
    simp only [Blk.cs, flat_splice k xs e ys hle, scs_splice]
  have hl2 : e * k.sz + (scs (ys.flatMap k.vals)).length ≤ (Blk.row true k xs).cs.length := by rw [scs_len, hyl, hcs]; exact hmul
  refine ⟨hfit, Or.inr (Or.inr ⟨b, base, tt, _, el, (0, 0), hm, setRow_heap w b c _ el _ hh, ?_, fun _ => rfl, ?_⟩)⟩
  · rw [List.size_toArray, splice_len _ _ _ (by simp only [Array.length_toList]; omega), Array.length_toList, hc]
  · intro q p hq
    rw [hB, splice_get _ _ _ hl2, scs_len] at hq
    rw [List.getElem?_toArray, splice_get _ _ _ (by simp only [Array.length_toList]; omega)]
    split at hq
    · rename_i hlt
      rw [if_pos (by omega)]
      obtain ⟨u, hu, hr⟩ := H q p hq
      exact ⟨u, by simpa using hu, hr⟩
    · rename_i hlt
      rw [if_neg (by omega)]
      split at hq
      · rename_i hlt2
        rw [if_pos (by omega)]
        simp only [scs, List.getElem?_map, Option.map_eq_some_iff] at hq
        obtain ⟨u, h1, rfl⟩ := hq
        exact ⟨u, by rw [show base + q - (base + e * k.sz) = q - e * k.sz by omega]; exact h1, Rv_sc.2 rfl⟩
      · rename_i hlt2
        rw [if_neg (by omega)]
        obtain ⟨u, hu, hr⟩ := H q p hq
        exact ⟨u, by simpa using hu, hr⟩
theorem splice_nil {α : Type} (xs : List α) (e : Nat) : splice xs e [] = xs := by
  unfold splice; simp
theorem evClear_sound {H : List Blk} {t : TypeId} {x : PV} {K : PV → Chg → Option R} {r : R} (h : evClear P H t x K = some r) :
    ∃ i B B', K (.tup []) ⟨[i], [(i, B')], []⟩ = some r ∧ getB H i = some B ∧ (B.own = true ∧ B'.own = true) ∧ ∀ m w xv ty, BRep m w i B → Rv m x xv →
      ∃ w', (Builtin.clear_ #[t] ty #[xv]).run P w = .ok (.tuple #[]) w' ∧ BRep m w' i B' ∧ Fr (fun b => ∃ base t, m i = some (b, base, t)) w w' := by
  unfold evClear at h
  split at h
  · rename_i el i e sz len lo full nl hu
    split at h
    · rename_i k xs hB
      split at h
      · rename_i inf z hi hz
        split at h
        · rename_i z0 hz0
          obtain ⟨hg, hx1⟩ := guardB_some h
          obtain ⟨hle, hx2⟩ := guardB_some hx1
          simp only [Bool.and_eq_true, Nat.beq_eq, decide_eq_true_eq] at hg hle
          obtain ⟨rfl, hks⟩ := hg
          refine ⟨i, _, _, hx2, hB, ⟨rfl, rfl⟩, fun m w xv ty hb hx => ?_⟩
          obtain ⟨zc, hzc, hun⟩ := Option.bind_eq_some_iff.1 hz
          obtain ⟨i', zv, hi', hzv, hrz⟩ := zeroCells_rv (m := m) hzc
          rw [hi] at hi'; cases hi'
          have hzl : zv.cells.toList = k.vals z0 := by
            rw [unsc_rv hun hrz, Kd.parse_eq k hz0, List.append_nil]
          have hzs : zv.cells.size = k.sz := by rw [← Array.length_toList, hzl, Kd.len_vals]
          have hml : (Builtin.zeroCells zv.cells len).toList = (List.replicate len z0).flatMap k.vals := by
            unfold Builtin.zeroCells
            rw [made_list _ _ (by rw [hzs]; exact Kd.sz_pos k), hzl, List.flatMap_def, List.map_replicate]
          unfold Rv at hx
          rcases hx with ⟨rfl, _, a, rfl, _⟩ | ⟨_, b, base, tt, cap, off, hm, rfl, h1, h2, _, h4, h5⟩
          · refine ⟨w, ?_, by rw [List.replicate_zero, splice_nil]; exact hb, Fr.refl _ _⟩
            cases a <;> simp [Builtin.clear_, run_underlying hu]
          · by_cases h0 : len = 0
            · subst h0
              refine ⟨w, ?_, by rw [List.replicate_zero, splice_nil]; exact hb, Fr.refl _ _⟩
              simp [Builtin.clear_, run_underlying hu]
            · rcases hb with hb | ⟨hb, _⟩ | ⟨b', base', t', c, el', fz, hm', hh, hc, hz', HH⟩
              · cases hb
              · rw [hb] at hm; cases hm
              rw [hm] at hm'; cases hm'
              obtain rfl := hz' rfl
              obtain ⟨hfit, hrep⟩ := row_setRow (w := w) (e := e) (ys := List.replicate len z0) hm hh hc HH (by rw [List.length_replicate]; exact hle) (by rw [List.length_replicate]; omega)
              refine ⟨_, ?_, hrep, Fr.setRow _ _ _ ⟨base, tt, hm⟩⟩
              have hoff : off = base + e * k.sz := h4 (by omega)
              subst hoff
              have hst := run_storeCells_at P b (base + e * k.sz) el' ((List.replicate len z0).flatMap k.vals) 0 c w hh (by simpa using hfit) (fun u hu => by
                obtain ⟨y, _, hy⟩ := List.mem_flatMap.1 hu
                exact Kd.one_vals k y u hy)
              simp only [Nat.add_zero, List.append_assoc] at hst
              simp [Builtin.clear_, run_underlying hu, zeroValue, typeInfo, hi, hzv, h0, hml, hst, splice]
        · cases h
      · cases h
    · cases h
  · cases h
theorem selfApp_some {H : List Blk} {s x : PV} (h : selfApp H s x = true) : ∃ i e sz len lo full nl e2 sz2 len2 lo2 full2 nl2, s = .sl i e sz len lo full nl ∧ x = .sl i e2 sz2 len2 lo2 full2 nl2 := by
  unfold selfApp at h
  split at h
  · rename_i i e sz len lo full nl j e2 sz2 len2 lo2 full2 nl2
    simp only [Bool.and_eq_true, Nat.beq_eq] at h
    obtain ⟨rfl, _⟩ := h
    exact ⟨_, _, _, _, _, _, _, _, _, _, _, _, _, rfl, rfl⟩
  · cases h
theorem evAppendSelf_sound {H : List Blk} {t : TypeId} {s x : PV} {K : PV → Chg → Option R} {r : R} (h : evAppendSelf P H t s x K = some r) :
    ∃ p i B B', K p ⟨[i], [(i, B')], []⟩ = some r ∧ getB H i = some B ∧ (B.own = true ∧ B'.own = true) ∧ ∀ m w sv xv t2 ty e2, P.underlying t2 = some (.slice e2) → BRep m w i B → Rv m s sv → Rv m x xv →
      ∃ v w', (Builtin.append_ #[t, t2] ty #[sv, xv]).run P w = .ok v w' ∧ Rv m p v ∧ BRep m w' i B' ∧ Fr (fun b => ∃ base t, m i = some (b, base, t)) w w' := by
  unfold evAppendSelf at h
  split at h
  · rename_i el i e sz len lo full nl j e2 sz2 len2 lo2 full2 nl2 hu
    split at h
    · rename_i inf k zs hi hB
      obtain ⟨hg, hx1⟩ := guardB_some h
      obtain ⟨hle, hx2⟩ := guardB_some hx1
      simp only [Bool.and_eq_true, Nat.beq_eq, decide_eq_true_eq] at hg hle
      obtain ⟨⟨⟨rfl, rfl⟩, rfl⟩, hks⟩ := hg
      obtain ⟨⟨h1, h2⟩, h3⟩ := hle
      refine ⟨_, i, _, _, hx2, hB, ⟨rfl, rfl⟩, fun m w sv xv t2 ty et2 h2' hb hs hx => ?_⟩
      rw [run_append_types hu h2']
      have hyl : ((zs.drop e2).take len2).length = len2 := len_seg h2
      by_cases h0 : len2 = 0
      · subst h0
        have hxv : ∃ a c, xv = .slice a 0 c := by
          unfold Rv at hx
          rcases hx with ⟨_, _, _, rfl, _⟩ | ⟨_, b, base, tt, cap, off, _, rfl, _⟩
          · exact ⟨_, _, rfl⟩
          · exact ⟨_, _, rfl⟩
        obtain ⟨a, c, rfl⟩ := hxv
        have hB' : splice zs (e + len) ((zs.drop e2).take 0) = zs := by rw [List.take_zero, splice_nil]
        rw [hB']
        unfold Rv at hs
        rcases hs with ⟨rfl, rfl, a0, rfl, h5⟩ | ⟨rfl, b, base, tt, cap, off, hm, rfl, q1, q2, _, q4, q5⟩
        · exact ⟨_, w, run_append_zero hu hi _ a _ _ c (Nat.le_refl _), by unfold Rv; exact Or.inl ⟨rfl, rfl, a0, rfl, h5⟩, hb, Fr.refl _ _⟩
        · refine ⟨_, w, run_append_zero hu hi _ a _ _ c (by omega), ?_, hb, Fr.refl _ _⟩
          unfold Rv
          exact Or.inr ⟨rfl, b, base, tt, cap, off, hm, rfl, by omega, q2, (fun h => by cases h), q4, q5⟩
      · unfold Rv at hs
        rcases hs with ⟨rfl, rfl, a0, rfl, h5⟩ | ⟨rfl, b, base, tt, cap, off, hm, rfl, q1, q2, _, q4, q5⟩
        · omega
        have hoff : off = base + e * k.sz := q4 (by omega)
        subst hoff
        rcases slice_cells hb hx h2 with ⟨h, _⟩ | ⟨_, b1, base1, t1, cap1, off1, c1, el1, fz1, hm1, rfl, _, _, _, hh1, _, _, hc1⟩
        · exact absurd h h0
        rcases hb with hb | ⟨hb, _⟩ | ⟨b', base', t', c, el', fz, hm', hh, hc, hz', HH⟩
        · cases hb
        · rw [hb] at hm; cases hm
        rw [hm] at hm' hm1; cases hm'; cases hm1
        obtain rfl := hz' rfl
        rw [hh] at hh1
        simp only [Option.some.injEq, Obj.cells.injEq] at hh1
        obtain ⟨rfl, rfl, rfl⟩ := hh1
        obtain ⟨hfit, hrep⟩ := row_setRow (w := w) (e := e + len) (ys := (zs.drop e2).take len2) hm hh hc HH (by rw [hyl]; exact h1) (by rw [hyl]; omega)
        have hnl : (((zs.drop e2).take len2).flatMap k.vals).length = len2 * inf.size := by rw [Kd.len_flat, hyl, hks]
        have hr := run_append_room0 (P := P) (w := w) (ty := ty) hu hi b (base + e * k.sz) len cap c el' hh ⟨b, off1, none⟩ len2 cap1 (((zs.drop e2).take len2).flatMap k.vals) hnl (fun j u hj => by rw [cell_at hh]; exact hc1 j u hj)
          (fun u hu => by
            obtain ⟨y, _, hy⟩ := List.mem_flatMap.1 hu
            exact Kd.one_vals k y u hy) (by omega) (by rw [hks]; rw [Nat.add_mul] at hfit; omega)
        refine ⟨_, _, hr, ?_, ?_, Fr.setRow _ _ _ ⟨base, tt, hm⟩⟩
        · unfold Rv
          exact Or.inr ⟨rfl, b, base, tt, cap, _, hm, rfl, h3, q2, (fun h => by cases h), q4, q5⟩
        · rw [show base + e * k.sz + len * inf.size = base + (e + len) * k.sz by rw [hks, Nat.add_mul]; omega]
          exact hrep
    · cases h
  · cases h
end
end Go.Proofs.YtokephobkllfgaaDoorEv
