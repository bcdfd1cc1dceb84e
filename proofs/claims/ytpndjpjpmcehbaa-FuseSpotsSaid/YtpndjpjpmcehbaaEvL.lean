/- What is proved here: one operation of the evaluator says what the machine's own does. No condition but that the table's contracts hold. -/
import Derived.Test.YtpndjpjpmcehbaaEvK
namespace Go.Proofs.YtpndjpjpmcehbaaEv
open Go
section
variable {P : Program} {R : Type} {n : Nat}

theorem rowOf_some {H : List Blk} {x : PV} {s : Nat} {in1 own : Bool} {kx : (k : Kd) × List k.den} (h : rowOf H x s = some (in1, own, kx)) :
    ∃ i e sz len lo full nl xs, x = .sl i e sz len lo full nl ∧ getB H i = some (.row own kx.1 xs) ∧ sz = kx.1.sz ∧ s = sz ∧ in1 = decide (e + len ≤ xs.length) ∧ kx.2 = (xs.drop e).take len := by
  unfold rowOf at h
  cases x <;> simp only [] at h <;> try contradiction
  rename_i i e sz len lo full nl
  cases hb : getB H i with
  | none => rw [hb] at h; simp at h
  | some B =>
    rw [hb] at h
    cases B <;> simp only [] at h <;> try contradiction
    rename_i o k xs
    cases hc : (Nat.beq sz k.sz && Nat.beq s sz) with
    | false => rw [hc] at h; simp at h
    | true =>
      rw [hc] at h; simp only [cond_true, Option.some.injEq, Prod.mk.injEq] at h
      obtain ⟨rfl, rfl, rfl⟩ := h
      simp only [Bool.and_eq_true, Nat.beq_eq] at hc
      exact ⟨i, e, sz, len, lo, full, nl, xs, rfl, hb, hc.1, hc.2, rfl, rfl⟩

/-- What the operation's own condition gives. -/
def Reads (m : Inj) (w : World) (H : List Blk) (rd : List Nat) : Prop := ∀ i ∈ rd, ∀ B, getB H i = some B → BRep m w i B

theorem len_seg {α : Type} {xs : List α} {e len : Nat} (h : e + len ≤ xs.length) : ((xs.drop e).take len).length = len := by
  rw [List.length_take, List.length_drop]; omega

theorem evAppend_sound {H : List Blk} {t : TypeId} {s x : PV} {K : PV → Chg → Option R} {r : R} (h : evAppend P n H t s x K = some r) :
    ∃ p c B, K p c = some r ∧ c.nw = [B] ∧ ∃ e0, P.underlying t = some (.slice e0) ∧ ∀ m w sv xv t2 ty e2, P.underlying t2 = some (.slice e2) → m n = none → Reads m w H c.rd → Rv m s sv → Rv m x xv →
      ∃ v m' w', (Builtin.append_ #[t, t2] ty #[sv, xv]).run P w = .ok v w' ∧ Post m w (getB H) n p c v m' w' := by
  unfold evAppend at h
  cases hu : P.underlying t with
  | none => rw [hu] at h; simp at h
  | some d =>
    rw [hu] at h
    cases d <;> (try simp only [] at h) <;> (try contradiction)
    rename_i el
    cases hi : P.info? el with
    | none => rw [hi] at h; simp at h
    | some inf =>
      rw [hi] at h; simp only [] at h
      obtain ⟨hz0, h1⟩ := guardB_some h
      clear h
      have hzero : ∃ zv, inf.zero = some zv ∧ zv.cells.size = inf.size := by
        cases hz : zeroCells P el with
        | none => rw [hz] at hz0; simp at hz0
        | some z =>
          rw [hz] at hz0; simp only [Nat.beq_eq] at hz0
          obtain ⟨i', zv, hi', hzv, hr⟩ := zeroCells_rv (m := fun _ => none) hz
          rw [hi] at hi'; cases hi'
          exact ⟨zv, hzv, by rw [← Array.length_toList, hr.length]; exact hz0⟩
      obtain ⟨zv, hzv, hzs⟩ := hzero
      -- what x shows
      have hxx : ∀ {in2 own2 : Bool} {k : Kd} {ys : List k.den} {j e2 sz2 len2 lo2 : Nat} {full2 nl2 : Bool}, rowOf H (.sl j e2 sz2 len2 lo2 full2 nl2) inf.size = some (in2, own2, ⟨k, ys⟩) → in2 = true →
          inf.size = k.sz ∧ sz2 = k.sz ∧ ys.length = len2 ∧ ∀ m w xv, BRep m w j (.row own2 k (match getB H j with | some (.row _ k' zs) => (if h : k' = k then h ▸ zs else []) | _ => [])) → Rv m (.sl j e2 sz2 len2 lo2 full2 nl2) xv →
            (ys = [] ∧ ∃ a c, xv = .slice a 0 c) ∨ ∃ a c, xv = .slice (some a) ys.length c ∧ ∀ (q : Nat) u, (ys.flatMap k.vals)[q]? = some u → w.cell? (a.add q) = some u := by
        intro in2 own2 k ys j e2 sz2 len2 lo2 full2 nl2 hr hin
        obtain ⟨i, e, sz, len, lo, full, nl, zs, he, hb, hsz, hss, hin', hys⟩ := rowOf_some hr
        cases he
        subst hin
        have hle : e2 + len2 ≤ zs.length := by simpa using hin'.symm
        simp only at hb hsz hys
        refine ⟨by rw [hss, hsz], hsz, by rw [hys]; exact len_seg hle, fun m w xv hrep hv => ?_⟩
        rw [hb] at hrep
        simp only [dite_true] at hrep
        subst hsz
        rcases slice_cells hrep hv hle with ⟨_, h2, rfl⟩ | ⟨_, b, base, tt, cap, off, c, el', fz, hm, rfl, hlc, _, hfit, hh, _, _, hc⟩
        · left
          subst h2
          exact ⟨by rw [hys]; simp, none, 0, rfl⟩
        · right
          refine ⟨⟨b, off, none⟩, cap, by rw [hys, len_seg hle], fun q u hq => ?_⟩
          rw [cell_at hh]
          rw [hys] at hq
          exact hc q u hq
      have hgetrow : ∀ {in2 own2 : Bool} {k : Kd} {ys : List k.den} {j e2 sz2 len2 lo2 : Nat} {full2 nl2 : Bool}, rowOf H (.sl j e2 sz2 len2 lo2 full2 nl2) inf.size = some (in2, own2, ⟨k, ys⟩) →
          getB H j = some (.row own2 k (match getB H j with | some (.row _ k' zs) => (if h : k' = k then h ▸ zs else []) | _ => [])) := by
        intro in2 own2 k ys j e2 sz2 len2 lo2 full2 nl2 hr
        obtain ⟨i, e, sz, len, lo, full, nl, zs, he, hb, hsz, hss, hin', hys⟩ := rowOf_some hr
        cases he
        simp only at hb
        rw [hb]
        simp
      split at h1
      · -- both told
        rename_i i e sz len lo full nl j e2 sz2 len2 lo2 full2 nl2
        split at h1
        · rename_i in1 own k xs in2 own2 k' ys hr1 hr2
          split at h1
          · rename_i hk
            subst hk
            obtain ⟨hg, h2⟩ := guardB_some h1
            simp only [Bool.and_eq_true, decide_eq_true_eq] at hg
            obtain ⟨⟨⟨hin1, hin2⟩, hbytes⟩, hL⟩ := hg
            obtain ⟨q1, q2, q3, q4⟩ := hxx hr2 hin2
            obtain ⟨i0, e0, sz0, len0, lo0, full0, nl0, zs, he, hb, hsz, hss, hin', hxs⟩ := rowOf_some hr1
            cases he
            subst hin1
            have hle : e + len ≤ zs.length := by simpa using hin'.symm
            simp only at hb hsz hxs
            subst hsz
            have hxl : xs.length = len := by rw [hxs]; exact len_seg hle
            have core : ∀ (up : List (Nat × Blk)) (nl' : Bool) (p : PV), (∀ i B, (i, B) ∈ up → B = .dead ∧ ∃ B0, getB H i = some B0) → ((own = true ∧ (i, Blk.dead) ∈ up) ∨ (full = true ∧ 1 ≤ len2)) →
                (∀ nz : Bool, nz = nl → (nz && Nat.beq ys.length 0) = nl' ∨ (full = true ∧ 1 ≤ len2 ∧ nl' = false)) → p = .sl n 0 k'.sz (len + len2) (len + len2) false nl' →
                ∀ m w sv xv t2 ty et2, P.underlying t2 = some (.slice et2) → m n = none → Reads m w H [i, j] → Rv m (.sl i e k'.sz len lo full nl) sv → Rv m (.sl j e2 sz2 len2 lo2 full2 nl2) xv →
                ∃ v m' w', (Builtin.append_ #[t, t2] ty #[sv, xv]).run P w = .ok v w' ∧ Post m w (getB H) n p ⟨[i, j], up, [.row true k' (xs ++ ys)]⟩ v m' w' := by
              intro up nl' p hup hroom hnl hp m w sv xv t2 ty et2 h2' hm hrd hs hx
              rw [run_append_types hu h2']
              have hx' := q4 m w xv (hrd j (by simp) _ (hgetrow hr2)) hx
              have hs' : (nl = true ∧ xs = [] ∧ sv = .slice none 0 0) ∨ (nl = false ∧ ∃ b cap off c el fz, sv = .slice (some ⟨b, off, none⟩) xs.length cap ∧ xs.length ≤ cap ∧ off + cap * k'.sz ≤ c.size ∧ w.heap[b]? = some (.cells c el fz) ∧
                  (∀ (j : Nat) u, (xs.flatMap k'.vals)[j]? = some u → c[off + j]? = some u) ∧ (cap < xs.length + ys.length ∨ (fz = (0, 0) ∧ ∃ i B0 base0 t0, (i, Blk.dead) ∈ up ∧ getB H i = some B0 ∧ B0.own = true ∧ m i = some (b, base0, t0)))) := by
                rcases slice_cells (hrd i (by simp) _ hb) hs hle with ⟨h1, h2, h3⟩ | ⟨h1, b, base, tt, cap, off, c, el', fz, hm', h3, hlc, hf, hfit, hh, _, hz, hc⟩
                · exact Or.inl ⟨h1, by rw [hxs, h2]; simp, h3⟩
                · right
                  refine ⟨h1, b, cap, off, c, el', fz, by rw [h3, hxl], by omega, hfit, hh, fun j u hj => hc j u (by rw [← hxs]; exact hj), ?_⟩
                  rcases hroom with ⟨ho, hd⟩ | ⟨h4, h5⟩
                  · exact Or.inr ⟨hz ho, i, _, base, tt, hd, hb, ho, hm'⟩
                  · left; have := hf h4; omega
              obtain ⟨v, m', w', hrun, hpost⟩ := append_core (ty := ty) (rd := [i, j]) hu hi hzv q1 hzs hup hm (by rw [hxl, q3]; exact hbytes) (by rw [hxl, q3]; exact hL) hx' hs'
              refine ⟨v, m', w', hrun, ?_⟩
              rw [hp]
              rcases hnl nl rfl with h | ⟨h4, h5, h6⟩
              · rw [← h, ← q3, ← hxl]; exact hpost
              · have hb0 : Nat.beq ys.length 0 = false := by rw [q3]; cases len2 with | zero => omega | succ q => rfl
                rw [hb0, Bool.and_false] at hpost
                rw [h6, ← q3, ← hxl]; exact hpost
            cases hfl : (full && decide (1 ≤ len2)) with
            | true =>
              rw [hfl] at h2; simp only [cond_true] at h2
              simp only [Bool.and_eq_true, decide_eq_true_eq] at hfl
              exact ⟨_, _, _, h2, rfl, el, rfl, core [] false _ (fun i B h => by simp at h) (Or.inr hfl) (fun nz _ => Or.inr ⟨hfl.1, hfl.2, rfl⟩) rfl⟩
            | false =>
              rw [hfl] at h2; simp only [cond_false] at h2
              cases own with
              | false => simp at h2
              | true =>
                simp only [cond_true] at h2
                exact ⟨_, _, _, h2, rfl, el, rfl, core [(i, .dead)] _ _ (fun i' B h => by simp at h; exact ⟨h.2, _, by rw [h.1]; exact hb⟩) (Or.inl ⟨rfl, by simp⟩) (fun nz hz => Or.inl (by rw [hz, q3, Bool.and_comm])) rfl⟩
          · cases h1
        · cases h1
      · -- onto nil
        rename_i j e2 sz2 len2 lo2 full2 nl2
        split at h1
        · rename_i in2 own2 k ys hr2
          obtain ⟨hg, h2⟩ := guardB_some h1
          simp only [Bool.and_eq_true, decide_eq_true_eq] at hg
          obtain ⟨⟨hin2, hbytes⟩, hL⟩ := hg
          obtain ⟨q1, q2, q3, q4⟩ := hxx hr2 hin2
          refine ⟨_, _, _, h2, rfl, el, rfl, fun m w sv xv t2 ty et2 h2' hm hrd hs hx => ?_⟩
          rw [run_append_types hu h2']
          obtain rfl := Rv_sc.1 hs
          have hx' := q4 m w xv (hrd j (by simp) _ (hgetrow hr2)) hx
          obtain ⟨v, m', w', hrun, hpost⟩ := append_core (ty := ty) (rd := [j]) (up := []) (hp := getB H) (xs := []) (nz := true) hu hi hzv q1 hzs (fun i B h => by simp at h) hm (by simpa [q3] using hbytes) (by simpa [q3] using hL) hx' (Or.inl ⟨rfl, rfl, rfl⟩)
          refine ⟨v, m', w', hrun, ?_⟩
          simp only [List.length_nil, Nat.zero_add, List.nil_append, Bool.true_and, q3] at hpost
          rw [q2]; exact hpost
        · -- cells that stand in no row
          split at h1
          · rename_i o cs hB
            obtain ⟨hg, h2⟩ := guardB_some h1
            simp only [Bool.and_eq_true, decide_eq_true_eq, Nat.beq_eq, Bool.not_eq_true'] at hg
            obtain ⟨⟨⟨⟨⟨⟨⟨rfl, rfl⟩, rfl⟩, g4⟩, rfl⟩, g6⟩, g7⟩, g8⟩ := hg
            have g4 := Nat.le_of_ble_eq_true g4
            refine ⟨_, _, _, h2, rfl, el, rfl, fun m w sv xv t2 ty et2 h2' hm hrd hs hx => ?_⟩
            rw [run_append_types hu h2']
            obtain rfl := Rv_sc.1 hs
            unfold Rv at hx
            rcases hx with ⟨h, _⟩ | ⟨_, b, base, tt, cap, off, hmi, rfl, q1, q2, q3, q4, q5⟩
            · cases h
            rcases hrd j (by simp) _ hB with h | ⟨h, _⟩ | ⟨b', base', t', c, el', fz, hmi', hh, hc, _, H⟩
            · cases h
            · rw [h] at hmi; cases hmi
            rw [hmi] at hmi'; cases hmi'
            have hoff : off = base := by rw [q4 (by omega)]; omega
            subst hoff
            have hnl : ((List.range cs.length).map fun q => (c[off + q]?).getD undef).length = cs.length * inf.size := by rw [g6]; simp
            have hr := run_append_nil (P := P) (w := w) t ty el inf zv hu hi hzv ⟨b, off, none⟩ cs.length cap ((List.range cs.length).map fun q => (c[off + q]?).getD undef) hnl (fun q u hq => by
              rw [cell_at hh]
              have hlt : q < cs.length := by
                have := (List.getElem?_eq_some_iff.1 hq).1
                simpa using this
              obtain ⟨u', hu', _⟩ := H q _ (List.getElem?_eq_getElem hlt)
              simp [hlt, hu'] at hq
              rw [hu', hq]) (by omega) (by omega) (by omega)
            have hge := grownCap_ge w cs.length 0 el
            refine ⟨_, _, _, hr, Post.make hm w.drew rfl (Fr.drew _ _) (fun i B h => by simp at h) ?_ (fun q p hq => ?_)⟩
            · unfold Rv
              refine Or.inr ⟨rfl, w.heap.size, 0, _, _, 0, Inj.put_same, rfl, Nat.le_refl _, hge, (fun h => by cases h), fun _ => by simp, ?_⟩
              simp only [Array.size_append, List.size_toArray, size_zeroCells, hnl, hzs, Nat.zero_add, g6, Nat.mul_one]
              omega
            · have hq2 : cs[q]? = some p := hq
              have hlt := (List.getElem?_eq_some_iff.1 hq2).1
              obtain ⟨u', hu', hr'⟩ := H q p hq2
              refine ⟨u', ?_, hr'⟩
              rw [Array.getElem?_append_left (by simpa using hlt)]
              simp [hlt, hu']
          · cases h1
      · cases h1
end
end Go.Proofs.YtpndjpjpmcehbaaEv
