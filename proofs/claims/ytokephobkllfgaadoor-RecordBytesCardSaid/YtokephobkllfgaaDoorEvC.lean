/- What is proved here: each of the evaluator's memory operations (load, store, a new variable) says what the machine's own does, wherever the blocks lie. No condition. -/
import Derived.Test.YtokephobkllfgaaDoorEvB
namespace Go.Proofs.YtokephobkllfgaaDoorEv
open Go

def Blk.own : Blk → Bool
  | .fix o _ => o
  | .row o _ _ => o
  | .mix o _ _ _ _ _ => o
  | .dead => false
def Blk.cs : Blk → List PV
  | .fix _ cs => cs
  | .row _ k xs => scs (xs.flatMap k.vals)
  | .mix _ pre k _ xs post => pre ++ (scs (xs.flatMap k.vals) ++ post)
  | .dead => []

/-- What the machine's world holds of block i. -/
def BRep (m : Inj) (w : World) (i : Nat) (B : Blk) : Prop :=
  B = .dead ∨ (m i = none ∧ ∃ o k, B = .row o k []) ∨
  ∃ b base t c e fz, m i = some (b, base, t) ∧ w.heap[b]? = some (.cells c e fz) ∧ c.size = t ∧ (B.own = true → fz = (0, 0)) ∧ ∀ q p, B.cs[q]? = some p → ∃ u, c[base + q]? = some u ∧ Rv m p u

/-- What has turned between two worlds: the blocks of A alone, and new ones. -/
structure Fr (A : Nat → Prop) (w w' : World) : Prop where
  os : w'.os = w.os
  tape : w'.tape = w.tape
  output : w'.output = w.output
  size : w.heap.size ≤ w'.heap.size
  block : ∀ k, k < w.heap.size → ¬ A k → w'.heap[k]? = w.heap[k]?
  drawn : w.drawn ≤ w'.drawn
theorem Fr.refl (A : Nat → Prop) (w : World) : Fr A w w := ⟨rfl, rfl, rfl, Nat.le_refl _, fun _ _ _ => rfl, Nat.le_refl _⟩
theorem Fr.trans {A : Nat → Prop} {a b c : World} (h : Fr A a b) (k : Fr A b c) : Fr A a c :=
  ⟨k.os.trans h.os, k.tape.trans h.tape, k.output.trans h.output, Nat.le_trans h.size k.size, fun i hi hA => (k.block i (Nat.lt_of_lt_of_le hi h.size) hA).trans (h.block i hi hA), Nat.le_trans h.drawn k.drawn⟩
theorem Fr.mono {A A' : Nat → Prop} {w w' : World} (h : Fr A w w') (hA : ∀ k, k < w.heap.size → A k → A' k) : Fr A' w w' :=
  ⟨h.os, h.tape, h.output, h.size, fun k hk hn => h.block k hk (fun ha => hn (hA k hk ha)), h.drawn⟩
theorem Fr.drew (A : Nat → Prop) (w : World) : Fr A w { w with drawn := w.drawn + 1 } := ⟨rfl, rfl, rfl, Nat.le_refl _, fun _ _ _ => rfl, Nat.le_succ _⟩

section
variable {P : Program} {m : Inj} {w : World}

theorem seg_of {cs : List PV} {c : Array Value} {base : Nat} (H : ∀ q p, cs[q]? = some p → ∃ u, c[base + q]? = some u ∧ Rv m p u) (pos n : Nat) (hn : ((cs.drop pos).take n).length = n) :
    ∃ us : List Value, us.length = n ∧ Rvs m ((cs.drop pos).take n) us ∧ ∀ j v, us[j]? = some v → c[base + pos + j]? = some v := by
  have hlen : pos + n ≤ cs.length ∨ n = 0 := by simp at hn; omega
  have each : ∀ j, j < n → ∃ p u, cs[pos + j]? = some p ∧ c[base + (pos + j)]? = some u ∧ Rv m p u := by
    intro j hj
    have hl : pos + j < cs.length := by omega
    obtain ⟨u, hu, hr⟩ := H (pos + j) _ (List.getElem?_eq_getElem hl)
    exact ⟨_, u, List.getElem?_eq_getElem hl, hu, hr⟩
  refine ⟨(List.range n).map fun j => (c[base + (pos + j)]?).getD undef, by simp, ?_, ?_⟩
  · refine Rvs.of_get (by simp [hn]) ?_
    intro j p u h1 h2
    have hj : j < n := by
      have := (List.getElem?_eq_some_iff.1 h2).1
      simpa using this
    rw [List.getElem?_take, if_pos hj, List.getElem?_drop] at h1
    obtain ⟨p', u', a, b, r⟩ := each j hj
    rw [a] at h1; cases h1
    simp [hj, b] at h2
    subst h2; exact r
  · intro j v h
    have hj : j < n := by
      have := (List.getElem?_eq_some_iff.1 h).1
      simpa using this
    obtain ⟨p', u', a, b, r⟩ := each j hj
    simp [hj, b] at h
    subst h
    rw [Nat.add_assoc]; exact b

theorem cell_at {b : Nat} {c : Array Value} {e : TypeId} {fz : Nat × Nat} (h : w.heap[b]? = some (.cells c e fz)) (o j : Nat) : w.cell? ((⟨b, o, none⟩ : Addr).add j) = c[o + j]? := by
  have : (⟨b, o, none⟩ : Addr).add j = ⟨b, o + j, none⟩ := by unfold Addr.add; split <;> simp_all
  rw [this]; simp [World.cell?, h]

theorem run_isAgg {t : TypeId} {d : TypeDesc} (hd : P.underlying t = some d) : (isAgg t).run P w = .ok (aggT P t) w := by
  unfold isAgg aggT
  simp only [Sem.run_bind, run_underlying hd, Result.andThen_ok, hd]
  cases d <;> rfl
theorem sizeT_info {t : TypeId} {n : Nat} (h : sizeT P t = some n) : ∃ i, P.info? t = some i ∧ i.size = n := by
  unfold sizeT at h
  cases hi : P.info? t with
  | none => rw [hi] at h; simp at h
  | some i => rw [hi] at h; simp at h; exact ⟨i, rfl, h⟩
theorem run_sizeOf {t : TypeId} {n : Nat} (h : sizeT P t = some n) : (sizeOf t).run P w = .ok n w := by
  obtain ⟨i, hi, rfl⟩ := sizeT_info h
  simp [sizeOf, typeInfo, hi]
theorem run_loadVar {t : TypeId} {d : TypeDesc} {us : List Value} {a : Addr} (hd : P.underlying t = some d) (hs : sizeT P t = some us.length) (hc : ∀ j v, us[j]? = some v → w.cell? (a.add j) = some v) :
    (aggT P t = true → (loadVar t a).run P w = .ok (.agg us.toArray) w) ∧ (aggT P t = false → ∀ u, us = [u] → (loadVar t a).run P w = .ok u w) := by
  constructor
  · intro ha
    simp [loadVar, run_isAgg hd, ha, run_sizeOf hs, run_loadCells_list w a us hc]
  · intro ha u hu
    subst hu
    have h0 := hc 0 u rfl
    rw [Addr.add_zero'] at h0
    simp [loadVar, run_isAgg hd, ha, h0]

theorem flat_drop (k : Kd) : ∀ (xs : List k.den) (e : Nat), (xs.flatMap k.vals).drop (e * k.sz) = (xs.drop e).flatMap k.vals
  | [], e => by simp
  | x :: xs, 0 => by simp
  | x :: xs, e + 1 => by
    rw [List.flatMap_cons, Nat.succ_mul, Nat.add_comm, ← List.drop_drop, List.drop_left' (Kd.len_vals k x), flat_drop k xs e]; rfl
theorem flat_take (k : Kd) : ∀ (xs : List k.den) (n : Nat), (xs.flatMap k.vals).take (n * k.sz) = (xs.take n).flatMap k.vals
  | [], n => by simp
  | x :: xs, 0 => by simp
  | x :: xs, n + 1 => by
    rw [List.flatMap_cons, Nat.succ_mul, Nat.add_comm, List.take_add, List.take_left' (Kd.len_vals k x), List.drop_left' (Kd.len_vals k x), flat_take k xs n]; rfl
theorem flat_elem (k : Kd) (xs : List k.den) (e j n : Nat) (x : k.den) (hx : xs[e]? = some x) (hn : (((k.vals x).drop j).take n).length = n) :
    ((xs.flatMap k.vals).drop (e * k.sz + j)).take n = ((k.vals x).drop j).take n := by
  have he : e < xs.length := (List.getElem?_eq_some_iff.1 hx).1
  have hxe : xs[e] = x := by rw [List.getElem?_eq_getElem he] at hx; simpa using hx
  rw [← List.drop_drop, flat_drop, List.drop_eq_getElem_cons he, List.flatMap_cons, hxe]
  have hl := Kd.len_vals k x
  simp only [List.length_take, List.length_drop, hl] at hn
  rcases Nat.eq_zero_or_pos n with h0 | h0
  · subst h0; simp
  · rw [List.drop_append_of_le_length (by omega), List.take_append_of_le_length (by simp; omega)]
theorem scs_drop (vs : List Value) (n : Nat) : (scs vs).drop n = scs (vs.drop n) := by simp [scs]
theorem scs_take (vs : List Value) (n : Nat) : (scs vs).take n = scs (vs.take n) := by simp [scs]
theorem scs_len (vs : List Value) : (scs vs).length = vs.length := by simp [scs]

/-- Reading n cells of a block and making a value of type t of them. -/
theorem load_seg {i e sz j n : Nat} {t : TypeId} {B : Blk} {p : PV} {va : Value} (hb : BRep m w i B) (hB : B ≠ .dead) (ha : Rv m (.ptr i e sz j) va) (hs : sizeT P t = some n)
    (hn : ((B.cs.drop (e * sz + j)).take n).length = n) (hp : ofCells P t ((B.cs.drop (e * sz + j)).take n) = some p) : ∃ v, (Instr.loadAt t va).run P w = .ok v w ∧ Rv m p v := by
  unfold Rv at ha
  obtain ⟨b, base, tt, hm, rfl⟩ := ha
  rcases hb with h | ⟨h, _⟩ | ⟨b', base', t', c, el, fz, hm', hh, hc, _, H⟩
  · exact absurd h hB
  · rw [h] at hm; cases hm
  rw [hm] at hm'; cases hm'
  obtain ⟨us, hl, hr, hv⟩ := seg_of H (e * sz + j) n hn
  obtain ⟨d, hd, hh2⟩ := ofCells_rv hp hr
  have hc' : ∀ q v, us[q]? = some v → w.cell? ((⟨b, base + e * sz + j, none⟩ : Addr).add q) = some v := by
    intro q v hq
    rw [cell_at hh, Nat.add_assoc base]; exact hv q v hq
  obtain ⟨h1, h2⟩ := run_loadVar (P := P) (w := w) hd (by rw [hl]; exact hs) hc'
  simp only [Instr.loadAt, Instr.sureAddr, Sem.run_bind, Sem.run_pure, Result.andThen_ok]
  rcases hh2 with ⟨ha, hr2⟩ | ⟨ha, u, hu, hr2⟩
  · exact ⟨_, h1 ha, hr2⟩
  · exact ⟨_, h2 ha u hu, hr2⟩

theorem evLoad_sound {R : Type} {H : List Blk} {t : TypeId} {a : PV} {K : PV → Chg → Option R} {r : R} (h : evLoad P H t a K = some r) :
    ∃ p i B, K p ⟨[i], [], []⟩ = some r ∧ getB H i = some B ∧ ∀ m w va, BRep m w i B → Rv m a va → ∃ v, (Instr.loadAt t va).run P w = .ok v w ∧ Rv m p v := by
  unfold evLoad at h
  cases a <;> simp only [] at h <;> try contradiction
  rename_i i e sz j
  cases hB : getB H i with
  | none => rw [hB] at h; simp at h
  | some B =>
    rw [hB] at h
    cases B with
    | dead => simp at h
    | fix own cs =>
      simp only [] at h
      cases hs : sizeT P t with
      | none => rw [hs] at h; simp at h
      | some n =>
        rw [hs] at h; simp only [] at h
        obtain ⟨hn, h1⟩ := guardB_some h
        obtain ⟨p, hp, h2⟩ := bindO_some h1
        simp only [Nat.beq_eq] at hn
        refine ⟨p, i, _, h2, hB, fun m w va hb ha => load_seg hb (by simp) ha hs (by simpa [Blk.cs] using hn) (by simpa [Blk.cs] using hp)⟩
    | mix own pre k N xs post =>
      simp only [] at h
      cases hs : sizeT P t with
      | none => rw [hs] at h; simp at h
      | some n =>
        rw [hs] at h; simp only [] at h
        cases hsz : Nat.beq sz 1 with
        | true =>
          rw [hsz] at h; simp only [cond_true] at h
          obtain rfl := Nat.eq_of_beq_eq_true hsz
          obtain ⟨he, h1⟩ := guardB_some h
          obtain rfl := Nat.eq_of_beq_eq_true he
          cases hj : Nat.ble (j + n) pre.length with
          | true =>
            rw [hj] at h1; simp only [cond_true] at h1
            have hj := Nat.le_of_ble_eq_true hj
            obtain ⟨hn, h2⟩ := guardB_some h1
            obtain ⟨p, hp, h3⟩ := bindO_some h2
            simp only [Nat.beq_eq] at hn
            have e1 : ((Blk.mix own pre k N xs post).cs.drop (0 * 1 + j)).take n = (pre.drop j).take n := by
              simp only [Blk.cs, Nat.zero_mul, Nat.zero_add]
              rw [List.drop_append_of_le_length (by omega), List.take_append_of_le_length (by rw [List.length_drop]; omega)]
            exact ⟨p, i, _, h3, hB, fun m w va hb ha => load_seg hb (by simp) ha hs (by rw [e1]; exact hn) (by rw [e1]; exact hp)⟩
          | false =>
            rw [hj] at h1; simp only [cond_false] at h1
            cases hk : Nat.ble (pre.length + N * k.sz) j with
            | true =>
              rw [hk] at h1; simp only [cond_true] at h1
              have hk := Nat.le_of_ble_eq_true hk
              obtain ⟨hl, h2⟩ := guardB_some h1
              obtain ⟨hn, h3⟩ := guardB_some h2
              obtain ⟨p, hp, h4⟩ := bindO_some h3
              simp only [Nat.beq_eq, decide_eq_true_eq] at hn hl
              have e1 : ((Blk.mix own pre k N xs post).cs.drop (0 * 1 + j)).take n = (post.drop (j - (pre.length + N * k.sz))).take n := by
                simp only [Blk.cs, Nat.zero_mul, Nat.zero_add]
                have hlen : (scs (xs.flatMap k.vals)).length = N * k.sz := by rw [scs_len, Kd.len_flat, hl]
                rw [← List.append_assoc, List.drop_append, List.drop_eq_nil_of_le (by rw [List.length_append, hlen]; omega), List.nil_append, List.length_append, hlen]
              exact ⟨p, i, _, h4, hB, fun m w va hb ha => load_seg hb (by simp) ha hs (by rw [e1]; exact hn) (by rw [e1]; exact hp)⟩
            | false =>
              rw [hk] at h1; simp only [cond_false] at h1
              cases hrk : rowKd P t with
              | none => rw [hrk] at h1; simp at h1
              | some k' =>
                rw [hrk] at h1; simp only [] at h1
                obtain ⟨hg, h2⟩ := guardB_some h1
                obtain ⟨hl, h3⟩ := guardB_some h2
                simp only [Bool.and_eq_true, Nat.beq_eq, decide_eq_true_eq] at hg hl
                obtain ⟨⟨rfl, rfl⟩, hn⟩ := hg
                have e2 : ((Blk.mix own pre k' N xs post).cs.drop (0 * 1 + pre.length)).take n = scs (xs.flatMap k'.vals) := by
                  simp only [Blk.cs, Nat.zero_mul, Nat.zero_add]
                  rw [List.drop_left, List.take_append_of_le_length (by rw [scs_len, Kd.len_flat, hl]; omega), List.take_of_length_le (by rw [scs_len, Kd.len_flat, hl]; omega)]
                refine ⟨_, i, _, h3, hB, fun m w va hb ha => ?_⟩
                unfold Rv at ha
                obtain ⟨b, base, tt, hm, rfl⟩ := ha
                rcases hb with h0 | ⟨_, _, _, h0⟩ | ⟨b', base', t', c, el, fz, hm', hh, hc, _, HH⟩
                · cases h0
                · cases h0
                rw [hm] at hm'; cases hm'
                obtain ⟨us, hl2, hr, hv⟩ := seg_of HH (0 * 1 + pre.length) n (by rw [e2, scs_len, Kd.len_flat, hl, hn])
                rw [e2] at hr
                have hus := Rvs_scs_eq hr
                obtain ⟨d, hud⟩ : ∃ d, P.underlying t = some d := by
                  unfold rowKd at hrk
                  cases hu : P.underlying t with
                  | none => rw [hu] at hrk; simp at hrk
                  | some d => exact ⟨d, rfl⟩
                have hagg : aggT P t = true := by
                  unfold rowKd at hrk; unfold aggT
                  rw [hud] at hrk ⊢
                  cases d <;> simp at hrk ⊢
                have h1 := (run_loadVar (P := P) (w := w) (a := ⟨b, base + 0 * 1 + pre.length, none⟩) hud (by rw [hl2]; exact hs) (by
                  intro q v hq
                  rw [cell_at hh, Nat.add_assoc base]; exact hv q v hq)).1 hagg
                refine ⟨_, by simpa [Instr.loadAt, Instr.sureAddr] using h1, ?_⟩
                unfold Rv
                exact ⟨hl, by rw [hus]⟩
        | false =>
          rw [hsz] at h; simp only [cond_false] at h
          obtain ⟨hg, h1⟩ := guardB_some h
          obtain ⟨x, hx, h2⟩ := bindO_some h1
          obtain ⟨hn, h3⟩ := guardB_some h2
          obtain ⟨p, hp, h4⟩ := bindO_some h3
          simp only [Bool.and_eq_true, Nat.beq_eq, Nat.ble_eq] at hg hn
          obtain ⟨rfl, hj⟩ := hg
          have hx : xs[e]? = some x := hx
          have hxe : e < xs.length := (List.getElem?_eq_some_iff.1 hx).1
          have e1 := flat_elem k xs e (j - pre.length) n x hx hn
          have hmul : e * k.sz + k.sz ≤ xs.length * k.sz := by rw [← Nat.succ_mul]; exact Nat.mul_le_mul_right _ hxe
          have hn' : j - pre.length + n ≤ k.sz ∨ n = 0 := by
            have := Kd.len_vals k x
            simp only [List.length_take, List.length_drop, this] at hn
            omega
          have e2 : ((Blk.mix own pre k N xs post).cs.drop (e * k.sz + j)).take n = scs (((k.vals x).drop (j - pre.length)).take n) := by
            rcases hn' with hn' | hn'
            · simp only [Blk.cs]
              rw [show e * k.sz + j = pre.length + (e * k.sz + (j - pre.length)) by omega, ← List.drop_drop, List.drop_left, List.drop_append_of_le_length (by rw [scs_len, Kd.len_flat]; omega), List.take_append_of_le_length (by rw [List.length_drop, scs_len, Kd.len_flat]; omega), scs_drop, scs_take, e1]
            · subst hn'; simp [scs]
          exact ⟨p, i, _, h4, hB, fun m w va hb ha => load_seg hb (by simp) ha hs (by rw [e2, scs_len]; exact hn) (by rw [e2]; exact hp)⟩
    | row own k xs =>
      simp only [] at h
      cases hs : sizeT P t with
      | none => rw [hs] at h; simp at h
      | some n =>
        rw [hs] at h; simp only [] at h
        cases hk : rowKd P t with
        | none =>
          rw [hk] at h; simp only [] at h
          obtain ⟨hsz, h1⟩ := guardB_some h
          obtain ⟨x, hx, h2⟩ := bindO_some h1
          obtain ⟨hn, h3⟩ := guardB_some h2
          obtain ⟨p, hp, h4⟩ := bindO_some h3
          simp only [Nat.beq_eq] at hsz hn
          subst hsz
          have hx : xs[e]? = some x := hx
          have e1 := flat_elem k xs e j n x hx hn
          have e2 : ((Blk.row own k xs).cs.drop (e * k.sz + j)).take n = scs (((k.vals x).drop j).take n) := by
            simp only [Blk.cs, scs_drop, scs_take, e1]
          exact ⟨p, i, _, h4, hB, fun m w va hb ha => load_seg hb (by simp) ha hs (by rw [e2, scs_len]; exact hn) (by rw [e2]; exact hp)⟩
        | some k' =>
          rw [hk] at h; simp only [] at h
          obtain ⟨hg, h1⟩ := guardB_some h
          obtain ⟨hle, h2⟩ := guardB_some h1
          simp only [Bool.and_eq_true, Nat.beq_eq, decide_eq_true_eq] at hg hle
          obtain ⟨⟨⟨rfl, rfl⟩, rfl⟩, hd⟩ := hg
          have e2 : ((Blk.row own k' xs).cs.drop (e * k'.sz + 0)).take n = scs (((xs.drop e).take (n / k'.sz)).flatMap k'.vals) := by
            simp only [Blk.cs, scs_drop, scs_take, Nat.add_zero, flat_drop]
            conv => lhs; rw [← hd]
            rw [flat_take]
          refine ⟨_, i, _, h2, hB, fun m w va hb ha => ?_⟩
          unfold Rv at ha
          obtain ⟨b, base, tt, hm, rfl⟩ := ha
          rcases hb with h0 | ⟨h0, _⟩ | ⟨b', base', t', c, el, fz, hm', hh, hc, _, HH⟩
          · cases h0
          · rw [h0] at hm; cases hm
          rw [hm] at hm'; cases hm'
          have hlen : (((xs.drop e).take (n / k'.sz)).flatMap k'.vals).length = n := by
            rw [Kd.len_flat, List.length_take, List.length_drop, Nat.min_eq_left (by omega)]; exact hd
          obtain ⟨us, hl, hr, hv⟩ := seg_of HH (e * k'.sz + 0) n (by rw [e2, scs_len]; exact hlen)
          rw [e2] at hr
          have hus := Rvs_scs_eq hr
          obtain ⟨d, hud⟩ : ∃ d, P.underlying t = some d := by
            unfold rowKd at hk
            cases hu : P.underlying t with
            | none => rw [hu] at hk; simp at hk
            | some d => exact ⟨d, rfl⟩
          have hagg : aggT P t = true := by
            unfold rowKd at hk; unfold aggT
            rw [hud] at hk ⊢
            cases d <;> simp at hk ⊢
          have h1 := (run_loadVar (P := P) (w := w) (a := ⟨b, base + e * k'.sz + 0, none⟩) hud (by rw [hl]; exact hs) (by
            intro q v hq
            rw [cell_at hh, Nat.add_assoc base]; exact hv q v hq)).1 hagg
          refine ⟨_, by simpa [Instr.loadAt, Instr.sureAddr] using h1, ?_⟩
          unfold Rv
          exact ⟨by rw [List.length_take, List.length_drop, Nat.min_eq_left (by omega)], by rw [hus]⟩
end
end Go.Proofs.YtokephobkllfgaaDoorEv
