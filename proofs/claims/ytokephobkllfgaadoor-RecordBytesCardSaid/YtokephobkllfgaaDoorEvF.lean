/- What is proved here: the evaluator's operations on values (fields, indexes, literals, arithmetic, comparisons, slices) say what the machine's own do. No condition. -/
import Derived.Test.YtokephobkllfgaaDoorEvD
import Derived.Great.FillDense
import Derived.WalkSpells
namespace Go.Proofs.YtokephobkllfgaaDoorEv
open Go
section
variable {P : Program} {m : Inj} {w : World} {R : Type}

theorem run_part {t : TypeId} {cs : List PV} {us : List Value} {off k : Nat} {p : PV} (hs : sizeT P t = some k) (_hn : ((cs.drop off).take k).length = k) (hp : ofCells P t ((cs.drop off).take k) = some p) (H : Rvs m cs us) :
    ∃ v, (part t us.toArray off).run P w = .ok v w ∧ Rv m p v := by
  have Hs := (H.drop off).take k
  obtain ⟨d, hd, hh⟩ := ofCells_rv hp Hs
  rcases hh with ⟨ha, hr⟩ | ⟨ha, u, hu, hr⟩
  · refine ⟨_, ?_, hr⟩
    simp [part, run_isAgg hd, ha, run_sizeOf hs]
  · refine ⟨u, ?_, hr⟩
    have h0 : us[off]? = some u := by
      have := congrArg (·[0]?) hu
      simp only [List.getElem?_take, List.getElem?_drop, Nat.add_zero, List.getElem?_cons_zero] at this
      split at this
      · exact this
      · cases this
    simp [part, run_isAgg hd, ha, h0]

theorem evField_sound {t : TypeId} {x p : PV} {f : Nat} {xv : Value} (h : evField P t x f = some p) (hx : Rv m x xv) : ∃ v, (Instr.field t xv f).run P w = .ok v w ∧ Rv m p v := by
  unfold evField at h
  cases hu : P.underlying t with
  | none => rw [hu] at h; simp at h
  | some d =>
    rw [hu] at h
    cases d <;> (try simp only [] at h) <;> (try contradiction)
    cases x <;> (try simp only [] at h) <;> (try contradiction)
    rename_i fs cs
    cases hf : fs[f]? with
    | none => rw [hf] at h; simp at h
    | some fd =>
      rw [hf] at h; simp only [] at h
      cases hs : sizeT P fd.type with
      | none => rw [hs] at h; simp at h
      | some n =>
        rw [hs] at h; simp only [] at h
        cases hn : Nat.beq ((cs.drop fd.offset).take n).length n with
        | false => rw [hn] at h; simp at h
        | true =>
          rw [hn] at h; simp only [cond_true] at h
          unfold Rv at hx
          obtain ⟨us, rfl, hr⟩ := hx
          obtain ⟨v, hv, hrv⟩ := run_part (w := w) hs (Nat.eq_of_beq_eq_true hn) h hr
          exact ⟨v, by simp [Instr.field, run_underlying hu, hf, asAgg, hv], hrv⟩

theorem evFieldAddr_sound {t : TypeId} {x p : PV} {f : Nat} {xv : Value} (h : evFieldAddr P t x f = some p) (hx : Rv m x xv) : ∃ v, (Instr.fieldAt t xv f).run P w = .ok v w ∧ Rv m p v := by
  unfold evFieldAddr at h
  cases hu : P.underlying t with
  | none => rw [hu] at h; simp at h
  | some d =>
    rw [hu] at h
    cases d <;> (try simp only [] at h) <;> (try contradiction)
    cases x <;> (try simp only [] at h) <;> (try contradiction)
    rename_i fs i e sz j
    cases hf : fs[f]? with
    | none => rw [hf] at h; simp at h
    | some fd =>
      rw [hf] at h; simp only [] at h
      cases hs : sizeT P fd.type with
      | none => rw [hs] at h; simp at h
      | some n =>
        rw [hs] at h
        cases n with
        | zero => simp at h
        | succ n =>
          simp at h; subst h
          unfold Rv at hx
          obtain ⟨b, base, tt, hm, rfl⟩ := hx
          refine ⟨.pointer (some ⟨b, base + e * sz + (j + fd.offset), none⟩), ?_, ?_⟩
          · simp [Instr.fieldAt, run_underlying hu, hf, Instr.sureAddr, fieldPlace, run_sizeOf hs, Addr.add_lit, Nat.add_assoc]
          · unfold Rv; exact ⟨b, base, tt, hm, rfl⟩

theorem run_indexAt_ok {t : TypeId} {k : IntKind} {q : Int} {b off len cap el s : Nat} (hu : P.underlying t = some (.slice el)) (hs : sizeT P el = some s) (h0 : 0 ≤ q) (h1 : q < (len : Int)) :
    (Instr.indexAt t (.slice (some ⟨b, off, none⟩) len cap) (.int k q)).run P w = .ok (.pointer (some ⟨b, off + q.toNat * s, none⟩)) w := by
  simp [Instr.indexAt, asIntOf, run_underlying hu, h0, h1, run_sizeOf hs, Addr.add_lit]
theorem run_indexAt_arr {t : TypeId} {k : IntKind} {q : Int} {b off len el s : Nat} (hu : P.underlying t = some (.array len el)) (hs : sizeT P el = some s) (h0 : 0 ≤ q) (h1 : q < (len : Int)) :
    (Instr.indexAt t (.pointer (some ⟨b, off, none⟩)) (.int k q)).run P w = .ok (.pointer (some ⟨b, off + q.toNat * s, none⟩)) w := by
  simp [Instr.indexAt, asIntOf, run_underlying hu, h0, h1, run_sizeOf hs, Addr.add_lit, Instr.sureAddr]

theorem evIndexAddr_sound {t : TypeId} {x ix : PV} {K : PV → Option R} {r : R} (h : evIndexAddr P t x ix K = some r) :
    ∃ p, K p = some r ∧ ∀ m w xv iv, Rv m x xv → Rv m ix iv → ∃ v, (Instr.indexAt t xv iv).run P w = .ok v w ∧ Rv m p v := by
  unfold evIndexAddr at h
  cases hu : P.underlying t with
  | none => rw [hu] at h; simp at h
  | some d =>
    rw [hu] at h
    cases d <;> (try simp only [] at h) <;> (try contradiction)
    · -- a slice
      rename_i el
      cases x <;> (try simp only [] at h) <;> (try contradiction)
      cases ix <;> (try simp only [] at h) <;> (try contradiction)
      rename_i i e sz len lo full nl iv
      cases iv <;> (try simp only [] at h) <;> (try contradiction)
      rename_i ik q
      cases hs : sizeT P el with
      | none => rw [hs] at h; simp at h
      | some s =>
        rw [hs] at h; simp only [] at h
        obtain ⟨hg, h1⟩ := guardB_some h
        obtain ⟨hb, h2⟩ := guardB_some h1
        simp only [Nat.beq_eq, Bool.and_eq_true, decide_eq_true_eq] at hg hb
        subst hg
        refine ⟨_, h2, fun m w xv iv hx hi => ?_⟩
        rw [Rv_sc.1 hi]
        unfold Rv at hx
        rcases hx with ⟨_, rfl, _, _⟩ | ⟨_, b, base, tt, cap, off, hm, rfl, hl1, hl2, _, hoff, _⟩
        · have := hb.2; omega
        · refine ⟨_, run_indexAt_ok hu hs hb.1 hb.2, ?_⟩
          unfold Rv
          refine ⟨b, base, tt, hm, ?_⟩
          have hcap : 0 < cap := by have := hb.2; omega
          rw [hoff hcap]
          simp [Nat.add_mul, Nat.add_assoc]
    · -- an array
      rename_i n el
      cases x <;> (try simp only [] at h) <;> (try contradiction)
      cases ix <;> (try simp only [] at h) <;> (try contradiction)
      rename_i i e sz j iv
      cases iv <;> (try simp only [] at h) <;> (try contradiction)
      rename_i ik q
      cases hs : sizeT P el with
      | none => rw [hs] at h; simp at h
      | some s =>
        rw [hs] at h; simp only [] at h
        cases hc : (Nat.beq sz 1 && (Nat.beq e 0 && (!Nat.beq s 1 && structT P el))) with
        | true =>
          rw [hc] at h; simp only [cond_true] at h
          obtain ⟨hb, h2⟩ := guardB_some h
          simp only [Nat.beq_eq, Bool.and_eq_true, decide_eq_true_eq] at hc hb
          obtain ⟨rfl, rfl, _⟩ := hc
          refine ⟨_, h2, fun m w xv iv hx hi => ?_⟩
          rw [Rv_sc.1 hi]
          unfold Rv at hx
          obtain ⟨b, base, tt, hm, rfl⟩ := hx
          refine ⟨_, run_indexAt_arr hu hs hb.1 hb.2, ?_⟩
          unfold Rv
          refine ⟨b, base, tt, hm, ?_⟩
          congr 3; omega
        | false =>
        rw [hc] at h; simp only [cond_false] at h
        obtain ⟨hg, h1⟩ := guardB_some h
        obtain ⟨hb, h2⟩ := guardB_some h1
        simp only [Nat.beq_eq, Bool.and_eq_true, decide_eq_true_eq] at hg hb
        refine ⟨_, h2, fun m w xv iv hx hi => ?_⟩
        rw [Rv_sc.1 hi]
        unfold Rv at hx
        obtain ⟨b, base, tt, hm, rfl⟩ := hx
        refine ⟨_, run_indexAt_arr hu hs hb.1 hb.2, ?_⟩
        unfold Rv
        refine ⟨b, base, tt, hm, ?_⟩
        have e1 : (e + q.toNat * (s / sz)) * sz = e * sz + q.toNat * s := by rw [Nat.add_mul, Nat.mul_assoc, hg]
        rw [e1]
        congr 3; omega

theorem run_index_arr {t : TypeId} {k : IntKind} {q : Int} {cs : Array Value} {n el s : Nat} (hu : P.underlying t = some (.array n el)) (hs : sizeT P el = some s) (h0 : 0 ≤ q) (h1 : q < (n : Int)) :
    (Instr.index t (.agg cs) (.int k q)).run P w = (part el cs (q.toNat * s)).run P w := by
  simp [Instr.index, asIntOf, run_underlying hu, h0, h1, run_sizeOf hs]

theorem evIndex_sound {t : TypeId} {x ix : PV} {K : PV → Option R} {r : R} (h : evIndex P t x ix K = some r) :
    ∃ p, K p = some r ∧ ∀ m w xv iv, Rv m x xv → Rv m ix iv → ∃ v, (Instr.index t xv iv).run P w = .ok v w ∧ Rv m p v := by
  unfold evIndex at h
  cases hu : P.underlying t with
  | none => rw [hu] at h; simp at h
  | some d =>
    rw [hu] at h
    cases d <;> (try simp only [] at h) <;> (try contradiction)
    · -- a string
      cases x <;> (try simp only [] at h) <;> (try contradiction)
      rename_i sv
      cases sv <;> (try simp only [] at h) <;> (try contradiction)
      rename_i s
      cases ix <;> (try simp only [] at h) <;> (try contradiction)
      rename_i iv
      cases iv <;> (try simp only [] at h) <;> (try contradiction)
      rename_i ik q
      obtain ⟨h0, h1⟩ := guardB_some h
      obtain ⟨b, hb, h2⟩ := bindO_some h1
      refine ⟨_, h2, fun m w xv iv hx hi => ?_⟩
      rw [Rv_sc.1 hi, Rv_sc.1 hx]
      simp only [decide_eq_true_eq] at h0
      exact ⟨_, by simp [Instr.index, asIntOf, run_underlying hu, h0, hb], Rv_sc.2 rfl⟩
    · rename_i n el
      cases x <;> (try simp only [] at h) <;> (try contradiction)
      · rename_i cs
        cases ix <;> (try simp only [] at h) <;> (try contradiction)
        rename_i iv
        cases iv <;> (try simp only [] at h) <;> (try contradiction)
        rename_i ik q
        cases hs : sizeT P el with
        | none => rw [hs] at h; simp at h
        | some s =>
          rw [hs] at h; simp only [] at h
          obtain ⟨hb, h1⟩ := guardB_some h
          obtain ⟨hl, h2⟩ := guardB_some h1
          obtain ⟨p, hp, h3⟩ := bindO_some h2
          simp only [Nat.beq_eq, Bool.and_eq_true, decide_eq_true_eq] at hl hb
          refine ⟨p, h3, fun m w xv iv hx hi => ?_⟩
          rw [Rv_sc.1 hi]
          unfold Rv at hx
          obtain ⟨us, rfl, hus⟩ := hx
          rw [run_index_arr hu hs hb.1 hb.2]
          exact run_part hs hl hp hus
      cases ix <;> (try simp only [] at h) <;> (try contradiction)
      rename_i k mm xs iv
      cases iv <;> (try simp only [] at h) <;> (try contradiction)
      rename_i ik q
      cases hs : sizeT P el with
      | none => rw [hs] at h; simp at h
      | some s =>
        rw [hs] at h; simp only [] at h
        cases hk : rowKd P el with
        | some k' =>
          rw [hk] at h; simp only [] at h
          obtain ⟨hg, h1⟩ := guardB_some h
          obtain ⟨hb, h2⟩ := guardB_some h1
          simp only [Nat.beq_eq, Bool.and_eq_true, decide_eq_true_eq] at hg hb
          obtain ⟨⟨rfl, hd⟩, hnm⟩ := hg
          refine ⟨_, h2, fun m w xv iv hx hi => ?_⟩
          rw [Rv_sc.1 hi]
          unfold Rv at hx
          obtain ⟨hl, rfl⟩ := hx
          have hq : q.toNat * (s / k'.sz) + s / k'.sz ≤ xs.length := by
            rw [hl, ← hnm, ← Nat.succ_mul]; exact Nat.mul_le_mul_right _ (by omega)
          obtain ⟨d2, hd2⟩ : ∃ d, P.underlying el = some d := by
            unfold rowKd at hk
            cases hu2 : P.underlying el with
            | none => rw [hu2] at hk; simp at hk
            | some d => exact ⟨d, rfl⟩
          have hagg : aggT P el = true := by
            unfold rowKd at hk; unfold aggT
            rw [hd2] at hk ⊢
            cases d2 <;> simp at hk ⊢
          refine ⟨.agg ((((xs.drop (q.toNat * (s / k'.sz))).take (s / k'.sz)).flatMap k'.vals).toArray), ?_, ?_⟩
          · rw [run_index_arr hu hs hb.1 hb.2]
            have e1 : q.toNat * s = (q.toNat * (s / k'.sz)) * k'.sz := by rw [Nat.mul_assoc, hd]
            have e2 : ((xs.flatMap k'.vals).drop (q.toNat * s)).take s = ((xs.drop (q.toNat * (s / k'.sz))).take (s / k'.sz)).flatMap k'.vals := by
              rw [e1, flat_drop, ← flat_take, hd]
            have e3 : (xs.flatMap k'.vals).toArray.extract (q.toNat * s) (q.toNat * s + s) = (((xs.drop (q.toNat * (s / k'.sz))).take (s / k'.sz)).flatMap k'.vals).toArray := by
              rw [← e2]
              simp
            simp only [part, Sem.run_bind, run_isAgg hd2, hagg, Result.andThen_ok, if_true, run_sizeOf hs, Sem.run_pure, e3]
          · unfold Rv; exact ⟨by rw [List.length_take, List.length_drop]; omega, rfl⟩
        | none =>
          rw [hk] at h; simp only [] at h
          obtain ⟨hg, h1⟩ := guardB_some h
          obtain ⟨hb, h2⟩ := guardB_some h1
          obtain ⟨x, hx, h3⟩ := bindO_some h2
          obtain ⟨p, hp, h4⟩ := bindO_some h3
          simp only [Nat.beq_eq, Bool.and_eq_true, decide_eq_true_eq] at hg hb
          obtain ⟨rfl, hnm⟩ := hg
          refine ⟨p, h4, fun m w xv iv hxv hi => ?_⟩
          rw [Rv_sc.1 hi]
          unfold Rv at hxv
          obtain ⟨hl, rfl⟩ := hxv
          rw [run_index_arr hu hs hb.1 hb.2]
          have hx : xs[q.toNat]? = some x := hx
          have e1 := flat_elem k xs q.toNat 0 k.sz x hx (by simp [Kd.len_vals])
          simp only [Nat.add_zero, List.drop_zero] at e1
          have e2 : ((scs (xs.flatMap k.vals)).drop (q.toNat * k.sz)).take k.sz = scs (k.vals x) := by
            rw [scs_drop, scs_take, e1, ← Kd.len_vals k x, List.take_length]
          exact run_part (cs := scs (xs.flatMap k.vals)) hs (by rw [e2, scs_len, Kd.len_vals]) (by rw [e2]; exact hp) (Rvs_scs _)

/-! ### Literals -/
theorem fill_sound {ι : Type} {place : Nat → Option (Nat × Nat)} {rho : ι → PV} {rhov : ι → Value} : ∀ (l : List (Nat × ι)) (zero cs : List PV) (z : Array Value),
    placeAll zero place (l.map fun x => (x.1, rho x.2)) = some cs → Rvs m zero z.toList → (∀ x ∈ l, Rv m (rho x.2) (rhov x.2)) →
    ∃ c, Instr.fill place z (l.map fun x => (x.1, rhov x.2)) = some c ∧ Rvs m cs c.toList
  | [], zero, cs, z, h, hz, _ => by
    simp [placeAll] at h; subst h
    exact ⟨z, rfl, hz⟩
  | (i, x) :: l, zero, cs, z, h, hz, hr => by
    simp only [List.map_cons, placeAll] at h
    cases hp : place i with
    | none => rw [hp] at h; simp at h
    | some os =>
      obtain ⟨off, size⟩ := os
      cases hc : cells1 (rho x) with
      | none => rw [hp, hc] at h; simp at h
      | some vs =>
        rw [hp, hc] at h; simp only [] at h
        cases hb : (Nat.beq vs.length size && Nat.ble (off + size) zero.length) with
        | false => rw [hb] at h; simp at h
        | true =>
          rw [hb] at h; simp only [cond_true] at h
          simp only [Bool.and_eq_true, Nat.beq_eq, Nat.ble_eq] at hb
          obtain ⟨hl, hle⟩ := hb
          obtain ⟨h1, _⟩ := cells1_rv (u := rhov x) hc (hr (i, x) List.mem_cons_self)
          have hvl := h1.length
          have hzl := hz.length
          obtain ⟨g1, g2⟩ := Great.foldl_set off (rhov x).cells.toList 0 z
          have hz' : Rvs m (splice zero off vs) ((((rhov x).cells.toList.zipIdx 0).foldl (fun cs (y : Value × Nat) => cs.setIfInBounds (off + y.2) y.1) z)).toList := by
            refine Rvs.of_get (by rw [splice_len _ _ _ (by omega), Array.length_toList, g1, ← Array.length_toList, hzl]) ?_
            intro k p u hk hu
            rw [Array.getElem?_toList, g2] at hu
            rw [splice_get _ _ _ (by omega)] at hk
            simp only [Nat.add_zero] at hu
            have hzs : z.size = zero.length := by rw [← Array.length_toList]; exact hzl
            split at hk
            · rename_i hlt
              rw [if_neg (by omega)] at hu
              obtain ⟨u', hu', hru⟩ := hz.get hk
              rw [Array.getElem?_toList, hu] at hu'; cases hu'; exact hru
            · rename_i hlt
              split at hk
              · rename_i hlt2
                have hkz : k < zero.length := by omega
                rw [if_pos ⟨by omega, by omega, by omega⟩] at hu
                obtain ⟨u', hu', hru⟩ := h1.get hk
                rw [hu] at hu'; cases hu'; exact hru
              · rename_i hlt2
                rw [if_neg (by omega)] at hu
                obtain ⟨u', hu', hru⟩ := hz.get hk
                rw [Array.getElem?_toList, hu] at hu'; cases hu'; exact hru
          obtain ⟨c, hf, hrc⟩ := fill_sound l _ cs _ h hz' (fun y hy => hr y (List.mem_cons_of_mem _ hy))
          refine ⟨c, ?_, hrc⟩
          have hsz : (rhov x).cells.size = size := by rw [← Array.length_toList]; omega
          have hzs : z.size = zero.length := by rw [← Array.length_toList]; exact hzl
          simp only [List.map_cons, Instr.fill, hp]
          rw [if_neg (by simp only [hsz]; simp; omega)]
          rw [← hf]
          congr 1
          rw [← Array.foldl_toList, Array.toList_zipIdx]
theorem zeroCells_rv {t : TypeId} {cs : List PV} (h : zeroCells P t = some cs) : ∃ i z, P.info? t = some i ∧ i.zero = some z ∧ Rvs m cs z.cells.toList := by
  unfold zeroCells at h
  cases hi : P.info? t with
  | none => rw [hi] at h; simp at h
  | some i =>
    cases hz : i.zero with
    | none => rw [hi] at h; simp [hz] at h
    | some z =>
      rw [hi] at h; simp only [Option.bind_some, hz] at h
      exact ⟨i, z, rfl, hz, (cells1_rv h (Rv_ofV z)).1⟩
end
end Go.Proofs.YtokephobkllfgaaDoorEv
