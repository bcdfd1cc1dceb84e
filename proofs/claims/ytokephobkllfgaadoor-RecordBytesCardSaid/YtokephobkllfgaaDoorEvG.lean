/- What is proved here: the evaluator's literals, arithmetic, comparisons, slices, make and append say what the machine's own do. No condition. -/
import Derived.Test.YtokephobkllfgaaDoorEvF
namespace Go.Proofs.YtokephobkllfgaaDoorEv
open Go
section
variable {P : Program} {m : Inj} {w : World} {R : Type} {n : Nat} {hp : Nat → Option Blk}

theorem mapM_info : ∀ (fs : List Field), (fs.all fun f => (sizeT P f.type).isSome) = true →
    ∃ places, fs.mapM (fun f => (P.info? f.type).map fun i => (f.offset, i.size)) = some places ∧ ∀ k : Nat, places[k]? = (fs[k]?).bind fun f => (sizeT P f.type).map fun n => (f.offset, n)
  | [], _ => ⟨[], rfl, fun k => by simp⟩
  | f :: fs, h => by
    simp only [List.all_cons, Bool.and_eq_true] at h
    obtain ⟨places, h1, h2⟩ := mapM_info fs h.2
    obtain ⟨n, hn⟩ := Option.isSome_iff_exists.1 h.1
    obtain ⟨i, hi, hin⟩ := sizeT_info hn
    refine ⟨(f.offset, i.size) :: places, ?_, ?_⟩
    · simp [List.mapM_cons, hi, h1]
    · intro k
      cases k with
      | zero => simp [hn, hin]
      | succ k => simpa using h2 k

theorem evBuild_sound {ι : Type} {rho : ι → PV} {rhov : ι → Value} {t : TypeId} {l : List (Nat × ι)} {p : PV} (h : evBuild P t (l.map fun x => (x.1, rho x.2)) = some p) (hr : ∀ x ∈ l, Rv m (rho x.2) (rhov x.2)) :
    ∃ v, (Instr.build t (l.map fun x => (x.1, rhov x.2)).toArray).run P w = .ok v w ∧ Rv m p v := by
  unfold evBuild at h
  cases hz : zeroCells P t with
  | none => rw [hz] at h; simp at h
  | some z =>
    obtain ⟨it, zv, hi, hzv, hrz⟩ := zeroCells_rv (m := m) hz
    cases hu : P.underlying t with
    | none => rw [hz, hu] at h; simp at h
    | some d =>
      rw [hz, hu] at h
      cases d <;> (try simp only [] at h) <;> (try contradiction)
      · -- an array
        rename_i len el
        cases hs : sizeT P el with
        | none => rw [hs] at h; simp at h
        | some s =>
          rw [hs] at h; simp only [] at h
          cases hc : placeAll z (fun i => some (i * s, s)) (l.map fun x => (x.1, rho x.2)) with
          | none => rw [hc] at h; simp at h
          | some cs =>
            rw [hc] at h; simp only [] at h
            obtain ⟨c, hf, hrc⟩ := fill_sound l z cs zv.cells hc hrz hr
            obtain ⟨ie, hie, rfl⟩ := sizeT_info hs
            obtain ⟨d2, hd2, hh⟩ := ofCells_rv h hrc
            refine ⟨.agg c, run_build w t _ c ?_, ?_⟩
            · simp only [Program.built, hi, hu, hzv, hie]; exact hf
            · rcases hh with ⟨_, hr2⟩ | ⟨ha, _⟩
              · simpa using hr2
              · simp [aggT, hu] at ha
      · -- a struct
        rename_i fs
        cases hall : (fs.toList.all fun f => (sizeT P f.type).isSome) with
        | false => rw [hall] at h; simp at h
        | true =>
          rw [hall] at h; simp only [Bool.not_true, cond_false] at h
          obtain ⟨places, hm, hpl⟩ := mapM_info fs.toList hall
          have hfun : placeF P fs = (places.toArray[·]?) := by
            funext i
            unfold placeF
            rw [show places.toArray[i]? = places[i]? from by simp, hpl, Array.getElem?_toList]
            cases fs[i]? with
            | none => rfl
            | some f =>
              simp only [Option.bind_some]
              cases sizeT P f.type <;> rfl
          rw [hfun] at h
          cases hc : placeAll z (places.toArray[·]?) (l.map fun x => (x.1, rho x.2)) with
          | none => rw [hc] at h; simp at h
          | some cs =>
            rw [hc] at h; simp at h; subst h
            obtain ⟨c, hf, hrc⟩ := fill_sound l z cs zv.cells hc hrz hr
            refine ⟨.agg c, run_build w t _ c ?_, ?_⟩
            · simp only [Program.built, hi, hu, hzv, hm]; exact hf
            · unfold Rv; exact ⟨c.toList, by simp, hrc⟩

theorem repCells_rv {z : List PV} {zv : List Value} (hz : Rvs m z zv) : ∀ k, Rvs m (repCells z k) ((List.replicate k zv).flatten)
  | 0 => by simpa [repCells] using Rvs.nil
  | k + 1 => by
    rw [repCells, List.replicate_succ, List.flatten_cons]
    exact hz.append (repCells_rv hz k)
theorem rep_get (zv : List Value) (hs : 0 < zv.length) : ∀ (k q : Nat), q < k * zv.length → ((List.replicate k zv).flatten)[q]? = zv[q % zv.length]?
  | 0, q, h => by omega
  | k + 1, q, h => by
    rw [List.replicate_succ, List.flatten_cons]
    by_cases hq : q < zv.length
    · rw [List.getElem?_append_left hq, Nat.mod_eq_of_lt hq]
    · rw [List.getElem?_append_right (by omega), rep_get zv hs k (q - zv.length) (by rw [Nat.succ_mul] at h; omega)]
      rw [Nat.mod_eq_sub_mod (show zv.length ≤ q by omega)]
theorem made_list (z : Array Value) (k : Nat) (hz : 0 < z.size) : ((Array.range (k * z.size)).map (z[· % z.size]!)).toList = (List.replicate k z.toList).flatten := by
  apply List.ext_getElem?
  intro q
  by_cases hq : q < k * z.size
  · rw [rep_get z.toList (by simpa using hz) k q (by simpa using hq)]
    have hm : q % z.size < z.size := Nat.mod_lt _ hz
    simp [hq, getElem!_pos, hm]
  · rw [List.getElem?_eq_none (by simp; omega), List.getElem?_eq_none (by simp [List.length_flatten]; omega)]

theorem run_buildSlice0 (t e : TypeId) (len : Nat) (parts : Array (Nat × Value)) (cells : Array Value) (ie : TypeInfo) (z : Value)
    (hu : P.underlying t = some (.slice e)) (hie : P.info? e = some ie) (hz : ie.zero = some z) (hsmall : ¬ len * ie.size > 2 ^ 24)
    (h : Instr.fill (fun i => some (i * ie.size, ie.size)) ((Array.range (len * ie.size)).map (z.cells[· % z.cells.size]!)) parts.toList = some cells) :
    (Instr.buildSlice t len parts).run P w = .ok (.slice (some ⟨w.heap.size, 0, none⟩) len len) (w.alloc (.cells cells e)) := by
  by_cases hpos : len * ie.size = 0
  · rw [hpos] at h
    simp only [Array.range_zero', List.map_toArray, List.map_nil] at h
    simp [Instr.buildSlice, run_underlying hu, sizeOf, typeInfo, hie, hpos, h, newRow, Array.range_zero']
  · simp [Instr.buildSlice, run_underlying hu, sizeOf, typeInfo, zeroValue, hie, hz, hsmall, hpos, h, newRow]

theorem evBuildSlice_sound {ι : Type} {rho : ι → PV} {t : TypeId} {len : Nat} {l : List (Nat × ι)} {K : PV → Chg → Option R} {r : R} (h : evBuildSlice P n t len (l.map fun x => (x.1, rho x.2)) K = some r) :
    ∃ p B, K p ⟨[], [], [B]⟩ = some r ∧ ∀ m w hp (rhov : ι → Value), m n = none → (∀ x ∈ l, Rv m (rho x.2) (rhov x.2)) →
      ∃ v m' w', (Instr.buildSlice t len (l.map fun x => (x.1, rhov x.2)).toArray).run P w = .ok v w' ∧ Post m w hp n p ⟨[], [], [B]⟩ v m' w' := by
  unfold evBuildSlice at h
  cases hu : P.underlying t with
  | none => rw [hu] at h; simp at h
  | some d =>
    rw [hu] at h
    cases d <;> (try simp only [] at h) <;> (try contradiction)
    rename_i el
    cases hs : sizeT P el with
    | none => rw [hs] at h; simp at h
    | some s =>
      cases hz : zeroCells P el with
      | none => rw [hs, hz] at h; simp at h
      | some z =>
        rw [hs, hz] at h; simp only [] at h
        cases hc : placeAll (repCells z len) (fun i => some (i * s, s)) (l.map fun x => (x.1, rho x.2)) with
        | none => rw [hc] at h; simp at h
        | some cs =>
          rw [hc] at h; simp only [] at h
          obtain ⟨hg, h1⟩ := guardB_some h
          simp only [Bool.and_eq_true, Nat.beq_eq, Nat.ble_eq] at hg
          obtain ⟨ie, hie, rfl⟩ := sizeT_info hs
          have main : ∀ (p : PV) (B : Blk) (sz : Nat), B.cs = cs → (∀ m' : Inj, ∀ x : Nat × Nat × Nat, m' n = some x → x.2.1 = 0 → len * sz ≤ x.2.2 → Rv m' p (.slice (some ⟨x.1, 0, none⟩) len len)) → sz = ie.size → ∀ m w hp (rhov : ι → Value), m n = none → (∀ x ∈ l, Rv m (rho x.2) (rhov x.2)) →
              ∃ v m' w', (Instr.buildSlice t len (l.map fun x => (x.1, rhov x.2)).toArray).run P w = .ok v w' ∧ Post m w hp n p ⟨[], [], [B]⟩ v m' w' := by
            intro p B sz hB hpv hsz m w hp rhov hm hr
            obtain ⟨ie', zv, hie', hzv, hrz⟩ := zeroCells_rv (m := m) hz
            rw [hie] at hie'; cases hie'
            have hzl : zv.cells.size = ie.size := by rw [← Array.length_toList, hrz.length]; exact hg.2
            have hrz0 : Rvs m (repCells z len) ((Array.range (len * ie.size)).map (zv.cells[· % zv.cells.size]!)).toList := by
              rcases Nat.eq_zero_or_pos ie.size with h0 | h0
              · have hz0 : z = [] := List.length_eq_zero_iff.1 (by omega)
                subst hz0
                rw [h0, Nat.mul_zero]
                have : ∀ k, repCells [] k = [] := fun k => by induction k <;> simp_all [repCells]
                rw [this]; simpa [Array.range_zero'] using Rvs.nil
              · rw [← hzl, made_list _ _ (by omega)]
                exact repCells_rv hrz len
            obtain ⟨c, hf, hrc⟩ := fill_sound l _ cs _ hc hrz0 hr
            have hcsz : c.size = len * ie.size := by
              have e1 := hrc.length
              have e2 : ∀ (ps : List (Nat × PV)) (z0 cs0 : List PV), placeAll z0 (fun i => some (i * ie.size, ie.size)) ps = some cs0 → cs0.length = z0.length := by
                intro ps
                induction ps with
                | nil => intro z0 cs0 h; simp [placeAll] at h; rw [h]
                | cons a ps ih =>
                  intro z0 cs0 h
                  obtain ⟨i, v⟩ := a
                  simp only [placeAll] at h
                  cases hv : cells1 v with
                  | none => rw [hv] at h; simp at h
                  | some vs =>
                    rw [hv] at h; simp only [] at h
                    cases hb : (Nat.beq vs.length ie.size && Nat.ble (i * ie.size + ie.size) z0.length) with
                    | false => rw [hb] at h; simp at h
                    | true =>
                      rw [hb] at h; simp only [cond_true] at h
                      simp only [Bool.and_eq_true, Nat.beq_eq, Nat.ble_eq] at hb
                      rw [ih _ _ h, splice_len _ _ _ (by omega)]
              have e3 := e2 _ _ _ hc
              have e4 := (repCells_rv hrz len).length
              rw [show ((List.replicate len zv.cells.toList).flatten).length = len * ie.size from by simp [hzl]] at e4
              rw [← Array.length_toList, e1, e3, ← e4]
            refine ⟨_, _, _, run_buildSlice0 t el len _ c ie zv hu hie hzv (by have := hg.1; omega) hf, Post.make (c := c) hm w rfl (Fr.refl _ _) (fun i B h => by simp at h) ?_ ?_⟩
            · exact hpv _ (w.heap.size, 0, c.size) Inj.put_same rfl (by simp only [hcsz, hsz]; exact Nat.le_refl _)
            · intro q p' hq
              rw [hB] at hq
              obtain ⟨u, hu', hru⟩ := hrc.get hq
              exact ⟨u, by simpa using hu', hru⟩
          have slv : ∀ (sz : Nat) (m' : Inj) (x : Nat × Nat × Nat), m' n = some x → x.2.1 = 0 → len * sz ≤ x.2.2 → Rv m' (.sl n 0 sz len len true false) (.slice (some ⟨x.1, 0, none⟩) len len) := by
            intro sz m' x hx hb ht
            obtain ⟨b, base, tt⟩ := x
            simp only at hb ht; subst hb
            unfold Rv
            exact Or.inr ⟨rfl, b, 0, tt, len, 0, hx, rfl, Nat.le_refl _, ⟨Nat.le_refl _, hg.1.2⟩, fun _ => rfl, fun _ => by simp, by omega⟩
          cases hk : kdOf P 8 el with
          | none =>
            rw [hk] at h1; simp only [] at h1
            exact ⟨_, _, h1, main _ _ ie.size rfl (slv ie.size) rfl⟩
          | some k =>
            rw [hk] at h1; simp only [] at h1
            cases hus : unsc cs with
            | none => rw [hus] at h1; simp at h1
            | some vs =>
              rw [hus] at h1; simp only [] at h1
              cases hpa : k.parseAll len vs with
              | none => rw [hpa] at h1; simp at h1
              | some xs =>
                rw [hpa] at h1; simp only [] at h1
                obtain ⟨hks, h2⟩ := guardB_some h1
                obtain ⟨e1, e2⟩ := Kd.parseAll_eq k hpa
                refine ⟨_, _, h2, main _ _ ie.size ?_ (slv ie.size) rfl⟩
                simp only [Blk.cs]
                rw [unsc_eq hus, e1]

/-! ### Operators -/
theorem evArith_sound {op : BinOp} {k : IntKind} {a b : Int} {t : TypeId} {K : PV → Option R} {r : R} (h : evArith op k a b K = some r) (h1 : op ≠ .shl) (h2 : op ≠ .shr) :
    ∃ v, K (.sc v) = some r ∧ ∀ w, (binOp op t (.int k a) (.int k b)).run P w = .ok v w := by
  cases op <;> simp only [evArith] at h <;> first
    | contradiction
    | exact ⟨_, h, fun w => by simp [binOp, Op.intArith, Op.intBits, Op.intCmp]⟩
    | (obtain ⟨hb, h'⟩ := guardB_some h
       simp only [Bool.not_eq_true', decide_eq_false_iff_not] at hb
       exact ⟨_, h', fun w => by simp [binOp, Op.intDiv, hb]⟩)
theorem str_eq (a b : ByteArray) : (a.toList == b.toList) = decide (a = b) := by
  rw [Bool.eq_iff_iff, decide_eq_true_eq, beq_iff_eq, ByteArray.toList_eq, ByteArray.toList_eq]
  constructor
  · intro h
    obtain ⟨⟨l⟩⟩ := a
    obtain ⟨⟨l'⟩⟩ := b
    simp at h; rw [h]
  · intro h; rw [h]
theorem str_eqd (a b : ByteArray) : (a.data.toList == b.data.toList) = decide (a = b) := by
  rw [← ByteArray.toList_eq, ← ByteArray.toList_eq]; exact str_eq a b
theorem evStrOp_sound {op : BinOp} {a b : ByteArray} {t : TypeId} {K : PV → Option R} {r : R} (h : evStrOp op a b K = some r) :
    ∃ v, K (.sc v) = some r ∧ ∀ w, (binOp op t (.string a) (.string b)).run P w = .ok v w := by
  cases op <;> simp only [evStrOp] at h <;> first
    | contradiction
    | (obtain ⟨hb, h'⟩ := guardB_some h
       have hb := Nat.le_of_ble_eq_true hb
       refine ⟨_, h', fun w => ?_⟩
       simp only [binOp, Op.stringOp, show IntKind.i64.max = 9223372036854775807 by decide]
       rw [if_neg (by omega)]; rfl)
    | exact ⟨_, h, fun w => by simp only [binOp, Op.stringOp, ByteArray.toList_eq, str_eqd]; rfl⟩
end
end Go.Proofs.YtokephobkllfgaaDoorEv
