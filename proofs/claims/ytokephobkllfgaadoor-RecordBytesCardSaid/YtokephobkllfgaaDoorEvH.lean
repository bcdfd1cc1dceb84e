/- What is proved here: the evaluator's comparisons, conversions, slices, make and append say what the machine's own do. No condition. -/
import Derived.Test.YtokephobkllfgaaDoorEvG
namespace Go.Proofs.YtokephobkllfgaaDoorEv
open Go
section
variable {P : Program} {m : Inj} {w : World} {R : Type} {n : Nat} {hp : Nat → Option Blk}

theorem run_part_vals {t : TypeId} {us : List Value} {off k : Nat} (hs : sizeT P t = some k) {d : TypeDesc} (hd : P.underlying t = some d) :
    (aggT P t = true → (part t us.toArray off).run P w = .ok (.agg ((us.drop off).take k).toArray) w) ∧ (aggT P t = false → ∀ u, (us.drop off).take k = [u] → (part t us.toArray off).run P w = .ok u w) := by
  constructor
  · intro ha
    simp [part, run_isAgg hd, ha, run_sizeOf hs]
  · intro ha u hu
    have h0 : us[off]? = some u := by
      have := congrArg (·[0]?) hu
      simp only [List.getElem?_take, List.getElem?_drop, Nat.add_zero, List.getElem?_cons_zero] at this
      split at this
      · exact this
      · cases this
    simp [part, run_isAgg hd, ha, h0]

theorem eqCells_sound : ∀ (d : Nat) {t : TypeId} {xs ys : List Value} {b : Bool}, eqCells P d t xs ys = some b → ∀ (d' : Nat), d ≤ d' →
    (aggT P t = true → (Op.equalIn (d' + 1) t (.agg xs.toArray) (.agg ys.toArray)).run P w = .ok b w) ∧ (aggT P t = false → ∃ u v, xs = [u] ∧ ys = [v] ∧ (Op.equalIn (d' + 1) t u v).run P w = .ok b w)
  | 0, _, _, _, _, h => by simp [eqCells] at h
  | d + 1, t, xs, ys, b, h => by
    intro d' hd'
    unfold eqCells at h
    cases hu : P.underlying t with
    | none => rw [hu] at h; simp at h
    | some ds =>
      rw [hu] at h
      cases ds <;> (try simp only [] at h) <;> (try contradiction)
      · refine ⟨fun ha => by simp [aggT, hu] at ha, fun _ => ?_⟩
        match xs, ys, h with
        | [.bool a], [.bool b'], h => simp at h; subst h; exact ⟨_, _, rfl, rfl, run_equalIn_bool w _ t _ _ hu⟩
      · rename_i k
        refine ⟨fun ha => by simp [aggT, hu] at ha, fun _ => ?_⟩
        match xs, ys, h with
        | [.int i a], [.int j b'], h =>
          simp only [] at h
          cases hk : (decide (i = k) && decide (j = k)) with
          | false => rw [hk] at h; simp at h
          | true =>
            rw [hk] at h; simp at h; subst h
            simp only [Bool.and_eq_true, decide_eq_true_eq] at hk
            obtain ⟨rfl, rfl⟩ := hk
            exact ⟨_, _, rfl, rfl, run_equalIn_int w _ t _ _ _ _ hu⟩
      · refine ⟨fun ha => by simp [aggT, hu] at ha, fun _ => ?_⟩
        match xs, ys, h with
        | [.string a], [.string b'], h => simp at h; subst h; exact ⟨_, _, rfl, rfl, (run_equalIn_string w _ t _ _ hu).trans (by rw [str_eq])⟩
      · rename_i fs
        refine ⟨fun _ => ?_, fun ha => by simp [aggT, hu] at ha⟩
        cases hst : P.stoodInHeld t with
        | true => rw [hst] at h; simp at h
        | false =>
          rw [hst] at h; simp only [cond_false] at h
          have hfo : P.fieldsOf t = fs := by simp [Program.fieldsOf, hu]
          rw [run_equalIn_struct w d' t _ _ (by rw [hfo]; exact hu) hst, hfo]
          generalize fs.toList = l at h
          clear hu hfo hst
          induction l generalizing b with
          | nil => simp [eqCells.flds] at h; subst h; simp [Op.eqFields]
          | cons f l ih =>
            simp only [eqCells.flds] at h
            simp only [Op.eqFields]
            cases hn : decide (f.name = "_") with
            | true =>
              rw [hn] at h; simp only [cond_true] at h
              rw [if_neg (by simpa using hn)]
              exact ih _ h
            | false =>
              rw [hn] at h; simp only [cond_false] at h
              rw [if_pos (by simpa using hn)]
              cases hs : sizeT P f.type with
              | none => rw [hs] at h; simp at h
              | some k =>
                simp only [hs] at h
                cases hb : (Nat.beq ((xs.drop f.offset).take k).length k && Nat.beq ((ys.drop f.offset).take k).length k && Nat.beq k k) with
                | false => rw [hb] at h; simp at h
                | true =>
                  rw [hb] at h; simp only [cond_true] at h
                  cases he : eqCells P d f.type ((xs.drop f.offset).take k) ((ys.drop f.offset).take k) with
                  | none => rw [he] at h; simp at h
                  | some c1 =>
                    rw [he] at h
                    split at h
                    · rename_i c2 c3 hc2 hc3
                      cases hc2
                      simp at h; subst h
                      have hih := ih _ hc3
                      obtain ⟨d0, hd0⟩ : ∃ q, d' = q + 1 := ⟨d' - 1, by omega⟩
                      obtain ⟨h1, h2⟩ := eqCells_sound d he d0 (by omega)
                      obtain ⟨df, hdf⟩ : ∃ df, P.underlying f.type = some df := by
                        cases d with
                        | zero => simp [eqCells] at he
                        | succ d =>
                          unfold eqCells at he
                          cases hq : P.underlying f.type with
                          | none => rw [hq] at he; simp at he
                          | some df => exact ⟨df, rfl⟩
                      have hrun : ∃ x y, (part f.type xs.toArray f.offset).run P w = .ok x w ∧ (part f.type ys.toArray f.offset).run P w = .ok y w ∧ (Op.equalIn d' f.type x y).run P w = .ok c1 w := by
                        rw [hd0]
                        cases ha : aggT P f.type with
                        | true => exact ⟨_, _, (run_part_vals hs hdf).1 ha, (run_part_vals hs hdf).1 ha, h1 ha⟩
                        | false =>
                          obtain ⟨u, v, e1, e2, h3⟩ := h2 ha
                          exact ⟨u, v, (run_part_vals hs hdf).2 ha u e1, (run_part_vals hs hdf).2 ha v e2, h3⟩
                      obtain ⟨x, y, p1, p2, p3⟩ := hrun
                      simp only [Sem.run_bind, p1, p2, p3, Result.andThen_ok]
                      cases c1 with
                      | false => simp
                      | true => simpa using hih
                    · simp at h
end
section
variable {P : Program} {m : Inj} {w : World} {R : Type} {n : Nat}
theorem pointee_of {t : TypeId} {e : TypeId} (h : P.underlying t = some (.pointer e)) : P.underlying t = some (.pointer (P.pointee t)) := by
  simp [Program.pointee, h]
theorem run_equal_nilL {t e : TypeId} (h : P.underlying t = some (.pointer e)) (p : Option Addr) : (Op.equal t (.pointer none) (.pointer p)).run P w = .ok p.isNone w := by
  have : ∀ d, (Op.equalIn (d + 1) t (.pointer none) (.pointer p)).run P w = .ok p.isNone w := fun d => by simp [Op.equalIn, run_underlying h]
  exact this 9999
theorem run_equal_nilS {t e : TypeId} (h : P.underlying t = some (.slice e)) (p : Option Addr) (l c l' c' : Nat) : (Op.equal t (.slice p l c) (.slice none l' c')).run P w = .ok p.isNone w := by
  have : ∀ d, (Op.equalIn (d + 1) t (.slice p l c) (.slice none l' c')).run P w = .ok p.isNone w := fun d => by cases p <;> simp [Op.equalIn, run_underlying h]
  exact this 9999
theorem evEq_sound {t : TypeId} {x y : PV} {b : Bool} {xv yv : Value} (h : evEq P t x y = some b) (hx : Rv m x xv) (hy : Rv m y yv) (ox oy : Operand) :
    (do eqGuard .eql t ox oy xv yv; binOp .eql t xv yv).run P w = .ok (.bool b) w ∧ (do eqGuard .neq t ox oy xv yv; binOp .neq t xv yv).run P w = .ok (.bool (!b)) w := by
  unfold evEq at h
  split at h
  · rename_i a c
    rw [Rv_sc.1 hx, Rv_sc.1 hy]
    split at h
    · rename_i hu
      simp at h; subst h
      simp [eqGuard_at_bool, run_eql_bool w t a c hu, run_neq_bool w t a c hu]
    · cases h
  · rename_i xs ys
    cases hg : P.eqGuardType P.depth t with
    | true => rw [hg] at h; simp at h
    | false =>
      rw [hg] at h; simp only [cond_false] at h
      cases hus : unsc xs with
      | none => rw [hus] at h; simp at h
      | some us =>
        cases hvs : unsc ys with
        | none => rw [hus, hvs] at h; simp at h
        | some vs =>
          rw [hus, hvs] at h; simp only [] at h
          unfold Rv at hx hy
          obtain ⟨us', rfl, hr1⟩ := hx
          obtain ⟨vs', rfl, hr2⟩ := hy
          rw [unsc_rv hus hr1, unsc_rv hvs hr2]
          split at h
          · rename_i fs hu
            have ha : aggT P t = true := by simp [aggT, hu]
            have h1 := (eqCells_sound (w := w) 10 h 9999 (by omega)).1 ha
            simp [run_eqGuard_agg w _ t ox oy _ _ hg, run_eql_struct, run_neq_struct, h1]
          · cases h
  · rw [Rv_sc.1 hx, Rv_sc.1 hy]
    split at h
    · rename_i hu
      simp at h; subst h
      have := pointee_of hu
      simp [eqGuard_at_pointer, run_eql_pointer_nil w t none this, run_neq_pointer_nil w t none this]
    · cases h
  · rw [Rv_sc.1 hy]
    unfold Rv at hx
    obtain ⟨b', base, tt, hm, rfl⟩ := hx
    split at h
    · rename_i hu
      simp at h; subst h
      have := pointee_of hu
      simp [eqGuard_at_pointer, run_eql_pointer_nil w t _ this, run_neq_pointer_nil w t _ this]
    · cases h
  · rw [Rv_sc.1 hx]
    unfold Rv at hy
    obtain ⟨b', base, tt, hm, rfl⟩ := hy
    split at h
    · rename_i hu
      simp at h; subst h
      simp [eqGuard_at_pointer, binOp, run_equal_nilL hu]
    · cases h
  · rw [Rv_sc.1 hx, Rv_sc.1 hy]
    split at h
    · rename_i hu
      simp at h; subst h
      simp [eqGuard_at_slice, binOp, run_equal_nilS hu]
    · cases h
  · rw [Rv_sc.1 hy]
    unfold Rv at hx
    split at h
    · rename_i hu
      simp at h; subst h
      rcases hx with ⟨_, _, a, rfl, rfl⟩ | ⟨rfl, b', base, tt, cap, off, _, rfl, _⟩
      · cases a <;> simp [eqGuard_at_slice, binOp, run_equal_nilS hu]
      · simp [eqGuard_at_slice, binOp, run_equal_nilS hu]
    · cases h
  · cases h

theorem eqGuard_at_float {op : BinOp} {t : TypeId} {ox oy : Operand} {k k' : FloatKind} {a b : Nat} : eqGuard op t ox oy (.float k a) (.float k' b) = pure () := by
  unfold eqGuard
  cases op <;> rfl
theorem run_float_cmp {P : Program} {op : BinOp} {t : TypeId} {k : FloatKind} {a b : Nat} {c : Bool} (h : fltCmp op k a b = some c) (w : World) : (binOp op t (.float k a) (.float k b)).run P w = .ok (.bool c) w := by
  unfold fltCmp at h
  split at h <;> first | (cases h; done) | skip
  all_goals
    cases h
    simp [binOp, Op.floatCmp]
theorem evFlt_sound {P : Program} {op : BinOp} {t : TypeId} {k : FloatKind} {a b : Nat} {K : PV → Option R} {r : R} (h : evFlt op k a b K = some r) : ∃ v, K (.sc v) = some r ∧ ∀ w, (binOp op t (.float k a) (.float k b)).run P w = .ok v w := by
  unfold evFlt at h
  split at h
  iterate 4
    · obtain ⟨q, hq, h'⟩ := bindO_some h
      exact ⟨_, h', fun w => run_float_arith w _ t k a b q hq⟩
  · obtain ⟨c, hc, h'⟩ := bindO_some h
    exact ⟨_, h', fun w => run_float_cmp hc w⟩
theorem evBin_sound {op : BinOp} {t : TypeId} {x y : PV} {K : PV → Option R} {r : R} (h : evBin P op t x y K = some r) :
    ∃ p, K p = some r ∧ ∀ m w xv yv, Rv m x xv → Rv m y yv → ∀ ox oy, ∃ v, (do eqGuard op t ox oy xv yv; binOp op t xv yv).run P w = .ok v w ∧ Rv m p v := by
  unfold evBin at h
  split at h
  · rename_i k a k' b
    obtain ⟨hk, h'⟩ := guardB_some h
    simp only [decide_eq_true_eq] at hk
    subst hk
    obtain ⟨v, hv, hr⟩ := evFlt_sound (P := P) (t := t) h'
    refine ⟨.sc v, hv, fun m w xv yv hx hy ox oy => ⟨v, ?_, Rv_sc.2 rfl⟩⟩
    rw [Rv_sc.1 hx, Rv_sc.1 hy]
    simp [eqGuard_at_float, hr]
  · rename_i k a k' b
    have fin : ∀ v : Value, K (.sc v) = some r → (∀ w, (binOp op t (.int k a) (.int k' b)).run P w = .ok v w) → ∃ p, K p = some r ∧ ∀ m w xv yv, Rv m (.sc (.int k a)) xv → Rv m (.sc (.int k' b)) yv → ∀ ox oy, ∃ v, (do eqGuard op t ox oy xv yv; binOp op t xv yv).run P w = .ok v w ∧ Rv m p v := by
      intro v hv hr
      refine ⟨.sc v, hv, fun m w xv yv hx hy ox oy => ⟨v, ?_, Rv_sc.2 rfl⟩⟩
      rw [Rv_sc.1 hx, Rv_sc.1 hy]
      simp [eqGuard_at_int, hr]
    split at h
    · obtain ⟨hb, h'⟩ := guardB_some h
      simp only [decide_eq_true_eq] at hb
      exact fin _ h' (fun w => by simp [binOp, Op.shift, Int.not_lt.2 hb])
    · obtain ⟨hb, h'⟩ := guardB_some h
      simp only [decide_eq_true_eq] at hb
      exact fin _ h' (fun w => by simp [binOp, Op.shift, Int.not_lt.2 hb])
    · rename_i h1 h2
      obtain ⟨hk, h'⟩ := guardB_some h
      simp only [decide_eq_true_eq] at hk
      subst hk
      obtain ⟨v, hv, hr⟩ := evArith_sound (P := P) (t := t) h' (fun e => h1 e) (fun e => h2 e)
      exact fin v hv hr
  · rename_i a b
    obtain ⟨v, hv, hr⟩ := evStrOp_sound (P := P) (t := t) h
    refine ⟨.sc v, hv, fun m w xv yv hx hy ox oy => ⟨v, ?_, Rv_sc.2 rfl⟩⟩
    rw [Rv_sc.1 hx, Rv_sc.1 hy]
    simp [eqGuard_at_string, hr]
  · split at h
    · obtain ⟨b, hb, h'⟩ := bindO_some h
      exact ⟨_, h', fun m w xv yv hx hy ox oy => ⟨_, (evEq_sound hb hx hy ox oy).1, Rv_sc.2 rfl⟩⟩
    · obtain ⟨b, hb, h'⟩ := bindO_some h
      exact ⟨_, h', fun m w xv yv hx hy ox oy => ⟨_, (evEq_sound hb hx hy ox oy).2, Rv_sc.2 rfl⟩⟩
    · cases h

theorem evUn_sound {op : UnOp} {x : PV} {K : PV → Option R} {r : R} (h : evUn op x K = some r) :
    ∃ p, K p = some r ∧ ∀ m w xv, Rv m x xv → ∃ v, (Op.unary op xv).run P w = .ok v w ∧ Rv m p v := by
  unfold evUn at h
  split at h
  · exact ⟨_, h, fun m w xv hx => ⟨_, by rw [Rv_sc.1 hx]; simp [Op.unary, Op.intArith], Rv_sc.2 rfl⟩⟩
  · exact ⟨_, h, fun m w xv hx => ⟨_, by rw [Rv_sc.1 hx]; simp [Op.unary], Rv_sc.2 rfl⟩⟩
  · exact ⟨_, h, fun m w xv hx => ⟨_, by rw [Rv_sc.1 hx]; simp [Op.unary], Rv_sc.2 rfl⟩⟩
  · cases h
theorem evConvert_sound {s d : TypeId} {x : PV} {K : PV → Option R} {r : R} (h : evConvert P s d x K = some r) :
    ∃ p, K p = some r ∧ ∀ m w xv, Rv m x xv → ∃ v, (convert s d xv).run P w = .ok v w ∧ Rv m p v := by
  unfold evConvert at h
  split at h
  · rename_i k0 k k1 q h1 h2
    exact ⟨_, h, fun m w xv hx => ⟨_, by rw [Rv_sc.1 hx]; simp [convert, run_underlying h1, run_underlying h2, Conv.intToInt], Rv_sc.2 rfl⟩⟩
  · rename_i s0 h1 h2
    exact ⟨_, h, fun m w xv hx => ⟨_, by rw [Rv_sc.1 hx]; simp [convert, run_underlying h1, run_underlying h2], Rv_sc.2 rfl⟩⟩
  · rename_i k0 k k1 q h1 h2
    exact ⟨_, h, fun m w xv hx => ⟨_, by rw [Rv_sc.1 hx]; simp [convert, run_underlying h1, run_underlying h2, Conv.intToFloat], Rv_sc.2 rfl⟩⟩
  · rename_i k0 k k1 q h1 h2
    obtain ⟨n, hn, hk⟩ := bindO_some h
    exact ⟨_, hk, fun m w xv hx => ⟨_, by rw [Rv_sc.1 hx]; exact run_convert_float_int w s d k1 k q n (by rw [h1]; rfl) h2 hn, Rv_sc.2 rfl⟩⟩
  · cases h
theorem evPick_sound {c a b : PV} {K : PV → Option R} {r : R} (h : evPick c a b K = some r) :
    ∃ p, K p = some r ∧ ∀ m w cv av bv, Rv m c cv → Rv m a av → Rv m b bv → ∃ v, ((do pure (if ← asBool cv then av else bv)) : Sem Value).run P w = .ok v w ∧ Rv m p v := by
  unfold evPick at h
  split at h
  · rename_i c0 x y
    refine ⟨_, h, fun m w cv av bv hc ha hb => ?_⟩
    obtain rfl := Rv_sc.1 hc
    obtain rfl := Rv_sc.1 ha
    obtain rfl := Rv_sc.1 hb
    cases c0
    · exact ⟨_, by simp [asBool], Rv_sc.2 rfl⟩
    · exact ⟨_, by simp [asBool], Rv_sc.2 rfl⟩
  · rename_i c0 _
    cases c0 with
    | true =>
      refine ⟨_, h, fun m w cv av bv hc ha hb => ⟨av, ?_, ha⟩⟩
      obtain rfl := Rv_sc.1 hc
      simp [asBool]
    | false =>
      refine ⟨_, h, fun m w cv av bv hc ha hb => ⟨bv, ?_, hb⟩⟩
      obtain rfl := Rv_sc.1 hc
      simp [asBool]
  · cases h
end
end Go.Proofs.YtokephobkllfgaaDoorEv
