/- What is proved here: slice expressions, make, append, len and min/max of the evaluator say what the machine's own do. No condition. -/
import Derived.Test.YtokephobkllfgaaDoorEvH
import Derived.Test.YtokephobkllfgaaDoorEvE
namespace Go.Proofs.YtokephobkllfgaaDoorEv
open Go
set_option linter.unusedSimpArgs false
section
variable {P : Program} {m : Inj} {w : World} {R : Type} {n : Nat} {hp : Nat → Option Blk}

theorem elem_of {t e : TypeId} (h : P.underlying t = some (.slice e)) : P.elem t = e := by simp [Program.elem, h]

/-- The bounds of a slice expression. -/
theorem run_bounds {isS : Bool} {len cap : Nat} {lo hi mx : Option Value} {l h : Int} {c : Nat}
    (hl : (lo = none ∧ l = 0) ∨ ∃ k, lo = some (.int k l)) (hh : (hi = none ∧ h = (len : Int) ∧ mx = none) ∨ ∃ k, hi = some (.int k h)) (hm : (mx = none ∧ c = cap) ∨ ∃ k, mx = some (.int k (c : Int)))
    (h0 : 0 ≤ l) (h1 : l ≤ h) (h2 : h ≤ (c : Int)) (h3 : c ≤ cap) :
    (Instr.sliceBounds isS len cap lo hi mx).run P w = .ok (l.toNat, h.toNat, c) w := by
  have hh0 : 0 ≤ h := by omega
  have e1 : ((h.toNat : Nat) : Int) = h := Int.toNat_of_nonneg hh0
  have hc0 : (0 : Int) ≤ (c : Int) := by omega
  have h3' : (c : Int) ≤ (cap : Int) := by omega
  have hB : ∀ (k : IntKind) (i : Int) (y : Nat) (code : BoundsCode), 0 ≤ i → i ≤ (y : Int) → (Instr.sliceBound (.int k i) y code).run P w = .ok i.toNat w := fun k i y code a b => by
    simp [Instr.sliceBound, asIntOf, a, b]
  rcases hl with ⟨rfl, rfl⟩ | ⟨kl, rfl⟩ <;> rcases hm with ⟨rfl, rfl⟩ | ⟨km, rfl⟩ <;> rcases hh with ⟨rfl, rfl, hx⟩ | ⟨kh, rfl⟩ <;>
    first
      | (cases hx; done)
      | (simp only [Instr.sliceBounds, Sem.run_bind, Sem.run_pure, Result.andThen_ok, hB _ _ _ _ hc0 h3', Int.toNat_natCast, Int.toNat_zero]
         done)
      | (simp only [Instr.sliceBounds, Sem.run_bind, Sem.run_pure, Result.andThen_ok, hB _ _ _ _ hc0 h3', Int.toNat_natCast, Int.toNat_zero]
         rw [hB _ _ _ _ h0 (by omega)]; done)
      | (simp only [Instr.sliceBounds, Sem.run_bind, Sem.run_pure, Result.andThen_ok, hB _ _ _ _ hc0 h3', Int.toNat_natCast, Int.toNat_zero]
         rw [hB _ _ _ _ hh0 (by omega)]; simp only [Result.andThen_ok]; done)
      | (simp only [Instr.sliceBounds, Sem.run_bind, Sem.run_pure, Result.andThen_ok, hB _ _ _ _ hc0 h3', Int.toNat_natCast, Int.toNat_zero]
         rw [hB _ _ _ _ hh0 (by omega)]; simp only [Result.andThen_ok]; rw [hB _ _ _ _ h0 (by omega)]; simp only [Result.andThen_ok]; done)
      | (simp only [Instr.sliceBounds, Sem.run_bind, Sem.run_pure, Result.andThen_ok, hB _ _ _ _ hc0 h3', Int.toNat_natCast, Int.toNat_zero]
         rw [hB _ _ _ _ h0 (by omega)]; simp only [Result.andThen_ok]; done)

theorem num_some {d : Int} {o : Option PV} {K : Int → Option R} {r : R} (h : numO d o K = some r) :
    ∃ q, K q = some r ∧ ∀ (m : Inj) (ov : Option Value), (∀ p, o = some p → ∃ v, ov = some v ∧ Rv m p v) → (o = none → ov = none) → (o = none ∧ ov = none ∧ q = d) ∨ ∃ k, ov = some (.int k q) := by
  unfold numO at h
  split at h
  · exact ⟨_, h, fun m ov _ h2 => Or.inl ⟨rfl, h2 rfl, rfl⟩⟩
  · rename_i k q
    refine ⟨q, h, fun m ov h1 _ => Or.inr ?_⟩
    obtain ⟨v, hv, hr⟩ := h1 _ rfl
    exact ⟨_, by rw [hv, Rv_sc.1 hr]⟩
  · cases h

def OptRv (m : Inj) (o : Option PV) (ov : Option Value) : Prop := (∀ p, o = some p → ∃ v, ov = some v ∧ Rv m p v) ∧ (o = none → ov = none)

theorem evSlice_sound {t : TypeId} {x : PV} {low high max : Option PV} {K : PV → Option R} {r : R} (h : evSlice P t x low high max K = some r) :
    ∃ p, K p = some r ∧ ∀ m w xv lv hv mv, Rv m x xv → OptRv m low lv → OptRv m high hv → OptRv m max mv → ∃ v, (Instr.sliceAt t xv lv hv mv).run P w = .ok v w ∧ Rv m p v := by
  unfold evSlice at h
  split at h
  · rename_i el i e sz len lo full nl hu
    obtain ⟨hsz0, hA0⟩ := guardB_some h
    clear h
    have hsz : sizeT P el = some sz := by
      split at hsz0
      · rename_i s hs; rw [hs, Nat.eq_of_beq_eq_true hsz0]
      · cases hsz0
    clear hsz0
    obtain ⟨l, hA, Hl⟩ := num_some hA0
    clear hA0
    obtain ⟨q, hB0, Hh⟩ := num_some hA
    clear hA
    have hue := elem_of hu
    have key : ∀ (c : Nat) (full' : Bool), 0 ≤ l → l ≤ q → q ≤ (c : Int) → c ≤ lo → ∀ m w xv lv hv mv, Rv m (.sl i e sz len lo full nl) xv → OptRv m low lv → OptRv m high hv → (mv ≠ none → hv ≠ none) →
        (∀ cap, lo ≤ cap → (full = true → cap = len) → ∃ cc, ((mv = none ∧ cc = cap) ∨ ∃ k, mv = some (.int k (cc : Int))) ∧ c ≤ cc ∧ cc ≤ cap ∧ (full' = true → cc = q.toNat)) →
        (lo = 0 → (mv = none ∨ ∃ k, mv = some (.int k 0))) →
        ∃ v, (Instr.sliceAt t xv lv hv mv).run P w = .ok v w ∧ Rv m (.sl i (e + l.toNat) sz (q.toNat - l.toNat) (c - l.toNat) full' nl) v := by
      intro c full' h0 h1 h2 hclo m w xv lv hv mv hx hl hh hmh hcap hnl
      rw [run_sliceAt_slice w t _ _ _ _ (by rw [hue]; exact hu)]
      have bl : (lv = none ∧ l = 0) ∨ ∃ k, lv = some (.int k l) := by
        rcases Hl m lv hl.1 hl.2 with ⟨_, a, b⟩ | b
        · exact Or.inl ⟨a, b⟩
        · exact Or.inr b
      unfold Rv at hx
      rcases hx with ⟨rfl, rfl, a, rfl, hnl1⟩ | ⟨hnl0, b, base, tt, cap, off, hm, rfl, hl1, hl2, hfull, hoff, htot⟩
      · have hc : c = 0 := by omega
        subst hc
        have hq0 : q = 0 := by omega
        have hl0 : l = 0 := by omega
        subst hq0; subst hl0
        have bm : (mv = none ∧ (0 : Nat) = 0) ∨ ∃ k, mv = some (.int k ((0 : Nat) : Int)) := by
          rcases hnl rfl with a | ⟨k, a⟩
          · exact Or.inl ⟨a, rfl⟩
          · exact Or.inr ⟨k, by rw [a]; rfl⟩
        have bh : (hv = none ∧ (0 : Int) = ((0 : Nat) : Int) ∧ mv = none) ∨ ∃ k, hv = some (.int k 0) := by
          rcases Hh m hv hh.1 hh.2 with ⟨_, a, _⟩ | b
          · left
            refine ⟨a, rfl, ?_⟩
            cases mv with
            | none => rfl
            | some _ => exact absurd a (hmh (by simp))
          · exact Or.inr b
        have hb := run_bounds (P := P) (w := w) (isS := true) (len := 0) (cap := 0) bl bh bm (Int.le_refl _) (Int.le_refl _) (by omega) (Nat.le_refl _)
        refine ⟨.slice a 0 0, ?_, ?_⟩
        · rw [run_slice_any w t a 0 0 (by rw [hue]; exact hu), hb, hue]
          simp [run_sizeOf hsz, sliced]
        · unfold Rv; exact Or.inl ⟨by simp, by simp, a, rfl, hnl1⟩
      · obtain ⟨cc, bm, hcc, hccap, hfl⟩ := hcap cap hl2.1 hfull
        have bh : (hv = none ∧ q = (len : Int) ∧ mv = none) ∨ ∃ k, hv = some (.int k q) := by
          rcases Hh m hv hh.1 hh.2 with ⟨_, a, c0⟩ | b
          · left
            refine ⟨a, c0, ?_⟩
            cases mv with
            | none => rfl
            | some _ => exact absurd a (hmh (by simp))
          · exact Or.inr b
        have hb := run_bounds (P := P) (w := w) (isS := true) (len := len) (cap := cap) bl bh bm h0 h1 (by omega) hccap
        refine ⟨_, by rw [run_slice_any w t _ len cap (by rw [hue]; exact hu), hb, hue]; simp only [Result.andThen_ok, run_sizeOf hsz]; rfl, ?_⟩
        unfold sliced
        by_cases hml : cc = l.toNat
        · rw [if_pos hml]
          unfold Rv
          refine Or.inr ⟨hnl0, b, base, tt, cc - l.toNat, off, hm, rfl, by omega, by omega, fun hf => by have := hfl hf; omega, fun h => by omega, ?_⟩
          have : (cc - l.toNat) * sz = 0 := by rw [hml]; simp
          have : 0 ≤ cap * sz := Nat.zero_le _
          omega
        · rw [if_neg hml]
          have hc0 : 0 < cap := by omega
          unfold Rv
          refine Or.inr ⟨hnl0, b, base, tt, cc - l.toNat, off + l.toNat * sz, hm, by simp [Addr.add_lit], by omega, by omega, fun hf => by have := hfl hf; omega, fun _ => by rw [hoff hc0, Nat.add_mul]; omega, ?_⟩
          have e1 : l.toNat * sz + (cc - l.toNat) * sz = cc * sz := by rw [← Nat.add_mul]; congr 1; omega
          have e2 : cc * sz ≤ cap * sz := Nat.mul_le_mul_right _ hccap
          omega
    split at hB0
    · obtain ⟨hg, hC⟩ := guardB_some hB0
      simp only [Bool.and_eq_true, decide_eq_true_eq] at hg
      refine ⟨_, hC, fun m w xv lv hv mv hx hl hh hm => ?_⟩
      have hmv : mv = none := hm.2 rfl
      subst hmv
      refine key lo _ hg.1.1 hg.1.2 hg.2 (Nat.le_refl _) m w xv lv hv none hx hl hh (fun h => absurd rfl h) (fun cap h1 h2 => ⟨cap, Or.inl ⟨rfl, rfl⟩, h1, Nat.le_refl _, fun hf => ?_⟩) (fun _ => Or.inl rfl)
      simp only [Bool.and_eq_true, decide_eq_true_eq] at hf
      rw [h2 hf.1, hf.2]; rfl
    · rename_i km mm
      obtain ⟨hg, hC⟩ := guardB_some hB0
      simp only [Bool.and_eq_true, decide_eq_true_eq] at hg
      obtain ⟨⟨⟨⟨g1, g2⟩, g3⟩, g4⟩, g5⟩ := hg
      refine ⟨_, hC, fun m w xv lv hv mv hx hl hh hm => ?_⟩
      obtain ⟨v, hv1, hv2⟩ := hm.1 _ rfl
      obtain rfl := Rv_sc.1 hv2
      subst hv1
      have hmn : ((mm.toNat : Nat) : Int) = mm := Int.toNat_of_nonneg (by omega)
      refine key mm.toNat _ g2 g3 (by omega) (by omega) m w xv lv hv _ hx hl hh (fun _ hn => ?_) (fun cap h1 h2 => ⟨mm.toNat, Or.inr ⟨km, by rw [hmn]⟩, Nat.le_refl _, by omega, fun hf => ?_⟩) (fun h0 => Or.inr ⟨km, ?_⟩)
      · obtain ⟨p, hp⟩ := Option.isSome_iff_exists.1 g1
        obtain ⟨v, hv1, _⟩ := hh.1 p hp
        rw [hv1] at hn; cases hn
      · simp only [decide_eq_true_eq] at hf; rw [hf]
      · have : mm = 0 := by omega
        rw [this]
    · cases hB0
  · rename_i el hu
    obtain ⟨hsz0, hA0⟩ := guardB_some h
    clear h
    obtain ⟨sz, hsz⟩ := Option.isSome_iff_exists.1 hsz0
    obtain ⟨l, hA, Hl⟩ := num_some hA0
    clear hA0
    obtain ⟨q, hB0, Hh⟩ := num_some hA
    clear hA
    have hue := elem_of hu
    have key : l = 0 → q = 0 → ∀ m w xv lv hv mv, Rv m (.sc (.slice none 0 0)) xv → OptRv m low lv → OptRv m high hv → (mv ≠ none → hv ≠ none) → (mv = none ∨ ∃ k, mv = some (.int k 0)) →
        ∃ v, (Instr.sliceAt t xv lv hv mv).run P w = .ok v w ∧ Rv m (.sc (.slice none 0 0)) v := by
      intro h0 h1 m w xv lv hv mv hx hl hh hmh hmz
      subst h0; subst h1
      obtain rfl := Rv_sc.1 hx
      rw [run_sliceAt_slice w t _ _ _ _ (by rw [hue]; exact hu)]
      have bl : (lv = none ∧ (0 : Int) = 0) ∨ ∃ k, lv = some (.int k 0) := by
        rcases Hl m lv hl.1 hl.2 with ⟨_, a, b⟩ | b
        · exact Or.inl ⟨a, rfl⟩
        · exact Or.inr b
      have bm : (mv = none ∧ (0 : Nat) = 0) ∨ ∃ k, mv = some (.int k ((0 : Nat) : Int)) := by
        rcases hmz with a | ⟨k, a⟩
        · exact Or.inl ⟨a, rfl⟩
        · exact Or.inr ⟨k, by rw [a]; rfl⟩
      have bh : (hv = none ∧ (0 : Int) = ((0 : Nat) : Int) ∧ mv = none) ∨ ∃ k, hv = some (.int k 0) := by
        rcases Hh m hv hh.1 hh.2 with ⟨_, a, _⟩ | b
        · left
          refine ⟨a, rfl, ?_⟩
          cases mv with
          | none => rfl
          | some _ => exact absurd a (hmh (by simp))
        · exact Or.inr b
      have hb := run_bounds (P := P) (w := w) (isS := true) (len := 0) (cap := 0) bl bh bm (Int.le_refl _) (Int.le_refl _) (by omega) (Nat.le_refl _)
      refine ⟨.slice none 0 0, ?_, Rv_sc.2 rfl⟩
      rw [run_slice_any w t none 0 0 (by rw [hue]; exact hu), hb, hue]
      simp [run_sizeOf hsz, sliced]
    split at hB0
    · obtain ⟨hg, hC⟩ := guardB_some hB0
      simp only [Bool.and_eq_true, decide_eq_true_eq] at hg
      refine ⟨_, hC, fun m w xv lv hv mv hx hl hh hm => ?_⟩
      have hmv : mv = none := hm.2 rfl
      subst hmv
      exact key hg.1 hg.2 m w xv lv hv none hx hl hh (fun h => absurd rfl h) (Or.inl rfl)
    · rename_i km mm
      obtain ⟨hg, hC⟩ := guardB_some hB0
      simp only [Bool.and_eq_true, decide_eq_true_eq] at hg
      obtain ⟨⟨⟨g1, g2⟩, g3⟩, g4⟩ := hg
      subst g4
      refine ⟨_, hC, fun m w xv lv hv mv hx hl hh hm => ?_⟩
      obtain ⟨v, hv1, hv2⟩ := hm.1 _ rfl
      obtain rfl := Rv_sc.1 hv2
      subst hv1
      refine key g2 g3 m w xv lv hv _ hx hl hh (fun _ hn => ?_) (Or.inr ⟨km, rfl⟩)
      obtain ⟨p, hp⟩ := Option.isSome_iff_exists.1 g1
      obtain ⟨v, hv1, _⟩ := hh.1 p hp
      rw [hv1] at hn; cases hn
    · cases hB0
  · rename_i s hu
    obtain ⟨l, hA, Hl⟩ := num_some h
    clear h
    obtain ⟨q, hB0, Hh⟩ := num_some hA
    clear hA
    split at hB0
    · obtain ⟨hg, hC⟩ := guardB_some hB0
      simp only [Bool.and_eq_true, decide_eq_true_eq] at hg
      refine ⟨_, hC, fun m w xv lv hv mv hx hl hh hm => ?_⟩
      have hmv : mv = none := hm.2 rfl
      subst hmv
      obtain rfl := Rv_sc.1 hx
      have bl : (lv = none ∧ l = 0) ∨ ∃ k, lv = some (.int k l) := by
        rcases Hl m lv hl.1 hl.2 with ⟨_, a, b⟩ | b
        · exact Or.inl ⟨a, b⟩
        · exact Or.inr b
      have bh : (hv = none ∧ q = (s.size : Int) ∧ (none : Option Value) = none) ∨ ∃ k, hv = some (.int k q) := by
        rcases Hh m hv hh.1 hh.2 with ⟨_, a, b⟩ | b
        · exact Or.inl ⟨a, b, rfl⟩
        · exact Or.inr b
      have hb := run_bounds (P := P) (w := w) (isS := false) (len := s.size) (cap := s.size) (c := s.size) bl bh (Or.inl ⟨rfl, rfl⟩) hg.1.1 hg.1.2 hg.2 (Nat.le_refl _)
      refine ⟨_, ?_, Rv_sc.2 rfl⟩
      simp [Instr.sliceAt, Instr.slice, run_underlying hu, hb]
    · cases hB0
  · cases h

/-! ### make, append, len, max -/
theorem evMakeSlice_sound {t : TypeId} {len cap : PV} {K : PV → Chg → Option R} {r : R} (h : evMakeSlice P n t len cap K = some r) :
    ∃ p B, K p ⟨[], [], [B]⟩ = some r ∧ ∀ m w hp lv cv, m n = none → Rv m len lv → Rv m cap cv → ∃ v m' w', (Instr.makeSlice t lv cv).run P w = .ok v w' ∧ Post m w hp n p ⟨[], [], [B]⟩ v m' w' := by
  unfold evMakeSlice at h
  split at h
  · rename_i el l c hu
    split at h
    · rename_i i k z hi hk hz
      split at h
      · rename_i z0 hz0
        obtain ⟨hks, h⟩ := guardB_some h
        obtain ⟨hg, h⟩ := guardB_some h
        simp only [Bool.and_eq_true, decide_eq_true_eq, Nat.beq_eq] at hg hks
        obtain ⟨⟨⟨g1, g2⟩, g3⟩, g4⟩ := hg
        refine ⟨_, _, h, fun m w hp lv cv hm hl hc => ?_⟩
        obtain rfl := Rv_sc.1 hl
        obtain rfl := Rv_sc.1 hc
        obtain ⟨zc, hzc, hun⟩ := Option.bind_eq_some_iff.1 hz
        obtain ⟨i', zv, hi', hzv, hrz⟩ := zeroCells_rv (m := m) hzc
        rw [hi] at hi'; cases hi'
        have hzl : zv.cells.toList = k.vals z0 := by
          rw [unsc_rv hun hrz, Kd.parse_eq k hz0, List.append_nil]
        have hzs : zv.cells.size = k.sz := by rw [← Array.length_toList, hzl, Kd.len_vals]
        have hrun := run_make (P := P) w t el i zv hu hi hzv .i64 .i64 l c g1 g2 (by rw [Int.mul_comm]; omega) g4
        have hml : (madeCells zv.cells (c.toNat * i.size)).toList = (List.replicate c.toNat (k.vals z0)).flatten := by
          rw [← hks, ← hzs]
          unfold madeCells
          rw [made_list _ _ (by rw [hzs]; exact Kd.sz_pos k), hzl]
        refine ⟨_, _, _, hrun, Post.make (c := madeCells zv.cells (c.toNat * i.size)) hm w rfl (Fr.refl _ _) (fun i B h => by simp at h) ?_ ?_⟩
        · unfold Rv
          refine Or.inr ⟨rfl, w.heap.size, 0, (madeCells zv.cells (c.toNat * i.size)).size, c.toNat, 0, Inj.put_same, rfl, Nat.le_refl _, by omega, fun hf => ?_, fun _ => by simp, ?_⟩
          · simp only [decide_eq_true_eq] at hf; rw [hf]
          · rw [size_madeCells, hks]; omega
        · intro q p hq
          simp only [Blk.cs] at hq
          have e1 : (List.replicate l.toNat z0).flatMap k.vals = (List.replicate l.toNat (k.vals z0)).flatten := by
            rw [List.flatMap_def, List.map_replicate]
          rw [e1] at hq
          obtain ⟨v, hv, rfl⟩ : ∃ v, ((List.replicate l.toNat (k.vals z0)).flatten)[q]? = some v ∧ p = .sc v := by
            simp only [scs, List.getElem?_map, Option.map_eq_some_iff] at hq
            obtain ⟨v, h1, h2⟩ := hq
            exact ⟨v, h1, h2.symm⟩
          refine ⟨v, ?_, Rv_sc.2 rfl⟩
          rw [← Array.getElem?_toList, hml]
          have hq2 : q < l.toNat * (k.vals z0).length := by
            have := (List.getElem?_eq_some_iff.1 hv).1
            simpa [Kd.len_vals] using this
          have hkp : 0 < (k.vals z0).length := by rw [Kd.len_vals]; exact Kd.sz_pos k
          rw [rep_get _ hkp _ _ hq2] at hv
          rw [rep_get _ hkp _ _ (Nat.lt_of_lt_of_le hq2 (Nat.mul_le_mul_right _ (by omega)))]
          exact hv
      · cases h
    · cases h
  · cases h

theorem evLen_sound {t ty : TypeId} {x p : PV} {xv : Value} (h : evLen P t x = some p) (hx : Rv m x xv) : ∃ v, (Builtin.len_ #[t] ty #[xv]).run P w = .ok v w ∧ Rv m p v := by
  unfold evLen at h
  split at h
  · rename_i s hu
    simp at h; subst h
    obtain rfl := Rv_sc.1 hx
    exact ⟨_, by simp [Builtin.len_, run_underlying hu]; rfl, Rv_sc.2 rfl⟩
  · rename_i q e hu
    simp at h; subst h
    exact ⟨_, by simp [Builtin.len_, run_underlying hu]; rfl, Rv_sc.2 rfl⟩
  · rename_i e i e2 sz len lo full nl hu
    simp at h; subst h
    unfold Rv at hx
    rcases hx with ⟨rfl, _, a, rfl, _⟩ | ⟨_, b, base, tt, cap, off, _, rfl, _⟩
    · exact ⟨_, by simp [Builtin.len_, run_underlying hu]; rfl, Rv_sc.2 rfl⟩
    · exact ⟨_, by simp [Builtin.len_, run_underlying hu]; rfl, Rv_sc.2 rfl⟩
  · rename_i e l c hu
    simp at h; subst h
    obtain rfl := Rv_sc.1 hx
    exact ⟨_, by simp [Builtin.len_, run_underlying hu]; rfl, Rv_sc.2 rfl⟩
  · cases h
theorem evMaxN_sound : ∀ (l : List PV) {p q : PV} {pv : Value} {lv : List Value}, evMaxN true p l = some q → Rv m p pv → Rvs m l lv → ∃ v, (lv.foldlM Builtin.max2 pv).run P w = .ok v w ∧ Rv m q v
  | [], p, q, pv, lv, h, hp, hl => by
    simp [evMaxN] at h; subst h
    unfold Rvs at hl; subst hl
    exact ⟨pv, by simp, hp⟩
  | x :: l, p, q, pv, lv, h, hp, hl => by
    unfold Rvs at hl
    obtain ⟨xv, rest, rfl, hx, hr⟩ := hl
    simp only [evMaxN] at h
    cases h2 : evMax2 true p x with
    | none => rw [h2] at h; simp at h
    | some y =>
      rw [h2] at h; simp only [] at h
      unfold evMax2 at h2
      split at h2
      · rename_i k a k' b
        simp at h2; subst h2
        obtain rfl := Rv_sc.1 hp
        obtain rfl := Rv_sc.1 hx
        obtain ⟨v, hv, hrv⟩ := evMaxN_sound l h (Rv_sc.2 rfl) hr
        have e : max a b = if b > a then b else a := by split <;> omega
        exact ⟨v, by simp only [List.foldlM_cons, Sem.run_bind, Builtin.max2, Sem.run_pure, Result.andThen_ok]; rw [← e]; simpa using hv, hrv⟩
      · cases h2
theorem evMinN_sound : ∀ (l : List PV) {p q : PV} {pv : Value} {lv : List Value}, evMaxN false p l = some q → Rv m p pv → Rvs m l lv → ∃ v, (lv.foldlM Builtin.min2 pv).run P w = .ok v w ∧ Rv m q v
  | [], p, q, pv, lv, h, hp, hl => by
    simp [evMaxN] at h; subst h
    unfold Rvs at hl; subst hl
    exact ⟨pv, by simp, hp⟩
  | x :: l, p, q, pv, lv, h, hp, hl => by
    unfold Rvs at hl
    obtain ⟨xv, rest, rfl, hx, hr⟩ := hl
    simp only [evMaxN] at h
    cases h2 : evMax2 false p x with
    | none => rw [h2] at h; simp at h
    | some y =>
      rw [h2] at h; simp only [] at h
      unfold evMax2 at h2
      split at h2
      · rename_i k a k' b
        simp at h2; subst h2
        obtain rfl := Rv_sc.1 hp
        obtain rfl := Rv_sc.1 hx
        obtain ⟨v, hv, hrv⟩ := evMinN_sound l h (Rv_sc.2 rfl) hr
        have e : min a b = if b < a then b else a := by split <;> omega
        exact ⟨v, by simp only [List.foldlM_cons, Sem.run_bind, Builtin.min2, Sem.run_pure, Result.andThen_ok]; rw [← e]; simpa using hv, hrv⟩
      · cases h2
end
end Go.Proofs.YtokephobkllfgaaDoorEv
