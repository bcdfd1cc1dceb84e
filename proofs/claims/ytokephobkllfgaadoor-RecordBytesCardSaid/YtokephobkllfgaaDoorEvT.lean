/- What is proved here: a function whose body the evaluator tells does what is told: its contract. No condition but that the contracts of what is called hold. -/
import Derived.Test.YtokephobkllfgaaDoorEvS
namespace Go.Proofs.YtokephobkllfgaaDoorEv
open Go
section
variable {P : Program} {R : Type} {x : Ctx}

def rvOf (tmps : Array Value) : ResultVar → Sem Value
  | .tmp t => pure (tmps.getD t undef)
  | .cell a t => do loadVar t (← asAddr (tmps.getD a undef))
theorem results_eq (fn : Func) (tmps : Array Value) : results fn tmps = (do let vs ← fn.results.mapM (rvOf tmps); pure (if h : vs.size = 1 then vs[0] else .tuple vs)) := by
  unfold results
  congr 1

/-- The state, told to who began it: the blocks that it was given, and some more, under new numbers. -/
theorem export_post {m : Inj} {env : Nat → PV} {H H2 : List Blk} {a : Act} {w : World} {more : List Nat} {r : PV} {v : Value} (S : SimF x m env (getB H) a w) (hr : Rv m r v)
    (hnd : nodupB more = true) (hpre : ∀ i, i < x.H0.length → more[i]? = some i) (hH : H2 = more.map fun i => renB (idx more) (blkAt H i)) :
    PostC x.m0 x.w0 x.H0 (renP (idx more) r) H2 v (subInj m more) w := by
  have h1 : ∀ i k y, idx more i = some k → m i = some y → subInj m more k = some y := fun i k y hi hy => by
    simp [subInj, idx_nth hi, hy]
  have hget : ∀ {c B}, getB H2 c = some B → ∃ i, more[c]? = some i ∧ B = renB (idx more) (blkAt H i) := by
    intro c B h
    rw [getB_eq, hH, List.getElem?_map, Option.map_eq_some_iff] at h
    obtain ⟨i, g1, g2⟩ := h
    exact ⟨i, g1, g2.symm⟩
  have live : ∀ {i}, renB (idx more) (blkAt H i) ≠ .dead → getB H i = some (blkAt H i) ∧ blkAt H i ≠ .dead := by
    intro i h
    have : blkAt H i ≠ .dead := fun e => h (by rw [e]; rfl)
    exact ⟨blkAt_live this, this⟩
  have hge : ∀ {c i}, x.H0.length ≤ c → more[c]? = some i → x.H0.length ≤ i := by
    intro c i hc hi
    rcases Nat.lt_or_ge i x.H0.length with h | h
    · have := nodupB_inj hnd hi (hpre i h); omega
    · exact h
  have hl2 : H2.length = more.length := by rw [hH]; simp
  refine ⟨hr.ren h1, ?_, ?_, ?_, ?_, ?_, ?_, ?_, S.frame⟩
  · intro i hi
    simp [subInj, nth_eq, hpre i hi, S.mext i hi]
  · intro i hi
    simp [subInj, nth_eq, List.getElem?_eq_none (show more.length ≤ i by omega)]
  · intro c B hB
    obtain ⟨i, hi, rfl⟩ := hget hB
    by_cases hd : blkAt H i = .dead
    · rw [hd]; exact Or.inl rfl
    · have := BRep.ren (q := false) (g := idx more) (m' := subInj m more) (k := c) h1 (by simp [subInj, nth_eq, hi]) (S.rep i _ (blkAt_live hd))
      rwa [maskB_false] at this
  · rw [hl2]
    rcases Nat.eq_zero_or_pos x.H0.length with h | h
    · omega
    · have := (List.getElem?_eq_some_iff.1 (hpre (x.H0.length - 1) (by omega))).1
      omega
  · intro c B hc hB hd
    obtain ⟨i, hi, rfl⟩ := hget hB
    rw [hpre c hc] at hi; cases hi
    obtain ⟨g1, g2⟩ := live hd
    obtain ⟨B0, q1, q2, q3⟩ := S.orig c _ hc g1 g2
    exact ⟨B0, q1, q2, by rw [renB_own, q3]⟩
  · intro c b base t B hc hB hd hm
    obtain ⟨i, hi, rfl⟩ := hget hB
    obtain ⟨g1, g2⟩ := live hd
    have hm' : m i = some (b, base, t) := by simpa [subInj, nth_eq, hi] using hm
    rcases S.nfresh i b base t _ (hge hc hi) g1 g2 hm' with h | ⟨j, B0, base0, t0, q1, q2, q3, q4, q5⟩
    · exact Or.inl h
    · refine Or.inr ⟨j, B0, base0, t0, q1, ?_, q3, q4, q5⟩
      rw [getB_eq, hH, List.getElem?_map, hpre j q1]
      simp [blkAt, q2, renB]
  · intro c d b base t base2 t2 B B2 hc hd hB hB2 hdb hdb2 hm hm2
    obtain ⟨i, hi, rfl⟩ := hget hB
    obtain ⟨j, hj, rfl⟩ := hget hB2
    obtain ⟨g1, g2⟩ := live hdb
    obtain ⟨g3, g4⟩ := live hdb2
    have hm' : m i = some (b, base, t) := by simpa [subInj, nth_eq, hi] using hm
    have hm2' : m j = some (b, base2, t2) := by simpa [subInj, nth_eq, hj] using hm2
    have := S.ndist i j b base t base2 t2 _ _ (hge hc hi) (hge hd hj) g1 g3 g2 g4 hm' hm2'
    subst this
    exact nodupB_inj hnd hi hj

theorem evResults_sound {H : St} {K : List PV → Option R} {r : R} : ∀ {rs : List ResultVar}, evResults P rs H K = some r → ∃ ps, K ps = some r ∧ ∀ {m : Inj} {a : Act} {w : World}, Sim x m H a w →
      ∃ vs, (rs.mapM (rvOf a.tmps)).run P w = .ok vs w ∧ Rvs m ps vs
  | [], h => ⟨[], h, fun _ => ⟨[], by simp, Rvs.nil⟩⟩
  | .tmp t :: rs, h => by
    simp only [evResults] at h
    obtain ⟨ps, hk, hp⟩ := evResults_sound h
    refine ⟨_, hk, fun {m a w} S => ?_⟩
    obtain ⟨vs, h1, h2⟩ := hp S
    exact ⟨_, by simp only [List.mapM_cons, rvOf, Sem.run_bind, Sem.run_pure, Result.andThen_ok, h1], Rvs.cons (S.env t) h2⟩
  | .cell ad t :: rs, h => by
    simp only [evResults] at h
    obtain ⟨p, i, B, hk0, hB, hl⟩ := evLoad_sound h
    obtain ⟨ps, hk, hp⟩ := evResults_sound hk0
    refine ⟨_, hk, fun {m a w} S => ?_⟩
    obtain ⟨vs, h1, h2⟩ := hp S
    obtain ⟨v, hv, hrv⟩ := hl m w _ (S.rep i B hB) (S.env ad)
    have hlv : (do loadVar t (← asAddr (a.tmps.getD ad undef)) : Sem Value).run P w = .ok v w := by
      generalize a.tmps.getD ad undef = u at hv
      cases u with
      | pointer q =>
        cases q with
        | none => simp [Instr.loadAt, Instr.sureAddr] at hv
        | some q => simpa [Instr.loadAt, Instr.sureAddr, asAddr] using hv
      | _ => simp [Instr.loadAt, Instr.sureAddr] at hv
    have hlv2 : (rvOf a.tmps (.cell ad t)).run P w = .ok v w := hlv
    exact ⟨_, by rw [List.mapM_cons, Sem.run_bind, hlv2]; simp only [Sem.run_bind, Sem.run_pure, Result.andThen_ok, h1], Rvs.cons hrv h2⟩

theorem envOf_look : ∀ (xs : List PV) (k t : Nat), look (envOf k xs) t = if k ≤ t then (match xs[t - k]? with | some p => p | none => .undef) else .undef
  | [], k, t => by simp [envOf, look]
  | p :: r, k, t => by
    rw [envOf, look_cons, envOf_look r]
    by_cases h : k = t
    · subst h; simp
    · rw [if_neg h]
      by_cases h2 : k ≤ t
      · rw [if_pos h2, if_pos (by omega), show t - k = (t - (k + 1)) + 1 by omega]; simp
      · rw [if_neg h2, if_neg (by omega)]

/-- **A function by its body.** -/
theorem evFunc_sound {T : Table} (hT : TableOK P T) (hm : P.follows .mixedOrders = true) {cuts : Cuts} {f : Nat} {fn : Func} {c : Code} (hf : P.funcs[f]? = some fn) (hb : fn.body = some c) (hC : CutsOK P fn.ntmps cuts c)
    {xs : List PV} {H : List Blk} {r : PV} {H' : List Blk} (h : evFunc P T cuts fn xs H = some (r, H')) (hn : xs.length ≤ fn.ntmps) : CallOK P f xs H r H' := by
  intro m w vs htop hrep hdis hvs
  unfold evFunc at h
  rw [hb] at h; simp only [] at h
  refine calls_of_wp hf hb ?_
  have hvl := hvs.length
  have hsize : (vs.toArray ++ Array.replicate (fn.ntmps - vs.toArray.size) undef).size = fn.ntmps := by simp; omega
  let x : Ctx := ⟨H, m, w, fn.ntmps, fun _ => True, ⟨vs.toArray ++ Array.replicate (fn.ntmps - vs.toArray.size) undef, []⟩⟩
  have S0 : Sim x m ⟨envOf 0 xs, H⟩ ⟨vs.toArray ++ Array.replicate (fn.ntmps - vs.toArray.size) undef, []⟩ w := by
    refine ⟨hsize, rfl, fun t => ?_, hrep, hdis, fun i hi => htop i ?_, fun i hi => ⟨_, by rw [getB_eq]; exact List.getElem?_eq_getElem hi⟩, fun _ _ => rfl, fun i B _ hB hd => ⟨B, hB, hd, rfl⟩, ?_, ?_, Fr.refl _ _, fun t h => absurd trivial h⟩
    · rw [envOf_look]
      simp only [Nat.zero_le, if_true, Nat.sub_zero]
      cases hx : xs[t]? with
      | none => unfold Rv; trivial
      | some p =>
        obtain ⟨u, hu, hr⟩ := hvs.get hx
        have hlt : t < vs.length := (List.getElem?_eq_some_iff.1 hu).1
        have : (vs.toArray ++ Array.replicate (fn.ntmps - vs.toArray.size) undef).getD t undef = u := by
          rw [Array.getD_eq_getD_getElem?, Array.getElem?_append_left (by simpa using hlt)]
          simp [hu]
        simp only [this]; exact hr
    · rw [getB_eq] at hi
      exact List.getElem?_eq_none_iff.1 hi
    · intro i b base t B hi hB
      have := getB_lt hB
      exact absurd hi (by show ¬ H.length ≤ i; simp only at this; omega)
    · intro i j b base t base2 t2 B B2 hi hj hB
      have := getB_lt hB
      exact absurd hi (by show ¬ H.length ≤ i; simp only at this; omega)
  have hfin : ∀ m' st' a' w', (evResults P fn.results.toList st' fun ps => tidy H.length (packR ps) st'.heap) = some (r, H') → Sim x m' st' a' w' →
      a'.defers = [] ∧ ∃ v, (results fn a'.tmps).run P w' = .ok v w' ∧ ∃ v2 m2, (Ending.returned v) = .returned v2 ∧ PostC m w H r H' v2 m2 w' := by
    intro m' st' a' w' hk S'
    obtain ⟨ps, ht, hps⟩ := evResults_sound hk
    obtain ⟨us, hrun, hrs⟩ := hps S'
    have hres : (results fn a'.tmps).run P w' = .ok (if h : us.toArray.size = 1 then us.toArray[0] else .tuple us.toArray) w' := by
      have e1 : (fn.results.mapM (rvOf a'.tmps)).run P w' = .ok us.toArray w' := by
        rw [← Array.toArray_toList (xs := fn.results), List.mapM_toArray]
        simp only [Sem.run_map, hrun, Result.andThen_ok]
      rw [results_eq, Sem.run_bind, e1]
      simp only [Result.andThen_ok, Sem.run_pure]
    have hpk : Rv m' (packR ps) (if h : us.toArray.size = 1 then us.toArray[0] else .tuple us.toArray) := by
      match ps, hrs with
      | [], hrs =>
        unfold Rvs at hrs; subst hrs
        unfold packR Rv; exact ⟨[], rfl, Rvs.nil⟩
      | [p], hrs =>
        obtain ⟨v, rfl, hv⟩ := Rvs.of_one hrs
        simpa [packR] using hv
      | p :: q :: rest, hrs =>
        have hl := hrs.length
        have : ¬ us.toArray.size = 1 := by simp [hl]
        rw [dif_neg this]
        unfold packR Rv; exact ⟨us, rfl, hrs⟩
    unfold tidy at ht
    simp only [] at ht
    obtain ⟨hg, ht2⟩ := guardB_some ht
    simp only [Bool.and_eq_true, Nat.ble_eq] at hg
    simp only [Option.some.injEq, Prod.mk.injEq] at ht2
    obtain ⟨rfl, rfl⟩ := ht2
    refine ⟨S'.defers, _, hres, _, _, rfl, export_post S' hpk hg.1.1 (fun i hi => by
      have hi' : i < H.length := hi
      rw [List.getElem?_append_left (by simpa using hi')]
      simp [hi']) rfl⟩
  refine evCode_sound (x := x) hT hm c h hC (fun _ _ => trivial) ?_ S0
  intro m' e st' a' w' hk S'
  cases e with
  | exit i => simp at hk
  | normal =>
    obtain ⟨h1, v, h2, h3⟩ := hfin m' st' a' w' hk S'
    exact ⟨h1, v, h2, h3⟩
  | ret =>
    obtain ⟨h1, v, h2, h3⟩ := hfin m' st' a' w' hk S'
    exact ⟨h1, v, h2, h3⟩
end
end Go.Proofs.YtokephobkllfgaaDoorEv
