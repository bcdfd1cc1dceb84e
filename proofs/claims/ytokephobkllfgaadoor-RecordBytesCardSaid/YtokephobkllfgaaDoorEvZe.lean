/- What is laid here: contracts told by a reading of their own (of what stands in the slots and in memory, block by block), for functions and loops; the end of a row that a slice no more shows may be left out; one entry or else another. No condition but that the contracts of what is called hold. -/
import Derived.Test.YtokephobkllfgaaDoorEvZd
namespace Go.Proofs.YtokephobkllfgaaDoorEv
open Go

/-! ### Raw entries -/
/-- A marked block told by a reading p of its own. -/
def entR {V : Type} (p : List PV → List Blk → Option V) (spec : V → Bool × List (Bool × Xt × List PV × List Blk)) : CutEnt := fun xs H =>
  match p xs H with
  | some v => some (spec v)
  | none => none
/-- A function told by a reading of its own. -/
def entF {V : Type} (p : List PV → List Blk → Option V) (spec : V → Bool × List (Bool × PV × List Blk)) : TabEnt := fun xs H =>
  match p xs H with
  | some v => some (spec v)
  | none => none
theorem entF_ok {P : Program} {f : Nat} {V : Type} {p : List PV → List Blk → Option V} {st0 : V → List PV × List Blk} {spec : V → Bool × List (Bool × PV × List Blk)} (hE : Ent P f) (hp : ∀ xs H v, p xs H = some v → (xs, H) = st0 v)
    (h : ∀ v, (spec v).1 = true → ∀ r H', pickA (spec v).2 = some (r, H') → CallOK P f (st0 v).1 (st0 v).2 r H') : EntOK P f (entF p spec) := by
  intro xs H alts he r H' hr
  unfold entF at he
  split at he
  · rename_i v hv
    obtain ⟨h1, h2⟩ := Prod.mk.inj (Option.some.inj he)
    have h3 := hp xs H v hv
    have := h v h1 r H' (by rw [h2]; exact hr)
    rw [← h3] at this
    exact Or.inl ⟨hE, this⟩
  · cases he
theorem liftF {P : Program} {T : Table} (hT : TableOK P T) (hm : P.follows .mixedOrders = true) {cuts : Cuts} {f : Nat} {fn : Func} {c : Code} (hf : P.funcs[f]? = some fn) (hb : fn.body = some c) (hC : CutsOK P fn.ntmps cuts c) {xs : List PV} {H : List Blk} {kill : List Nat} {alts : List (Bool × PV × List Blk)}
    (hn : xs.length ≤ fn.ntmps) (h : evFuncV P T cuts fn kill xs H = pickA alts) : ∀ r H', pickA alts = some (r, H') → CallOK P f xs H r H' := by
  intro r H' hpick
  exact evFuncV_sound hT hm hf hb hC (h.trans hpick) hn

/-! ### Loops -/
def loopKR {V : Type} (p : List PV → List Blk → Option V) (mu : V → Nat) (n0 : Nat) (kill : List Nat) (m : Nat) (ins outs ds : List Nat) (ent : CutEnt) (e : Xt) (st : St) : Option (Xt × List PV × List Blk) :=
  match e with
  | .normal =>
    match p (renL (idx (reach 64 st.heap (refsL (looks st.env ins)) [])) (looks st.env ins)) (localH false st.heap (reach 64 st.heap (refsL (looks st.env ins)) [])) with
    | some v => guardB (decide (mu v < n0)) (evCut ins outs ds ent st fun e st => finCutV outs kill m e st)
    | none => none
  | e => finCutV outs kill m e st
def evRoundR {V : Type} (P : Program) (T : Table) (cuts : Cuts) (N : Nat) (body : Code) (p : List PV → List Blk → Option V) (mu : V → Nat) (kill ins outs : List Nat) (spec : V → Bool × List (Bool × Xt × List PV × List Blk)) (xs : List PV) (H : List Blk) (v : V) : Option (Xt × List PV × List Blk) :=
  match zipE ins xs [] with
  | some env => evCode P T cuts N body ⟨env, H⟩ (loopKR p mu (mu v) kill H.length ins outs (dsts body) (entR p spec))
  | none => none
theorem can_simR {N : Nat} {ds ins : List Nat} {xs : List PV} {H : List Blk} {env : List (Nat × PV)} {m : Inj} {w : World} {a : Act} (hz : zipE ins xs [] = some env) (hsz : a.tmps.size = N) (hdef : a.defers = []) (htop : ∀ i, H.length ≤ i → m i = none)
    (hrep : ∀ i B, getB H i = some B → BRep m w i B) (hdis : Dis m w (getB H)) (hvs : Rvs m xs (ins.map fun t => a.tmps.getD t undef)) :
    Sim ⟨H, m, w, N, fun t => t ∈ ds, a⟩ m ⟨env, H⟩ a w := by
  refine ⟨hsz, hdef, fun t => ?_, hrep, hdis, fun i hi => htop i ?_, fun i hi => ⟨_, by rw [getB_eq]; exact List.getElem?_eq_getElem hi⟩, fun _ _ => rfl, fun i B _ hB hd => ⟨B, hB, hd, rfl⟩, ?_, ?_, Fr.refl _ _, fun t h => rfl⟩
  · rcases zipE_look hz t with hl | ⟨k, p, hk1, hk2, hk3⟩
    · rw [hl]; show Rv m PV.undef _; unfold Rv; trivial
    · rw [hk3]
      obtain ⟨u, hu, hru⟩ := hvs.get hk2
      rw [List.getElem?_map, hk1] at hu
      simp at hu; rw [Array.getD_eq_getD_getElem?, hu]; exact hru
  · rw [getB_eq] at hi
    exact List.getElem?_eq_none_iff.1 hi
  · intro i b base t B hi hB
    have := getB_lt hB
    exact absurd hi (by simp only at this ⊢; omega)
  · intro i j b base t base2 t2 B B2 hi hj hB
    have := getB_lt hB
    exact absurd hi (by simp only at this ⊢; omega)
/-- **A loop by one round of it**, told by a reading of its own. -/
theorem loop_cutR {P : Program} {T : Table} (hT : TableOK P T) (hm : P.follows .mixedOrders = true) {cuts : Cuts} {N : Nat} {c : Code} {ins outs kill : List Nat} {V : Type} {p : List PV → List Blk → Option V} {st0 : V → List PV × List Blk} {spec : V → Bool × List (Bool × Xt × List PV × List Blk)}
    (hp : ∀ xs H v, p xs H = some v → (xs, H) = st0 v) (mu : V → Nat) (hl : isLoop c = true) (hC : CutsOK P N cuts (loopOf c))
    (h : ∀ v, (spec v).1 = true → evRoundR P T cuts N (loopOf c) p mu kill ins outs spec (st0 v).1 (st0 v).2 v = pickA (spec v).2) : CutOK P N c ins outs (entR p spec) := by
  rw [loopOf_eq hl]
  generalize loopOf c = body at *
  have main : ∀ n xs H v, p xs H = some v → mu v < n → CutAt (fun Q => Code.rounds P body Q n) N (dsts body) ins outs (entR p spec) xs H := by
    intro n
    induction n with
    | zero => intro xs H v hv h; omega
    | succ n ih =>
      intro xs H v hv hn alts he e ps H' hpick m w a hsz hdef htop hrep hdis hvs
      unfold entR at he
      rw [hv] at he
      obtain ⟨hpre, halts⟩ := Prod.mk.inj (Option.some.inj he)
      have hev := h v hpre
      rw [halts, hpick] at hev
      have hst := hp xs H v hv
      rw [← hst] at hev
      simp only [] at hev
      unfold evRoundR at hev
      cases hz : zipE ins xs [] with
      | none => rw [hz] at hev; simp at hev
      | some env =>
        rw [hz] at hev; simp only [] at hev
        show Code.rounds P body _ (n + 1) a w
        rw [rounds_succ]
        refine evCode_sound (x := ⟨H, m, w, N, fun t => t ∈ dsts body, a⟩) hT hm body hev hC (fun d hd => hd) ?_ (can_simR hz hsz hdef htop hrep hdis hvs)
        intro m' e' st' a' w' hk S'
        have hfin : ∀ {m2 : Inj} {e2 : Xt} {st2 : St} {a2 : Act} {w2 : World}, finCutV outs kill H.length e2 st2 = some (e, ps, H') → Sim ⟨H, m, w, N, fun t => t ∈ dsts body, a⟩ m2 st2 a2 w2 →
            e2.to = e.to ∧ a2.tmps.size = N ∧ a2.defers = [] ∧ (∀ t, t ∉ dsts body → a2.tmps.getD t undef = a.tmps.getD t undef) ∧ ps.length = outs.length ∧
            ∃ m', PostC m w H (.tup ps) H' (.tuple (outs.map fun t => a2.tmps.getD t undef).toArray) m' w2 := by
          intro m2 e2 st2 a2 w2 h2 S2
          obtain ⟨rfl, h3, m3, h4⟩ := finCutV_sound h2 S2
          exact ⟨rfl, S2.size, S2.defers, fun t ht => S2.keep t ht, h3, m3, h4⟩
        cases e' with
        | exit i => exact hfin hk S'
        | ret => exact hfin hk S'
        | normal =>
          unfold loopKR at hk
          simp only [] at hk
          split at hk
          case h_2 => cases hk
          rename_i v0 hp0
          obtain ⟨hg, hk2⟩ := guardB_some hk
          simp only [decide_eq_true_eq] at hg
          exact evCut_sound (x := ⟨H, m, w, N, fun t => t ∈ dsts body, a⟩) (F := fun Q => Code.rounds P body Q n) (fun h k => rounds_mono h k) (ih _ _ v0 hp0 (by omega)) hk2 (fun d hd => hd) (fun m2 e2 st2 a2 w2 h2 S2 => hfin h2 S2) S'
  intro xs H alts he
  cases hv : p xs H with
  | none => unfold entR at he; rw [hv] at he; cases he
  | some v =>
    intro e ps H' hpick m w a hsz hdef htop hrep hdis hvs
    exact wp_loop_rounds _ (main (mu v + 1) xs H v hv (by omega) alts he e ps H' hpick m w a hsz hdef htop hrep hdis hvs)

/-! ### What a row shows no more -/
def cutB (i n : Nat) (j : Nat) : Blk → Blk
  | .row o k xs => bif Nat.beq j i then .row o k (xs.take n) else .row o k xs
  | B => B
theorem BRep.cut {m : Inj} {w : World} {j i n : Nat} {B : Blk} (h : BRep m w j B) : BRep m w j (cutB i n j B) := by
  cases B with
  | dead => exact h
  | fix o cs => exact h
  | mix o pre k N xs post => exact h
  | row o k xs =>
    unfold cutB
    cases Nat.beq j i with
    | false => exact h
    | true =>
      simp only [cond_true]
      rcases h with h | ⟨h, o', k', h2⟩ | ⟨b, base, t, c, e, fz, h1, h2, h3, h4, h5⟩
      · cases h
      · cases h2
        exact Or.inr (Or.inl ⟨h, o, k, by simp⟩)
      · refine Or.inr (Or.inr ⟨b, base, t, c, e, fz, h1, h2, h3, h4, fun q p hq => h5 q p ?_⟩)
        simp only [Blk.cs] at hq ⊢
        rw [← flat_take, ← scs_take, List.getElem?_take] at hq
        split at hq
        · exact hq
        · cases hq
theorem cutB_own {i n j : Nat} {B : Blk} : (cutB i n j B).own = B.own := by
  cases B with
  | dead => rfl
  | fix o cs => rfl
  | mix o pre k N xs post => rfl
  | row o k xs => unfold cutB; cases Nat.beq j i <;> rfl
theorem cutB_live {i n j : Nat} {B : Blk} (h : cutB i n j B ≠ .dead) : B ≠ .dead := by
  intro e; subst e; exact h rfl
/-- A call's answer, a row of it cut to what is still shown. -/
theorem CallOK.cut {P : Program} {f : Nat} {xs : List PV} {H : List Blk} {r : PV} {H' : List Blk} (h : CallOK P f xs H r H') (i n : Nat) : CallOK P f xs H r (mapBlk (cutB i n) 0 H') := by
  intro m w vs htop hrep hdis hvs
  refine (h m w vs htop hrep hdis hvs).mono ?_
  rintro e w' ⟨v, m', rfl, hp⟩
  have inv : ∀ {j B}, getB (mapBlk (cutB i n) 0 H') j = some B → ∃ B0, getB H' j = some B0 ∧ B = cutB i n j B0 := fun {j B} h => by
    rw [mapBlk_get, Nat.zero_add, Option.map_eq_some_iff] at h
    obtain ⟨B0, h0, h1⟩ := h
    exact ⟨B0, h0, h1.symm⟩
  refine ⟨v, m', rfl, hp.val, hp.ext, fun j hj => hp.top j (by rwa [mapBlk_len] at hj), fun j B hB => ?_, by rw [mapBlk_len]; exact hp.len, fun j B hj hB hd => ?_, fun j b base t B hj hB hd hm => ?_, fun j l b base t base2 t2 B B2 hj hl hB hB2 hd hd2 hm hm2 => ?_, hp.frame⟩
  · obtain ⟨B0, h0, rfl⟩ := inv hB
    exact (hp.rep j B0 h0).cut
  · obtain ⟨B0, h0, rfl⟩ := inv hB
    obtain ⟨B1, h1, h2, h3⟩ := hp.own j B0 hj h0 (cutB_live hd)
    exact ⟨B1, h1, h2, by rw [cutB_own]; exact h3⟩
  · obtain ⟨B0, h0, rfl⟩ := inv hB
    rcases hp.fresh j b base t B0 hj h0 (cutB_live hd) hm with h | ⟨c, Bc, base0, t0, h1, h2, h3, h4, h5⟩
    · exact Or.inl h
    · refine Or.inr ⟨c, Bc, base0, t0, h1, ?_, h3, h4, h5⟩
      rw [mapBlk_get, h2]; rfl
  · obtain ⟨B0, h0, rfl⟩ := inv hB
    obtain ⟨B1, h1, rfl⟩ := inv hB2
    exact hp.dist j l b base t base2 t2 B0 B1 hj hl h0 h1 (cutB_live hd) (cutB_live hd2) hm hm2
end Go.Proofs.YtokephobkllfgaaDoorEv
