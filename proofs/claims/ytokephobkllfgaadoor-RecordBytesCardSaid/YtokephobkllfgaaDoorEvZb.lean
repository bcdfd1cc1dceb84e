/- What is proved here: tables and cuts of contracts over shapes; what a function's body leaves behind, in one form. No condition but that the contracts of what is called hold. -/
import Derived.Test.YtokephobkllfgaaDoorEvZ
namespace Go.Proofs.YtokephobkllfgaaDoorEv
open Go

/-! ### Contracts over shapes, as entries -/
def mapAlts {α β : Type} (f : α → β) : List (Bool × α) → List (Bool × β)
  | [] => []
  | (b, x) :: r => (b, f x) :: mapAlts f r
theorem pickA_map {α β : Type} (f : α → β) : ∀ (l : List (Bool × α)), pickA (mapAlts f l) = (pickA l).map f
  | [] => rfl
  | (b, x) :: r => by
    cases b with
    | true => rfl
    | false => exact pickA_map f r
def ownsL : List Blk → List Bool
  | [] => []
  | B :: r => B.own :: ownsL r
theorem ownsL_eq : ∀ l : List Blk, ownsL l = l.map Blk.own
  | [] => rfl
  | B :: r => by simp [ownsL, ownsL_eq r]
/-- A function told by its shapes: the condition, and one of several answers. -/
abbrev SpecV (ks : List Shp) := denA ks → Bool × List (Bool × PV × List Blk)
def entV2 (ks : List Shp) (spec : SpecV ks) (H : List Blk) (v : denA ks) (bs : List Bd) (gs : List Bool) : Option (Bool × List (Bool × PV × List Blk)) :=
  some (okBs bs (ownsL (showA 0 ks v).2) && allB gs (spec v).1,
    mapAlts (fun r => (renP (backG bs H.length) r.1, backH (backG bs H.length) r.2 bs (ownsL (showA 0 ks v).2) 0 H ++ (r.2.drop bs.length).map (renB (backG bs H.length)))) (spec v).2)
def entV (ks : List Shp) (spec : SpecV ks) : TabEnt := fun xs H =>
  match parseA H ks xs with
  | some (v, bs, gs) => entV2 ks spec H v bs gs
  | none => none
def SpecOK (P : Program) (f : Nat) (ks : List Shp) (spec : SpecV ks) (v : denA ks) : Prop :=
  (spec v).1 = true → ∀ r H', pickA (spec v).2 = some (r, H') → CallOK P f (showA 0 ks v).1 (showA 0 ks v).2 r H'
theorem viewInj_top {m : Inj} {bs : List Bd} {i : Nat} (h : bs.length ≤ i) : viewInj m bs i = none := by
  unfold viewInj; rw [List.getElem?_eq_none h]
theorem view_dis {m : Inj} {w : World} {H Hc : List Blk} {bs : List Bd} (hb : Bnd H bs Hc) (hok : okBs bs (Hc.map Blk.own) = true) (hdis : Dis m w (getB H)) : Dis (viewInj m bs) w (getB Hc) := by
  refine ⟨?_, hdis.gw, ?_⟩
  rotate_left
  · intro c Bc b base t hc ho hm
    have hlt := getB_lt hc
    have hq : bs[c]? = some (bs[c]'(by rw [hb.1]; exact hlt)) := List.getElem?_eq_getElem _
    rw [viewInj_at hq] at hm
    generalize bs[c]'(by rw [hb.1]; exact hlt) = q at hq hm
    cases q with
    | none => simp [viewAt] at hm
    | some q =>
      obtain ⟨i, sh⟩ := q
      rw [getB_eq] at hc
      obtain ⟨B0, g1, g2, g3⟩ := hb.2 c i sh Bc hq hc
      simp only [viewAt] at hm
      cases hmi : m i with
      | none => rw [hmi] at hm; simp at hm
      | some z =>
        obtain ⟨b1, base1, t1⟩ := z
        rw [hmi] at hm
        simp at hm
        obtain ⟨rfl, _, _⟩ := hm
        exact hdis.high i B0 _ _ _ g1 (g3 ho).1 hmi
  intro c c' Bc Bc' hne hc hc' hd hd' ho b base t base' t' hm hm'
  have hl : ∀ {j : Nat} {B : Blk}, getB Hc j = some B → ∃ q, bs[j]? = some q := fun {j B} h => by
    have := getB_lt h
    exact ⟨bs[j]'(by rw [hb.1]; exact this), List.getElem?_eq_getElem _⟩
  obtain ⟨q, hq⟩ := hl hc
  obtain ⟨q', hq'⟩ := hl hc'
  rw [viewInj_at hq] at hm
  rw [viewInj_at hq'] at hm'
  cases q with
  | none => simp [viewAt] at hm
  | some q =>
    cases q' with
    | none => simp [viewAt] at hm'
    | some q' =>
      obtain ⟨i, sh⟩ := q
      obtain ⟨i', sh'⟩ := q'
      rw [getB_eq] at hc hc'
      obtain ⟨B0, g1, g2, g3⟩ := hb.2 c i sh Bc hq hc
      obtain ⟨B1, k1, k2, k3⟩ := hb.2 c' i' sh' Bc' hq' hc'
      obtain ⟨g4, rfl⟩ := g3 ho
      have e1 : (Hc.map Blk.own)[c]? = some true := by rw [List.getElem?_map, hc]; simp [ho]
      have e2 : (Hc.map Blk.own)[c']? = some Bc'.own := by rw [List.getElem?_map, hc']; rfl
      by_cases he : i = i'
      · subst he
        rcases Nat.lt_or_gt_of_ne hne with h | h
        · exact absurd (okBs_get hok c c' i 0 sh' _ _ h hq hq' e1 e2).1 (by simp)
        · exact absurd (okBs_get hok c' c i sh' 0 _ _ h hq' hq e2 e1).2 (by simp)
      · simp only [viewAt] at hm hm'
        cases hmi : m i with
        | none => rw [hmi] at hm; simp at hm
        | some z =>
          obtain ⟨b1, base1, t1⟩ := z
          cases hmi' : m i' with
          | none => rw [hmi'] at hm'; simp at hm'
          | some z' =>
            obtain ⟨b2, base2, t2⟩ := z'
            rw [hmi] at hm; rw [hmi'] at hm'
            simp at hm hm'
            obtain ⟨rfl, _, _⟩ := hm
            obtain ⟨rfl, _, _⟩ := hm'
            exact hdis.apart i i' B0 B1 he g1 k1 g2 k2 g4 _ _ _ _ _ hmi hmi'
theorem view_ok {m : Inj} {w : World} {H : List Blk} {ks : List Shp} {xs : List PV} {v : denA ks} {bs : List Bd} {gs : List Bool} {us : List Value} (h : parseA H ks xs = some (v, bs, gs)) (hg : ∀ g ∈ gs, g = true) (hok : okBs bs ((showA 0 ks v).2.map Blk.own) = true)
    (hrep : ∀ i B, getB H i = some B → BRep m w i B) (hdis : Dis m w (getB H)) (hu : Rvs m xs us) :
    Bnd H bs (showA 0 ks v).2 ∧ (∀ i, (showA 0 ks v).2.length ≤ i → viewInj m bs i = none) ∧ (∀ i B, getB (showA 0 ks v).2 i = some B → BRep (viewInj m bs) w i B) ∧ Dis (viewInj m bs) w (getB (showA 0 ks v).2) ∧ Rvs (viewInj m bs) (showA 0 ks v).1 us := by
  have hf := parseA_fit (n := 0) h hg
  have hm : ∀ (j : Nat) (b : Bd), bs[j]? = some b → viewInj m bs (0 + j) = viewAt m b := fun j b hb => by rw [Nat.zero_add]; exact viewInj_at hb
  refine ⟨hf.1, fun i hi => viewInj_top (by rw [hf.1.1]; exact hi), fun i B hB => ?_, view_dis hf.1 hok hdis, hf.rvs hrep hm hu⟩
  have := (hf.2.2 m _ w hrep hm).2 i B (by rw [← getB_eq]; exact hB) ⟨us, hu⟩
  rwa [Nat.zero_add] at this
theorem entV_ok {P : Program} {f : Nat} {ks : List Shp} {spec : SpecV ks} (hE : Ent P f) (h : ∀ v, SpecOK P f ks spec v) : EntOK P f (entV ks spec) := by
  intro xs H alts he r H' hr
  unfold entV at he
  split at he
  · rename_i v bs gs hp
    unfold entV2 at he
    simp only [Option.some.injEq, Prod.mk.injEq, Bool.and_eq_true] at he
    obtain ⟨⟨hok, hpre⟩, rfl⟩ := he
    rw [ownsL_eq] at hok hr
    obtain ⟨hg, hpre⟩ := allB_true hpre
    rw [pickA_map, Option.map_eq_some_iff] at hr
    obtain ⟨⟨r0, H0⟩, hpick, he⟩ := hr
    simp only [Prod.mk.injEq] at he
    obtain ⟨rfl, rfl⟩ := he
    refine Or.inl ⟨hE, fun m w vs htop hrep hdis hvs => ?_⟩
    obtain ⟨a1, a2, a3, a4, a5⟩ := view_ok hp hg hok hrep hdis hvs
    exact (h v hpre r0 H0 hpick _ w vs a2 a3 a4 a5).mono fun e w' ⟨u, m', hu, hpost⟩ => ⟨u, _, hu, post_view a1 hok hrep htop hdis hpost⟩
  · cases he

/-- A marked block told by its shapes. -/
abbrev SpecC (ks : List Shp) := denA ks → Bool × List (Bool × Xt × List PV × List Blk)
def entC2 (ks : List Shp) (spec : SpecC ks) (H : List Blk) (v : denA ks) (bs : List Bd) (gs : List Bool) : Option (Bool × List (Bool × Xt × List PV × List Blk)) :=
  some (okBs bs (ownsL (showA 0 ks v).2) && allB gs (spec v).1,
    mapAlts (fun r => (r.1, renL (backG bs H.length) r.2.1, backH (backG bs H.length) r.2.2 bs (ownsL (showA 0 ks v).2) 0 H ++ (r.2.2.drop bs.length).map (renB (backG bs H.length)))) (spec v).2)
def entC (ks : List Shp) (spec : SpecC ks) : CutEnt := fun xs H =>
  match parseA H ks xs with
  | some (v, bs, gs) => entC2 ks spec H v bs gs
  | none => none
/-- A contract over its own blocks. -/
def CanAt (F : (Exit → Act → World → Prop) → Act → World → Prop) (N : Nat) (ds ins outs : List Nat) (ks : List Shp) (spec : SpecC ks) (v : denA ks) : Prop :=
  (spec v).1 = true → ∀ e ps H', pickA (spec v).2 = some (e, ps, H') → ∀ m w (a : Act), a.tmps.size = N → a.defers = [] → (∀ i, (showA 0 ks v).2.length ≤ i → m i = none) → (∀ i B, getB (showA 0 ks v).2 i = some B → BRep m w i B) → Dis m w (getB (showA 0 ks v).2) →
    Rvs m (showA 0 ks v).1 (ins.map fun t => a.tmps.getD t undef) →
    F (fun ex a' w' => ex = e.to ∧ a'.tmps.size = N ∧ a'.defers = [] ∧ (∀ t, t ∉ ds → a'.tmps.getD t undef = a.tmps.getD t undef) ∧ ps.length = outs.length ∧
      ∃ m', PostC m w (showA 0 ks v).2 (.tup ps) H' (.tuple (outs.map fun t => a'.tmps.getD t undef).toArray) m' w') a w
theorem entC_at {F : (Exit → Act → World → Prop) → Act → World → Prop} (hmono : ∀ {Q Q' : Exit → Act → World → Prop} {a : Act} {w : World}, F Q a w → (∀ e a w, Q e a w → Q' e a w) → F Q' a w) {N : Nat} {ds ins outs : List Nat} {ks : List Shp} {spec : SpecC ks} {xs : List PV} {H : List Blk}
    (h : ∀ v bs gs, parseA H ks xs = some (v, bs, gs) → CanAt F N ds ins outs ks spec v) : CutAt F N ds ins outs (entC ks spec) xs H := by
  intro alts he e ps H' hr m w a hsz hdef htop hrep hdis hvs
  unfold entC at he
  split at he
  · rename_i v bs gs hp
    unfold entC2 at he
    simp only [Option.some.injEq, Prod.mk.injEq, Bool.and_eq_true] at he
    obtain ⟨⟨hok, hpre⟩, rfl⟩ := he
    rw [ownsL_eq] at hok hr
    obtain ⟨hg, hpre⟩ := allB_true hpre
    rw [pickA_map, Option.map_eq_some_iff] at hr
    obtain ⟨⟨e0, ps0, H0⟩, hpick, he⟩ := hr
    simp only [Prod.mk.injEq] at he
    obtain ⟨rfl, rfl, rfl⟩ := he
    obtain ⟨a1, a2, a3, a4, a5⟩ := view_ok hp hg hok hrep hdis hvs
    refine hmono (h v bs gs hp hpre e0 ps0 H0 hpick _ w a hsz hdef a2 a3 a4 a5) ?_
    rintro ex a' w' ⟨h1, h2, h3, h4, h5, m', hpost⟩
    have := post_view a1 hok hrep htop hdis hpost
    unfold renP at this
    exact ⟨h1, h2, h3, h4, by rw [renL_map, List.length_map]; exact h5, _, this⟩
  · cases he

/-! ### What is left behind, in one form -/
mutual
def wkP : PV → PV
  | .sl i e sz len _ _ nl => .sl i e sz len len false nl
  | .fn f caps => .fn f (wkL caps)
  | .agg cs => .agg (wkL cs)
  | .tup cs => .tup (wkL cs)
  | p => p
def wkL : List PV → List PV
  | [] => []
  | p :: r => wkP p :: wkL r
end
mutual
theorem Rv.wk {m : Inj} : ∀ {p : PV} {u : Value}, Rv m p u → Rv m (wkP p) u
  | .sc _, _, h => by unfold wkP; exact h
  | .ptr _ _ _ _, _, h => by unfold wkP; exact h
  | .sl _ _ _ _ _ _ _, _, h => by
    unfold wkP; unfold Rv at h ⊢
    rcases h with ⟨a, b, d⟩ | ⟨a, b, base, t, cap, off, h1, h2, h3, h4, h5, h6, h7⟩
    · exact Or.inl ⟨a, a, d⟩
    · exact Or.inr ⟨a, b, base, t, cap, off, h1, h2, Nat.le_refl _, by omega, fun h => (nomatch h), h6, h7⟩
  | .fn _ _, _, h => by unfold wkP; unfold Rv at h ⊢; obtain ⟨us, h1, h2⟩ := h; exact ⟨us, h1, Rvs.wk h2⟩
  | .agg _, _, h => by unfold wkP; unfold Rv at h ⊢; obtain ⟨us, h1, h2⟩ := h; exact ⟨us, h1, Rvs.wk h2⟩
  | .arr _ _ _, _, h => by unfold wkP; exact h
  | .tup _, _, h => by unfold wkP; unfold Rv at h ⊢; obtain ⟨us, h1, h2⟩ := h; exact ⟨us, h1, Rvs.wk h2⟩
  | .undef, _, h => by unfold wkP; exact h
theorem Rvs.wk {m : Inj} : ∀ {ps : List PV} {us : List Value}, Rvs m ps us → Rvs m (wkL ps) us
  | [], _, h => by unfold wkL; exact h
  | _ :: _, _, h => by unfold wkL; unfold Rvs at h ⊢; obtain ⟨v, r, h1, h2, h3⟩ := h; exact ⟨v, r, h1, Rv.wk h2, Rvs.wk h3⟩
end
theorem wkL_map : ∀ ps : List PV, wkL ps = ps.map wkP
  | [] => by unfold wkL; rfl
  | p :: r => by unfold wkL; rw [wkL_map r]; rfl
def wkB : Blk → Blk
  | .fix own cs => .fix own (wkL cs)
  | B => B
theorem BRep.wk {m : Inj} {w : World} {i : Nat} {B : Blk} (h : BRep m w i B) : BRep m w i (wkB B) := by
  cases B with
  | dead => exact h
  | row o k xs => exact h
  | mix o pre k N xs post => exact h
  | fix o cs =>
    rcases h with h | ⟨_, _, _, h⟩ | ⟨b, base, t, c, e, fz, h1, h2, h3, h4, h5⟩
    · cases h
    · cases h
    · refine Or.inr (Or.inr ⟨b, base, t, c, e, fz, h1, h2, h3, h4, fun q p hp => ?_⟩)
      simp only [wkB, Blk.cs, wkL_map, List.getElem?_map, Option.map_eq_some_iff] at hp
      obtain ⟨p0, hp0, rfl⟩ := hp
      obtain ⟨u, g1, g2⟩ := h5 q p0 hp0
      exact ⟨u, g1, g2.wk⟩
/-- Blocks told otherwise, or no more. -/
theorem SimF.upd {x : Ctx} {m : Inj} {env : Nat → PV} {hp : Nat → Option Blk} {a : Act} {w : World} (F : Nat → Blk → Blk) (h : ∀ i B, F i B = .dead ∨ (B ≠ .dead ∧ (F i B).own = B.own ∧ (BRep m w i B → BRep m w i (F i B)))) (S : SimF x m env hp a w) :
    SimF x m env (fun i => (hp i).map (F i)) a w := by
  have inv : ∀ {i B}, (hp i).map (F i) = some B → ∃ B0, hp i = some B0 ∧ B = F i B0 := fun h => by
    rw [Option.map_eq_some_iff] at h; obtain ⟨B0, h0, h1⟩ := h; exact ⟨B0, h0, h1.symm⟩
  have live : ∀ {i B}, F i B ≠ .dead → B ≠ .dead ∧ (F i B).own = B.own ∧ (BRep m w i B → BRep m w i (F i B)) := fun {i B} hd => (h i B).resolve_left hd
  have dead : ∀ i, F i .dead = .dead := fun i => by
    rcases h i .dead with h | h
    · exact h
    · exact absurd rfl h.1
  refine ⟨S.size, S.defers, S.env, fun i B hB => ?_, ⟨fun i j Bi Bj hij hi hj hdi hdj ho => ?_, S.dis.gw, fun i B b base t hi ho hm => ?_⟩, fun i hi => S.top i ?_, fun i hi => ?_, S.mext, fun i B hi hB hd => ?_, fun i b base t B hi hB hd hm => ?_, fun i j b base t base2 t2 B B2 hi hj hB hB2 hd hd2 hm hm2 => ?_, S.frame, S.keep⟩
  · obtain ⟨B0, h0, rfl⟩ := inv hB
    by_cases hd : F i B0 = .dead
    · exact Or.inl hd
    · exact (live hd).2.2 (S.rep i B0 h0)
  · obtain ⟨B0, h0, rfl⟩ := inv hi
    obtain ⟨B1, h1, rfl⟩ := inv hj
    rw [(live hdi).2.1] at ho
    exact S.dis.apart i j B0 B1 hij h0 h1 (live hdi).1 (live hdj).1 ho
  · obtain ⟨B0, h0, rfl⟩ := inv hi
    have hd := own_live ho
    rw [(live hd).2.1] at ho
    exact S.dis.high i B0 b base t h0 ho hm
  · simpa using hi
  · obtain ⟨B, hB⟩ := S.len i hi
    exact ⟨_, by simp [hB]; rfl⟩
  · obtain ⟨B0, h0, rfl⟩ := inv hB
    obtain ⟨B1, g1, g2, g3⟩ := S.orig i B0 hi h0 (live hd).1
    exact ⟨B1, g1, g2, by rw [(live hd).2.1, g3]⟩
  · obtain ⟨B0, h0, rfl⟩ := inv hB
    rcases S.nfresh i b base t B0 hi h0 (live hd).1 hm with h | ⟨j, B1, base0, t0, q1, q2, q3, q4, q5⟩
    · exact Or.inl h
    · exact Or.inr ⟨j, B1, base0, t0, q1, by rw [q2]; exact congrArg some (dead j), q3, q4, q5⟩
  · obtain ⟨B0, h0, rfl⟩ := inv hB
    obtain ⟨B1, h1, rfl⟩ := inv hB2
    exact S.ndist i j b base t base2 t2 B0 B1 hi hj h0 h1 (live hd).1 (live hd2).1 hm hm2
def mapBlk (F : Nat → Blk → Blk) : Nat → List Blk → List Blk
  | _, [] => []
  | i, B :: r => F i B :: mapBlk F (i + 1) r
theorem mapBlk_get {F : Nat → Blk → Blk} : ∀ {H : List Blk} {k i : Nat}, getB (mapBlk F k H) i = (getB H i).map (F (k + i))
  | [], k, i => by simp [mapBlk, getB]
  | B :: r, k, 0 => by simp [mapBlk, getB]
  | B :: r, k, i + 1 => by
    simp only [mapBlk, getB]
    rw [mapBlk_get, show k + 1 + i = k + (i + 1) by omega]
theorem mapBlk_len {F : Nat → Blk → Blk} : ∀ {H : List Blk} {k : Nat}, (mapBlk F k H).length = H.length
  | [], k => rfl
  | B :: r, k => by simp [mapBlk, mapBlk_len]
/-- An own row moves to a new number, and whoever speaks of it goes along. -/
def mvH (i : Nat) (r : PV) (H : List Blk) : PV × List Blk :=
  match getB H i with
  | some (.row true k xs) => (renP (to1 i H.length) r, mapBlk (fun _ => renB (to1 i H.length)) 0 (setB H i .dead ++ [.row true k xs]))
  | _ => (r, H)
def mvHs : List Nat → PV → List Blk → PV × List Blk
  | [], r, H => (r, H)
  | i :: l, r, H => mvHs l (mvH i r H).1 (mvH i r H).2
def keepL (m : Nat) : List Nat → List Nat
  | [] => []
  | i :: r => bif Nat.blt i m then i :: keepL m r else keepL m r
def refsBs : Nat → List Blk → List Nat
  | 0, _ => []
  | _ + 1, [] => []
  | n + 1, B :: r => refsB B ++ refsBs n r
def finV (m : Nat) (kill : List Nat) (r : PV) (H : List Blk) : Option (PV × List Blk) :=
  let q := mvHs (keepL m (reach 64 H (refsP r ++ refsBs m H) [])) r H
  tidy m (wkP q.1) (mapBlk (fun i B => bif memN i kill then .dead else wkB B) 0 q.2)

theorem mvH_sound {x : Ctx} {m : Inj} {env : Nat → PV} {r : PV} {H : List Blk} {a : Act} {w : World} {v : Value} (i : Nat) (S : SimF x m env (getB H) a w) (hv : Rv m r v) :
    ∃ m' env', SimF x m' env' (getB (mvH i r H).2) a w ∧ Rv m' (mvH i r H).1 v := by
  unfold mvH
  split
  · rename_i k xs hB
    have hlt : i < H.length := getB_lt hB
    have hnone : getB H H.length = none := by rw [getB_eq]; exact List.getElem?_eq_none (Nat.le_refl _)
    have hm := S.top _ hnone
    have hP := Post.move (hp := getB H) hB (S.rep i _ hB) hm (by omega)
    have hS := SimF.step (dst := none) S hP (apply_upd hP.upf hP.upn) (fun t => S.env t) (env' := env) (fun t => by simp) (fun d h => by cases h) (fun d h => by cases h)
    have hren : ∀ j q y, to1 i H.length j = some q → m j = some y → (fun j => if j = H.length then m i else m j) q = some y := by
      intro j q y hj hy
      unfold to1 at hj
      cases hb : Nat.beq j i with
      | true =>
        rw [hb] at hj
        obtain rfl := Nat.eq_of_beq_eq_true hb
        simp at hj; subst hj
        simpa using hy
      | false =>
        rw [hb] at hj
        simp at hj; subst hj
        have : j ≠ H.length := fun e => by rw [e, hm] at hy; cases hy
        simpa [this] using hy
    refine ⟨_, env, ?_, hv.ren hren⟩
    have hre2 : ∀ j q y, to1 i H.length j = some q → (fun j => if j = H.length then m i else m j) j = some y → (fun j => if j = H.length then m i else m j) q = some y := by
      intro j q y hj hy
      by_cases he : j = H.length
      · subst he
        simp only [if_true] at hy
        unfold to1 at hj
        have hb : Nat.beq H.length i = false := by
          cases hb : Nat.beq H.length i with
          | false => rfl
          | true => have := Nat.eq_of_beq_eq_true hb; omega
        rw [hb] at hj; simp at hj; subst hj
        simpa using hy
      · simp only [if_neg he] at hy
        exact hren j q y hj hy
    have hU := SimF.upd (fun _ => renB (to1 i H.length)) (fun j B => ?_) hS
    · have : getB (mapBlk (fun _ => renB (to1 i H.length)) 0 (setB H i .dead ++ [.row true k xs])) = fun j => (getB (setB H i .dead ++ [.row true k xs]) j).map (renB (to1 i H.length)) := by
        funext j; rw [mapBlk_get]
      rw [this]
      exact hU
    · by_cases hd : B = .dead
      · subst hd; exact Or.inl rfl
      · refine Or.inr ⟨hd, renB_own _ _, fun hr => ?_⟩
        have := BRep.ren (q := false) hre2 rfl hr
        rwa [maskB_false] at this
  · exact ⟨m, env, S, hv⟩
theorem mvHs_sound {x : Ctx} {a : Act} {w : World} {v : Value} : ∀ (l : List Nat) {m : Inj} {env : Nat → PV} {r : PV} {H : List Blk}, SimF x m env (getB H) a w → Rv m r v →
    ∃ m' env', SimF x m' env' (getB (mvHs l r H).2) a w ∧ Rv m' (mvHs l r H).1 v
  | [], m, env, r, H, S, hv => ⟨m, env, S, hv⟩
  | i :: l, m, env, r, H, S, hv => by
    obtain ⟨m', env', S', hv'⟩ := mvH_sound i S hv
    exact mvHs_sound l S' hv'
theorem finV_sound {x : Ctx} {m : Inj} {env : Nat → PV} {kill : List Nat} {r r' : PV} {H H' : List Blk} {a : Act} {w : World} {v : Value} (h : finV x.H0.length kill r H = some (r', H')) (S : SimF x m env (getB H) a w) (hv : Rv m r v) :
    ∃ m', PostC x.m0 x.w0 x.H0 r' H' v m' w := by
  unfold finV at h
  simp only [] at h
  obtain ⟨m1, env1, S1, hv1⟩ := mvHs_sound (keepL x.H0.length (reach 64 H (refsP r ++ refsBs x.H0.length H) [])) S hv
  generalize mvHs (keepL x.H0.length (reach 64 H (refsP r ++ refsBs x.H0.length H) [])) r H = q at *
  have S2 := SimF.upd (fun i B => bif memN i kill then .dead else wkB B) (fun i B => by
    cases hk : memN i kill with
    | true => exact Or.inl rfl
    | false =>
      simp only [cond_false]
      cases B with
      | dead => exact Or.inl rfl
      | row o k xs => exact Or.inr ⟨by simp, rfl, fun h => h⟩
      | mix o pre k N xs post => exact Or.inr ⟨by simp, rfl, fun h => h⟩
      | fix o cs => exact Or.inr ⟨by simp, rfl, fun h => h.wk⟩) S1
  have e : (fun i => (getB q.2 i).map fun B => bif memN i kill then Blk.dead else wkB B) = getB (mapBlk (fun i B => bif memN i kill then .dead else wkB B) 0 q.2) := by
    funext i; rw [mapBlk_get, Nat.zero_add]
  rw [e] at S2
  unfold tidy at h
  simp only [] at h
  obtain ⟨hg, ht2⟩ := guardB_some h
  simp only [Bool.and_eq_true, Nat.ble_eq] at hg
  simp only [Option.some.injEq, Prod.mk.injEq] at ht2
  obtain ⟨rfl, rfl⟩ := ht2
  exact ⟨_, export_post S2 hv1.wk hg.1.1 (fun i hi => by
    rw [List.getElem?_append_left (by simpa using hi)]
    simp [hi]) rfl⟩

/-- A function's body, what it leaves behind told in one form. -/
def evFuncV (P : Program) (T : Table) (cuts : Cuts) (f : Func) (kill : List Nat) (xs : List PV) (H : List Blk) : Option (PV × List Blk) :=
  match f.body with
  | some c => evCode P T cuts f.ntmps c ⟨envOf 0 xs, H⟩ fun x st =>
      match x with
      | .exit _ => none
      | _ => evResults P f.results.toList st fun ps => finV H.length kill (packR ps) st.heap
  | none => none
theorem evFuncV_sound {P : Program} {T : Table} (hT : TableOK P T) (hm : P.follows .mixedOrders = true) {cuts : Cuts} {f : Nat} {fn : Func} {c : Code} (hf : P.funcs[f]? = some fn) (hb : fn.body = some c) (hC : CutsOK P fn.ntmps cuts c)
    {kill : List Nat} {xs : List PV} {H : List Blk} {r : PV} {H' : List Blk} (h : evFuncV P T cuts fn kill xs H = some (r, H')) (hn : xs.length ≤ fn.ntmps) : CallOK P f xs H r H' := by
  intro m w vs htop hrep hdis hvs
  unfold evFuncV at h
  rw [hb] at h; simp only [] at h
  refine calls_of_wp hf hb ?_
  have hvl := hvs.length
  have hsize : (vs.toArray ++ Array.replicate (fn.ntmps - vs.toArray.size) undef).size = fn.ntmps := by simp; omega
  let x : Ctx := ⟨H, m, w, fn.ntmps, fun _ => True, ⟨vs.toArray ++ Array.replicate (fn.ntmps - vs.toArray.size) undef, []⟩⟩
  have S0 : Sim x m ⟨envOf 0 xs, H⟩ ⟨vs.toArray ++ Array.replicate (fn.ntmps - vs.toArray.size) undef, []⟩ w := by
    refine ⟨hsize, rfl, fun t => ?_, hrep, hdis, fun i hi => htop i ?_, fun i hi => ⟨_, by rw [getB_eq]; exact List.getElem?_eq_getElem hi⟩, fun _ _ => rfl, fun i B _ hB hd => ⟨B, hB, hd, rfl⟩, ?_, ?_, Fr.refl _ _, fun t h => absurd trivial h⟩
    · rw [envOf_look]
      simp only [Nat.zero_le, if_true, Nat.sub_zero]
      cases hx : xs[t]? with
      | none => unfold Rv; trivial
      | some p =>
        obtain ⟨u, hu, hr⟩ := hvs.get hx
        have hlt : t < vs.length := (List.getElem?_eq_some_iff.1 hu).1
        have : (vs.toArray ++ Array.replicate (fn.ntmps - vs.toArray.size) undef).getD t undef = u := by
          rw [Array.getD_eq_getD_getElem?, Array.getElem?_append_left (by simpa using hlt)]
          simp [hu]
        simp only [this]; exact hr
    · rw [getB_eq] at hi
      exact List.getElem?_eq_none_iff.1 hi
    · intro i b base t B hi hB
      have := getB_lt hB
      exact absurd hi (by show ¬ H.length ≤ i; simp only at this; omega)
    · intro i j b base t base2 t2 B B2 hi hj hB
      have := getB_lt hB
      exact absurd hi (by show ¬ H.length ≤ i; simp only at this; omega)
  have hfin : ∀ m' st' a' w', (evResults P fn.results.toList st' fun ps => finV H.length kill (packR ps) st'.heap) = some (r, H') → Sim x m' st' a' w' →
      a'.defers = [] ∧ ∃ v, (results fn a'.tmps).run P w' = .ok v w' ∧ ∃ v2 m2, (Ending.returned v) = .returned v2 ∧ PostC m w H r H' v2 m2 w' := by
    intro m' st' a' w' hk S'
    obtain ⟨ps, ht, hps⟩ := evResults_sound hk
    obtain ⟨us, hrun, hrs⟩ := hps S'
    have hres : (results fn a'.tmps).run P w' = .ok (if h : us.toArray.size = 1 then us.toArray[0] else .tuple us.toArray) w' := by
      have e1 : (fn.results.mapM (rvOf a'.tmps)).run P w' = .ok us.toArray w' := by
        rw [← Array.toArray_toList (xs := fn.results), List.mapM_toArray]
        simp only [Sem.run_map, hrun, Result.andThen_ok]
      rw [results_eq, Sem.run_bind, e1]
      simp only [Result.andThen_ok, Sem.run_pure]
    have hpk : Rv m' (packR ps) (if h : us.toArray.size = 1 then us.toArray[0] else .tuple us.toArray) := by
      match ps, hrs with
      | [], hrs =>
        unfold Rvs at hrs; subst hrs
        unfold packR Rv; exact ⟨[], rfl, Rvs.nil⟩
      | [p], hrs =>
        obtain ⟨v, rfl, hv⟩ := Rvs.of_one hrs
        simpa [packR] using hv
      | p :: q :: rest, hrs =>
        have hl := hrs.length
        have : ¬ us.toArray.size = 1 := by simp [hl]
        rw [dif_neg this]
        unfold packR Rv; exact ⟨us, rfl, hrs⟩
    obtain ⟨m2, hpost⟩ := finV_sound (x := x) ht S' hpk
    exact ⟨S'.defers, _, hres, _, m2, rfl, hpost⟩
  refine evCode_sound (x := x) hT hm c h hC (fun _ _ => trivial) ?_ S0
  intro m' e st' a' w' hk S'
  cases e with
  | exit i => simp at hk
  | normal =>
    obtain ⟨h1, v, h2, h3⟩ := hfin m' st' a' w' hk S'
    exact ⟨h1, v, h2, h3⟩
  | ret =>
    obtain ⟨h1, v, h2, h3⟩ := hfin m' st' a' w' hk S'
    exact ⟨h1, v, h2, h3⟩

/-! ### Marked blocks -/
def finCutV (outs kill : List Nat) (m : Nat) (e : Xt) (st : St) : Option (Xt × List PV × List Blk) :=
  match finV m kill (.tup (looks st.env outs)) st.heap with
  | some (.tup ps, H') => some (e, ps, H')
  | _ => none
theorem finCutV_sound {x : Ctx} {m : Inj} {st : St} {a : Act} {w : World} {outs kill : List Nat} {e e' : Xt} {ps : List PV} {H' : List Blk} (h : finCutV outs kill x.H0.length e st = some (e', ps, H')) (S : Sim x m st a w) :
    e' = e ∧ ps.length = outs.length ∧ ∃ m', PostC x.m0 x.w0 x.H0 (.tup ps) H' (.tuple (outs.map fun t => a.tmps.getD t undef).toArray) m' w := by
  unfold finCutV at h
  split at h
  · rename_i ps' H2 hf
    simp only [Option.some.injEq, Prod.mk.injEq] at h
    obtain ⟨rfl, rfl, rfl⟩ := h
    have hv : Rv m (.tup (looks st.env outs)) (.tuple (outs.map fun t => a.tmps.getD t undef).toArray) := by
      unfold Rv; exact ⟨_, rfl, looks_rvs S.env outs⟩
    obtain ⟨m', hp⟩ := finV_sound hf S hv
    refine ⟨rfl, ?_, m', hp⟩
    have := hp.val
    unfold Rv at this
    obtain ⟨us, h1, h2⟩ := this
    have hl := h2.length
    have : us = outs.map fun t => a.tmps.getD t undef := by
      have := congrArg (fun v => match v with | Value.tuple xs => xs.toList | _ => []) h1
      simpa using this.symm
    rw [this] at hl
    simpa using hl.symm
  · cases h

def lessMu {R : Type} (ks : List Shp) (mu : denA ks → Nat) (n0 : Nat) (v : denA ks) (x : Option R) : Option R := guardB (decide (mu v < n0)) x
/-- Behind one round: the loop's contract on a smaller state, or the end. -/
def loopKV (ks : List Shp) (mu : denA ks → Nat) (n0 : Nat) (kill : List Nat) (m : Nat) (ins outs ds : List Nat) (ent : CutEnt) (e : Xt) (st : St) : Option (Xt × List PV × List Blk) :=
  match e with
  | .normal =>
    let ids := reach 64 st.heap (refsL (looks st.env ins)) []
    match parseA (localH false st.heap ids) ks (renL (idx ids) (looks st.env ins)) with
    | some (v, _, _) => lessMu ks mu n0 v (evCut ins outs ds ent st fun e st => finCutV outs kill m e st)
    | none => none
  | e => finCutV outs kill m e st
/-- One round of a loop, begun at a state of the contract's own. -/
def evRound (P : Program) (T : Table) (cuts : Cuts) (N : Nat) (body : Code) (ks : List Shp) (mu : denA ks → Nat) (kill ins outs : List Nat) (spec : SpecC ks) (v : denA ks) : Option (Xt × List PV × List Blk) :=
  match zipE ins (showA 0 ks v).1 [] with
  | some env => evCode P T cuts N body ⟨env, (showA 0 ks v).2⟩ (loopKV ks mu (mu v) kill (showA 0 ks v).2.length ins outs (dsts body) (entC ks spec))
  | none => none
def evBlock (P : Program) (T : Table) (cuts : Cuts) (N : Nat) (body : Code) (ks : List Shp) (kill ins outs : List Nat) (v : denA ks) : Option (Xt × List PV × List Blk) :=
  match zipE ins (showA 0 ks v).1 [] with
  | some env => evCode P T cuts N body ⟨env, (showA 0 ks v).2⟩ (finCutV outs kill (showA 0 ks v).2.length)
  | none => none
theorem can_sim {N : Nat} {ds ins : List Nat} {ks : List Shp} {v : denA ks} {env : List (Nat × PV)} {m : Inj} {w : World} {a : Act} (hz : zipE ins (showA 0 ks v).1 [] = some env) (hsz : a.tmps.size = N) (hdef : a.defers = []) (htop : ∀ i, (showA 0 ks v).2.length ≤ i → m i = none)
    (hrep : ∀ i B, getB (showA 0 ks v).2 i = some B → BRep m w i B) (hdis : Dis m w (getB (showA 0 ks v).2)) (hvs : Rvs m (showA 0 ks v).1 (ins.map fun t => a.tmps.getD t undef)) :
    Sim ⟨(showA 0 ks v).2, m, w, N, fun t => t ∈ ds, a⟩ m ⟨env, (showA 0 ks v).2⟩ a w := by
  refine ⟨hsz, hdef, fun t => ?_, hrep, hdis, fun i hi => htop i ?_, fun i hi => ⟨_, by rw [getB_eq]; exact List.getElem?_eq_getElem hi⟩, fun _ _ => rfl, fun i B _ hB hd => ⟨B, hB, hd, rfl⟩, ?_, ?_, Fr.refl _ _, fun t h => rfl⟩
  · rcases zipE_look hz t with hl | ⟨k, p, hk1, hk2, hk3⟩
    · rw [hl]; show Rv m PV.undef _; unfold Rv; trivial
    · rw [hk3]
      obtain ⟨u, hu, hru⟩ := hvs.get hk2
      rw [List.getElem?_map, hk1] at hu
      simp at hu; rw [Array.getD_eq_getD_getElem?, hu]; exact hru
  · rw [getB_eq] at hi
    exact List.getElem?_eq_none_iff.1 hi
  · intro i b base t B hi hB
    have := getB_lt hB
    exact absurd hi (by simp only at this ⊢; omega)
  · intro i j b base t base2 t2 B B2 hi hj hB
    have := getB_lt hB
    exact absurd hi (by simp only at this ⊢; omega)
theorem block_cutV {P : Program} {T : Table} (hT : TableOK P T) (hm : P.follows .mixedOrders = true) {cuts : Cuts} {N : Nat} {body : Code} {ins outs kill : List Nat} {ks : List Shp} {spec : SpecC ks} (hC : CutsOK P N cuts body)
    (h : ∀ v, (spec v).1 = true → evBlock P T cuts N body ks kill ins outs v = pickA (spec v).2) : CutOK P N body ins outs (entC ks spec) := by
  intro xs H
  refine entC_at (F := fun Q => body.wp P Q) (fun h k => wp_mono h k) fun v bs gs hp hpre e ps H' hpick m w a hsz hdef htop hrep hdis hvs => ?_
  have hev := (h v hpre).trans hpick
  unfold evBlock at hev
  cases hz : zipE ins (showA 0 ks v).1 [] with
  | none => rw [hz] at hev; simp at hev
  | some env =>
    rw [hz] at hev; simp only [] at hev
    refine evCode_sound (x := ⟨(showA 0 ks v).2, m, w, N, fun t => t ∈ dsts body, a⟩) hT hm body hev hC (fun d hd => hd) ?_ (can_sim hz hsz hdef htop hrep hdis hvs)
    intro m' e' st' a' w' hk S'
    obtain ⟨rfl, h3, m3, h4⟩ := finCutV_sound hk S'
    exact ⟨rfl, S'.size, S'.defers, fun t ht => S'.keep t ht, h3, m3, h4⟩
/-- **A loop by one round of it.** -/
theorem loop_cutV {P : Program} {T : Table} (hT : TableOK P T) (hm : P.follows .mixedOrders = true) {cuts : Cuts} {N : Nat} {body : Code} {ins outs kill : List Nat} {ks : List Shp} {spec : SpecC ks} (mu : denA ks → Nat) (hC : CutsOK P N cuts body)
    (h : ∀ v, (spec v).1 = true → evRound P T cuts N body ks mu kill ins outs spec v = pickA (spec v).2) : CutOK P N (.loop body) ins outs (entC ks spec) := by
  have main : ∀ n v, mu v < n → CanAt (fun Q => Code.rounds P body Q n) N (dsts body) ins outs ks spec v := by
    intro n
    induction n with
    | zero => intro v h; omega
    | succ n ih =>
      intro v hn hpre e ps H' hpick m w a hsz hdef htop hrep hdis hvs
      have hev := (h v hpre).trans hpick
      unfold evRound at hev
      cases hz : zipE ins (showA 0 ks v).1 [] with
      | none => rw [hz] at hev; simp at hev
      | some env =>
        rw [hz] at hev; simp only [] at hev
        show Code.rounds P body _ (n + 1) a w
        rw [rounds_succ]
        refine evCode_sound (x := ⟨(showA 0 ks v).2, m, w, N, fun t => t ∈ dsts body, a⟩) hT hm body hev hC (fun d hd => hd) ?_ (can_sim hz hsz hdef htop hrep hdis hvs)
        intro m' e' st' a' w' hk S'
        have hfin : ∀ {m2 : Inj} {e2 : Xt} {st2 : St} {a2 : Act} {w2 : World}, finCutV outs kill (showA 0 ks v).2.length e2 st2 = some (e, ps, H') → Sim ⟨(showA 0 ks v).2, m, w, N, fun t => t ∈ dsts body, a⟩ m2 st2 a2 w2 →
            e2.to = e.to ∧ a2.tmps.size = N ∧ a2.defers = [] ∧ (∀ t, t ∉ dsts body → a2.tmps.getD t undef = a.tmps.getD t undef) ∧ ps.length = outs.length ∧
            ∃ m', PostC m w (showA 0 ks v).2 (.tup ps) H' (.tuple (outs.map fun t => a2.tmps.getD t undef).toArray) m' w2 := by
          intro m2 e2 st2 a2 w2 h2 S2
          obtain ⟨rfl, h3, m3, h4⟩ := finCutV_sound h2 S2
          exact ⟨rfl, S2.size, S2.defers, fun t ht => S2.keep t ht, h3, m3, h4⟩
        cases e' with
        | exit i => exact hfin hk S'
        | ret => exact hfin hk S'
        | normal =>
          unfold loopKV at hk
          simp only [] at hk
          split at hk
          case h_2 => cases hk
          rename_i v0 bs0 gs0 hp0
          unfold lessMu at hk
          obtain ⟨hg, hk2⟩ := guardB_some hk
          simp only [decide_eq_true_eq] at hg
          refine evCut_sound (x := ⟨(showA 0 ks v).2, m, w, N, fun t => t ∈ dsts body, a⟩) (F := fun Q => Code.rounds P body Q n) (fun h k => rounds_mono h k) (entC_at (F := fun Q => Code.rounds P body Q n) (fun h k => rounds_mono h k) fun v' bs gs hp => ih v' ?_) hk2 (fun d hd => hd) (fun m2 e2 st2 a2 w2 h2 S2 => hfin h2 S2) S'
          rw [hp] at hp0
          simp only [Option.some.injEq, Prod.mk.injEq] at hp0
          obtain ⟨rfl, _, _⟩ := hp0
          omega
  intro xs H
  refine entC_at (F := fun Q => (Code.loop body).wp P Q) (fun h k => wp_mono h k) fun v bs gs hp hpre e ps H' hpick m w a hsz hdef htop hrep hdis hvs => ?_
  exact wp_loop_rounds _ (main (mu v + 1) v (by omega) hpre e ps H' hpick m w a hsz hdef htop hrep hdis hvs)

/-! ### Which code is marked -/
def codesAt (id : Nat) : Code → List Code
  | .seq a b => codesAt id a ++ codesAt id b
  | .cond _ a b => codesAt id a ++ codesAt id b
  | .block i c => bif Nat.beq i id then c :: codesAt id c else codesAt id c
  | .loop c => codesAt id c
  | _ => []
def codeAt (id : Nat) (c : Code) : Code :=
  match codesAt id c with
  | [x] => x
  | _ => .skip
def loopOf : Code → Code
  | .loop c => c
  | _ => .skip
def oneCode (id : Nat) (c : Code) : Bool :=
  match codesAt id c with
  | [_] => true
  | _ => false
def isLoop : Code → Bool
  | .loop _ => true
  | _ => false
theorem loopOf_eq {c : Code} (h : isLoop c = true) : c = .loop (loopOf c) := by cases c <;> simp [isLoop] at h <;> rfl
theorem codesAt_mem {id : Nat} : ∀ {c : Code} {p : Nat × Code}, p ∈ blocks c → p.1 = id → p.2 ∈ codesAt id c
  | .seq a b, p, h, e => by
    simp only [blocks, List.mem_append] at h; simp only [codesAt, List.mem_append]
    exact h.imp (fun h => codesAt_mem h e) (fun h => codesAt_mem h e)
  | .cond _ a b, p, h, e => by
    simp only [blocks, List.mem_append] at h; simp only [codesAt, List.mem_append]
    exact h.imp (fun h => codesAt_mem h e) (fun h => codesAt_mem h e)
  | .block i c, p, h, e => by
    simp only [blocks, List.mem_cons] at h; simp only [codesAt]
    cases hb : Nat.beq i id with
    | true =>
      simp only [cond_true, List.mem_cons]
      rcases h with rfl | h
      · exact Or.inl rfl
      · exact Or.inr (codesAt_mem h e)
    | false =>
      simp only [cond_false]
      rcases h with rfl | h
      · simp only at e; subst e; simp at hb
      · exact codesAt_mem h e
  | .loop c, p, h, e => by simp only [blocks] at h; simp only [codesAt]; exact codesAt_mem h e
  | .skip, p, h, e => by simp [blocks] at h
  | .region _ _ _, p, h, e => by simp [blocks] at h
  | .rangeFunc _ _ _ _, p, h, e => by simp [blocks] at h
  | .exit _, p, h, e => by simp [blocks] at h
  | .scope _, p, h, e => by simp [blocks] at h
  | .label _, p, h, e => by simp [blocks] at h
  | .goto _, p, h, e => by simp [blocks] at h
  | .ret, p, h, e => by simp [blocks] at h
  | .refuse _, p, h, e => by simp [blocks] at h
def addCut (id : Nat) (ins outs : List Nat) (ent : CutEnt) (cuts : Cuts) : Cuts := fun i => bif Nat.beq i id then some (ins, outs, ent) else cuts i
theorem cut_cons {P : Program} {N id : Nat} {ins outs : List Nat} {ent : CutEnt} {cuts : Cuts} {c : Code} (h1 : oneCode id c = true) (h : CutOK P N (codeAt id c) ins outs ent) (hC : CutsOK P N cuts c) : CutsOK P N (addCut id ins outs ent cuts) c := by
  intro p hp ins' outs' ent' he
  unfold addCut at he
  cases hb : Nat.beq p.1 id with
  | true =>
    rw [hb] at he
    simp only [cond_true, Option.some.injEq, Prod.mk.injEq] at he
    obtain ⟨rfl, rfl, rfl⟩ := he
    have hm := codesAt_mem hp (Nat.eq_of_beq_eq_true hb)
    unfold oneCode at h1
    unfold codeAt at h
    split at h1
    · rename_i x hx
      rw [hx] at hm h
      simp only [List.mem_singleton] at hm
      simp only [] at h
      rw [hm]; exact h
    · cases h1
  | false => rw [hb] at he; exact hC p hp ins' outs' ent' he
end Go.Proofs.YtokephobkllfgaaDoorEv
