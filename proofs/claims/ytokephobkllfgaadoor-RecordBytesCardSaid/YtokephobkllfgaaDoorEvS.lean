/- What is proved here: a piece of code, told by the evaluator, says what the machine's own does; and so does a function's body. No condition but that the contracts of what is called hold. -/
import Derived.Test.YtokephobkllfgaaDoorEvR
import Derived.LoopN
namespace Go.Proofs.YtokephobkllfgaaDoorEv
open Go

def Xt.to : Xt → Exit
  | .normal => .normal
  | .exit i => .exit i
  | .ret => .ret
def blocks : Code → List (Nat × Code)
  | .seq a b => blocks a ++ blocks b
  | .cond _ a b => blocks a ++ blocks b
  | .block i c => (i, c) :: blocks c
  | .loop c => blocks c
  | _ => []
/-- What a marked block does at one state, by its contract. -/
def CutAt (F : (Exit → Act → World → Prop) → Act → World → Prop) (N : Nat) (ds ins outs : List Nat) (ent : CutEnt) (xs : List PV) (H : List Blk) : Prop :=
  ∀ alts, ent xs H = some (true, alts) → ∀ e ps H', pickA alts = some (e, ps, H') → ∀ m w (a : Act), a.tmps.size = N → a.defers = [] → (∀ i, H.length ≤ i → m i = none) → (∀ i B, getB H i = some B → BRep m w i B) → Dis m w (getB H) →
    Rvs m xs (ins.map fun t => a.tmps.getD t undef) →
    F (fun ex a' w' => ex = e.to ∧ a'.tmps.size = N ∧ a'.defers = [] ∧ (∀ t, t ∉ ds → a'.tmps.getD t undef = a.tmps.getD t undef) ∧ ps.length = outs.length ∧
      ∃ m', PostC m w H (.tup ps) H' (.tuple (outs.map fun t => a'.tmps.getD t undef).toArray) m' w') a w
/-- What a marked block does, by its contract. -/
def CutOK (P : Program) (N : Nat) (c : Code) (ins outs : List Nat) (ent : CutEnt) : Prop := ∀ xs H, CutAt (fun Q => c.wp P Q) N (dsts c) ins outs ent xs H
def CutsOK (P : Program) (N : Nat) (cuts : Cuts) (c : Code) : Prop := ∀ p ∈ blocks c, ∀ ins outs ent, cuts p.1 = some (ins, outs, ent) → CutOK P N p.2 ins outs ent

section
variable {P : Program} {R : Type} {x : Ctx}

theorem looks_rvs {m : Inj} {env : List (Nat × PV)} {a : Act} (h : ∀ t, Rv m (look env t) (a.tmps.getD t undef)) : ∀ l : List Nat, Rvs m (looks env l) (l.map fun t => a.tmps.getD t undef)
  | [] => Rvs.nil
  | t :: r => Rvs.cons (h t) (looks_rvs h r)
theorem undefs_look : ∀ (l : List Nat) (env : List (Nat × PV)) (t : Nat), look (undefs l env) t = if t ∈ l then .undef else look env t
  | [], env, t => by simp [undefs]
  | s :: r, env, t => by
    rw [undefs, look_cons, undefs_look r]
    by_cases h : s = t
    · subst h; simp
    · rw [if_neg h]
      have : t ≠ s := fun e => h e.symm
      simp [this]
theorem zipE_look : ∀ {ts : List Nat} {ps : List PV} {env env' : List (Nat × PV)}, zipE ts ps env = some env' → ∀ t, look env' t = look env t ∨ ∃ (k : Nat) (p : PV), ts[k]? = some t ∧ ps[k]? = some p ∧ look env' t = p
  | [], [], env, env', h, t => by simp [zipE] at h; subst h; exact Or.inl rfl
  | [], _ :: _, env, env', h, t => by simp [zipE] at h
  | _ :: _, [], env, env', h, t => by simp [zipE] at h
  | s :: ts, p :: ps, env, env', h, t => by
    simp only [zipE] at h
    cases hz : zipE ts ps env with
    | none => rw [hz] at h; simp at h
    | some e =>
      rw [hz] at h; simp at h; subst h
      rw [look_cons]
      by_cases hs : s = t
      · subst hs; exact Or.inr ⟨0, p, rfl, rfl, by rw [if_pos rfl]⟩
      · rw [if_neg hs]
        rcases zipE_look hz t with h | ⟨k, q, h1, h2, h3⟩
        · exact Or.inl h
        · exact Or.inr ⟨k + 1, q, by simpa using h1, by simpa using h2, h3⟩

theorem evCut_sound {F : (Exit → Act → World → Prop) → Act → World → Prop} (hmono : ∀ {Q Q' : Exit → Act → World → Prop} {a : Act} {w : World}, F Q a w → (∀ e a w, Q e a w → Q' e a w) → F Q' a w) {ds ins outs : List Nat} {ent : CutEnt} {st : St} (hc : CutAt F x.N ds ins outs ent (renL (idx (reach 64 st.heap (refsL (looks st.env ins)) [])) (looks st.env ins)) (localH false st.heap (reach 64 st.heap (refsL (looks st.env ins)) []))) {K : Xt → St → Option R} {r : R}
    (h : evCut ins outs ds ent st K = some r) (hW : ∀ d ∈ ds, x.W d) {Q : Exit → Act → World → Prop} (hQ : ∀ m e st' a w, K e st' = some r → Sim x m st' a w → Q e.to a w)
    {m : Inj} {a : Act} {w : World} (S : Sim x m st a w) : F Q a w := by
  unfold evCut at h
  simp only [] at h
  obtain ⟨hg, h1⟩ := guardB_some h
  obtain ⟨⟨b, alts⟩, hr, h2a⟩ := bindO_some h1
  simp only [] at h2a
  obtain ⟨hb, h2b⟩ := guardB_some h2a
  subst hb
  obtain ⟨⟨e, ps, H'⟩, hpick, h2⟩ := evAlts_some h2b
  simp only [] at h2
  simp only [Bool.and_eq_true] at hg
  obtain ⟨hnd, hlt⟩ := hg
  generalize hids : reach 64 st.heap (refsL (looks st.env ins)) [] = ids at *
  cases hz : zipUp (backN ids st.heap.length) ids H' with
  | none => rw [hz] at h2; simp at h2
  | some un =>
    obtain ⟨up, nw⟩ := un
    rw [hz] at h2; simp only [] at h2
    obtain ⟨env', he', hk⟩ := bindO_some h2
    have hreads : ∀ i ∈ ids, ∀ B, getB st.heap i = some B → BRep m w i B := fun i _ B hB => S.rep i B hB
    obtain ⟨l1, l2⟩ := local_ok (q := false) hnd hreads (Sim.dis' S ids)
    have hsub : ∀ i k y, idx ids i = some k → m i = some y → subInj m ids k = some y := fun i k y hi hy => by
      simp [subInj, idx_nth hi, hy]
    have htop : ∀ i, (localH false st.heap ids).length ≤ i → subInj m ids i = none := by
      intro i hi
      simp only [localH, List.length_map] at hi
      simp [subInj, nth_eq, List.getElem?_eq_none hi]
    have hargs := (looks_rvs (a := a) S.env ins).ren hsub
    refine hmono (hc alts hr e ps H' hpick _ w a S.size S.defers htop l1 l2 hargs) ?_
    rintro ex a' w' ⟨rfl, hsz, hdef, hkeep, hpl, mc, hpost⟩
    have hback := back_post (m := m) (q := false) hlt hnd rfl hz hpost
    simp only [cond_false] at hback
    have hstep := SimF.step (dst := none) S hback (apply_upd hback.upf hback.upn) (fun t => S.env t) (env' := look st.env) (fun t => by simp) (fun d h => by cases h) (fun d h => by cases h)
    refine hQ (backInj m mc ids st.heap.length nw.length) e _ a' w' hk ?_
    have hvals : ∀ (k : Nat) (t : Nat) (p : PV), outs[k]? = some t → (renL (backN ids st.heap.length) ps)[k]? = some p → Rv (backInj m mc ids st.heap.length nw.length) p (a'.tmps.getD t undef) := by
      intro k t p ht hp
      have hv := hback.val
      unfold renP Rv at hv
      obtain ⟨us, hus, hrs⟩ := hv
      obtain ⟨u, hu, hru⟩ := hrs.get hp
      have : us = outs.map fun t => a'.tmps.getD t undef := by
        have := congrArg (fun v => match v with | Value.tuple xs => xs.toList | _ => []) hus
        simpa using this.symm
      rw [this, List.getElem?_map, ht] at hu
      simp at hu; rw [Array.getD_eq_getD_getElem?, hu]; exact hru
    refine ⟨hsz, hdef, fun t => ?_, hstep.rep, hstep.dis, hstep.top, hstep.len, hstep.mext, hstep.orig, hstep.nfresh, hstep.ndist, hstep.frame, fun t ht => ?_⟩
    · rcases zipE_look he' t with hl | ⟨k, p, hk1, hk2, hk3⟩
      · rw [hl, undefs_look]
        by_cases hd : t ∈ ds
        · rw [if_pos hd]; unfold Rv; trivial
        · rw [if_neg hd, hkeep t hd]
          exact hstep.env t
      · rw [hk3]; exact hvals k t p hk1 hk2
    · rw [hkeep t (fun hd => ht (hW t hd))]
      exact S.keep t ht

theorem evCode_sound {T : Table} (hT : TableOK P T) (hm : P.follows .mixedOrders = true) {cuts : Cuts} : ∀ (c : Code) {st : St} {K : Xt → St → Option R} {r : R}, evCode P T cuts x.N c st K = some r → CutsOK P x.N cuts c → (∀ d ∈ dsts c, x.W d) →
    ∀ {Q : Exit → Act → World → Prop}, (∀ m e st' a w, K e st' = some r → Sim x m st' a w → Q e.to a w) → ∀ {m : Inj} {a : Act} {w : World}, Sim x m st a w → c.wp P Q a w := by
  have dstOps : ∀ (l : List Oper) (o : Oper) (d : Nat), o ∈ l → o.dst = some d → d ∈ dstsOps l := by
    intro l
    induction l with
    | nil => intro o d h; simp at h
    | cons y l ih =>
      intro o d h hd
      unfold dstsOps
      rcases List.mem_cons.1 h with rfl | h
      · rw [hd]; simp
      · have := ih o d h hd
        cases y.dst <;> simp [this]
  intro c
  induction c with
  | skip => intro st K r h _ _ Q hQ m a w S; exact wp_skip (hQ m .normal st a w h S)
  | label l => intro st K r h _ _ Q hQ m a w S; exact wp_label (hQ m .normal st a w h S)
  | exit id => intro st K r h _ _ Q hQ m a w S; exact wp_exit (hQ m (.exit id) st a w h S)
  | ret => intro st K r h _ _ Q hQ m a w S; exact wp_ret (hQ m .ret st a w h S)
  | goto l => intro st K r h; simp [evCode] at h
  | refuse y => intro st K r h; simp [evCode] at h
  | scope b _ => intro st K r h; simp [evCode] at h
  | rangeFunc f ps a b _ _ => intro st K r h; simp [evCode] at h
  | region id ops d =>
    intro st K r h _ hW Q hQ m a w S
    have hWo : ∀ o ∈ ops.toList, ∀ d, o.dst = some d → x.W d := fun o ho d hd => hW d (dstOps _ o d ho hd)
    cases d with
    | true =>
      simp only [evCode, cond_true] at h
      exact evDraw_sound hT hm h hWo (fun m st' a w hk S => hQ m .normal st' a w hk S) S
    | false =>
      simp only [evCode, cond_false] at h
      have := evOps_sound (Q := Q) hT ops.toList st h hWo (fun m st' a w hk S => hQ m .normal st' a w hk S) m a w S
      exact wp_region_list (by simpa using this)
  | seq b c ihb ihc =>
    intro st K r h hC hW Q hQ m a w S
    simp only [evCode] at h
    refine wp_seq (ihb h (fun p hp => hC p (by simp [blocks, hp])) (fun d hd => hW d (by simp [dsts, hd])) ?_ S)
    intro m' e st' a' w' hk S'
    cases e with
    | normal => exact ihc hk (fun p hp => hC p (by simp [blocks, hp])) (fun d hd => hW d (by simp [dsts, hd])) hQ S'
    | exit i => exact hQ m' _ st' a' w' hk S'
    | ret => exact hQ m' _ st' a' w' hk S'
  | cond cnd b c ihb ihc =>
    intro st K r h hC hW Q hQ m a w S
    simp only [evCode] at h
    cases ho : opd st.env cnd <;> rw [ho] at h <;> (try simp only [] at h) <;> (try contradiction)
    rename_i v
    cases v <;> (try simp only [] at h) <;> (try contradiction)
    rename_i t
    have hv : a.eval cnd = .bool t := by
      have := opd_rv (a := a) S.env cnd
      rw [ho] at this
      exact Rv_sc.1 this
    have hCb : CutsOK P x.N cuts b := fun p hp => hC p (by simp [blocks, hp])
    have hCc : CutsOK P x.N cuts c := fun p hp => hC p (by simp [blocks, hp])
    have hWb : ∀ d ∈ dsts b, x.W d := fun d hd => hW d (by simp [dsts, hd])
    have hWc : ∀ d ∈ dsts c, x.W d := fun d hd => hW d (by simp [dsts, hd])
    have refineS : ∀ s, cnd = .tmp s → Sim x m ⟨(s, .sc (.bool t)) :: st.env, st.heap⟩ a w := by
      intro s hs
      have hl : look ((s, .sc (.bool t)) :: st.env) = look st.env := by
        funext q
        rw [look_cons]
        by_cases e : s = q
        · subst e; rw [if_pos rfl]; rw [hs] at ho; exact ho.symm
        · rw [if_neg e]
      show SimF x m (look ((s, .sc (.bool t)) :: st.env)) (getB st.heap) a w
      rw [hl]; exact S
    refine wp_cond hv ?_
    cases cnd with
    | tmp s =>
      simp only [] at h
      cases t with
      | true => exact ihb (by simpa using h) hCb hWb hQ (refineS s rfl)
      | false => exact ihc (by simpa using h) hCc hWc hQ (refineS s rfl)
    | const v =>
      simp only [] at h
      cases t with
      | true => exact ihb (by simpa using h) hCb hWb hQ S
      | false => exact ihc (by simpa using h) hCc hWc hQ S
    | global v =>
      simp only [] at h
      cases t with
      | true => exact ihb (by simpa using h) hCb hWb hQ S
      | false => exact ihc (by simpa using h) hCc hWc hQ S
    | func v =>
      simp only [] at h
      cases t with
      | true => exact ihb (by simpa using h) hCb hWb hQ S
      | false => exact ihc (by simpa using h) hCc hWc hQ S
  | block id c ih =>
    intro st K r h hC hW Q hQ m a w S
    simp only [evCode] at h
    have hQ' : ∀ m (e : Xt) st' a w, (match e with
        | .exit i => bif Nat.beq i id then K .normal st' else K (.exit i) st'
        | e => K e st') = some r → Sim x m st' a w → Exit.inBlock id Q e.to a w := by
      intro m' e st' a' w' hk S'
      cases e with
      | normal => exact hQ m' .normal st' a' w' hk S'
      | ret => exact hQ m' .ret st' a' w' hk S'
      | exit i =>
        simp only [] at hk
        show (if i = id then Q .normal a' w' else Q (.exit i) a' w')
        cases hb : Nat.beq i id with
        | true =>
          rw [hb] at hk
          rw [if_pos (Nat.eq_of_beq_eq_true hb)]
          exact hQ m' .normal st' a' w' hk S'
        | false =>
          rw [hb] at hk
          rw [if_neg (fun (e : i = id) => by rw [e] at hb; simp at hb)]
          exact hQ m' (.exit i) st' a' w' hk S'
    refine wp_block ?_
    cases hcut : cuts id with
    | none =>
      rw [hcut] at h; simp only [] at h
      exact ih h (fun p hp => hC p (by simp [blocks, hp])) hW (fun m e st' a w hk S => hQ' m e st' a w (by cases e <;> exact hk) S) S
    | some q =>
      obtain ⟨ins, outs, ent⟩ := q
      rw [hcut] at h; simp only [] at h
      exact evCut_sound (F := fun Q => c.wp P Q) (fun h k => wp_mono h k) (hC (id, c) (by simp [blocks]) ins outs ent hcut _ _) h hW (fun m e st' a w hk S => hQ' m e st' a w (by cases e <;> exact hk) S) S
  | loop c ih =>
    intro st K r h hC hW Q hQ m a w S
    simp only [evCode] at h
    refine wp_loop_rounds 20 ?_
    have : ∀ (k : Nat) (st : St) (m : Inj) (a : Act) (w : World), evCode.rounds (evCode P T cuts x.N c) k st K = some r → Sim x m st a w → Code.rounds P c Q k a w := by
      intro k
      induction k with
      | zero => intro st m a w h; simp [evCode.rounds] at h
      | succ k ihk =>
        intro st m a w h S
        simp only [evCode.rounds] at h
        rw [rounds_succ]
        refine ih h hC hW ?_ S
        intro m' e st' a' w' hk S'
        cases e with
        | normal => exact ihk st' m' a' w' hk S'
        | exit i => exact hQ m' _ st' a' w' hk S'
        | ret => exact hQ m' _ st' a' w' hk S'
    exact this 20 st m a w h S
end
end Go.Proofs.YtokephobkllfgaaDoorEv
