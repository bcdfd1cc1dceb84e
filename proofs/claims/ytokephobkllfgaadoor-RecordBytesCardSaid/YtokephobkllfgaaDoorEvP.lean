/- What is proved here: a region whose order is drawn answers as the text's order does, whatever order is drawn, where the evaluator's check has passed. No condition but that the table's contracts hold. -/
import Derived.Test.YtokephobkllfgaaDoorEvO
namespace Go.Proofs.YtokephobkllfgaaDoorEv
open Go

/-! ### Updates in the text's order, of some operations alone -/
def ovr {V : Type} (f : Nat → V) (u : Nat → Option V) : Nat → V := fun a => match u a with
  | some v => v
  | none => f a
def stF {V : Type} (S : Nat → Bool) : Nat → List (Nat → Option V) → (Nat → V) → (Nat → V)
  | _, [], f => f
  | k, u :: us, f => stF S (k + 1) us (bif S k then ovr f u else f)
section
variable {V : Type}
theorem stF_agree (S S' : Nat → Bool) : ∀ (us : List (Nat → Option V)) (k : Nat) (f g : Nat → V) (a : Nat), f a = g a → (∀ j u, us[j]? = some u → S (k + j) ≠ S' (k + j) → u a = none) → stF S k us f a = stF S' k us g a
  | [], k, f, g, a, h, _ => h
  | u :: us, k, f, g, a, h, H => by
    unfold stF
    refine stF_agree S S' us (k + 1) _ _ a ?_ (fun j u' hj hs => H (j + 1) u' (by simpa using hj) (by rwa [show k + (j + 1) = k + 1 + j by omega]))
    have h0 := H 0 u rfl
    rw [Nat.add_zero] at h0
    cases h1 : S k <;> cases h2 : S' k <;> simp only [cond_true, cond_false]
    · exact h
    · have := h0 (by rw [h1, h2]; simp)
      simp [ovr, this, h]
    · have := h0 (by rw [h1, h2]; simp)
      simp [ovr, this, h]
    · unfold ovr; cases u a <;> simp [h]
theorem stF_hit (S : Nat → Bool) : ∀ (us : List (Nat → Option V)) (k i : Nat) (f : Nat → V) (a : Nat) (u : Nat → Option V) (v : V), us[i]? = some u → u a = some v → S (k + i) = true →
    (∀ j u', i < j → us[j]? = some u' → S (k + j) = true → u' a = none) → stF S k us f a = v
  | [], k, i, f, a, u, v, h, _, _, _ => by simp at h
  | u0 :: us, k, 0, f, a, u, v, h, hu, hS, H => by
    simp at h; subst h
    unfold stF
    rw [Nat.add_zero] at hS
    rw [hS, cond_true]
    have := stF_agree S (fun _ => false) us (k + 1) (ovr f u0) (ovr f u0) a rfl (fun j u' hj hs => by
      have hst : S (k + 1 + j) = true := by cases hq : S (k + 1 + j) with | false => rw [hq] at hs; simp at hs | true => rfl
      exact H (j + 1) u' (by omega) (by simpa using hj) (by rwa [show k + (j + 1) = k + 1 + j by omega]))
    rw [this]
    have hno : ∀ (us : List (Nat → Option V)) (k : Nat) (f : Nat → V), stF (fun _ => false) k us f = f := by
      intro us
      induction us with
      | nil => intro k f; rfl
      | cons u us ih => intro k f; unfold stF; rw [cond_false, ih]
    rw [hno]
    simp [ovr, hu]
  | u0 :: us, k, i + 1, f, a, u, v, h, hu, hS, H => by
    unfold stF
    exact stF_hit S us (k + 1) i _ a u v (by simpa using h) hu (by rwa [show k + 1 + i = k + (i + 1) by omega]) (fun j u' hij hj hs => H (j + 1) u' (by omega) (by simpa using hj) (by rwa [show k + (j + 1) = k + 1 + j by omega]))
/-- One operation more, where no later one that is already done touches what it writes. -/
theorem stF_add (S S' : Nat → Bool) (us : List (Nat → Option V)) (f : Nat → V) (i : Nat) (u : Nat → Option V) (hi : us[i]? = some u) (h0 : S i = false) (hS : ∀ k, S' k = if k = i then true else S k)
    (H : ∀ j u' a, i < j → us[j]? = some u' → S j = true → u a ≠ none → u' a = none) : ∀ a, stF S' 0 us f a = ovr (stF S 0 us f) u a := by
  intro a
  cases hu : u a with
  | some v =>
    rw [stF_hit S' us 0 i f a u v hi hu (by rw [Nat.zero_add, hS, if_pos rfl]) (fun j u' hij hj hs => by
      rw [Nat.zero_add, hS, if_neg (by omega)] at hs
      exact H j u' a hij hj hs (by rw [hu]; simp))]
    try simp [ovr, hu]
  | none =>
    rw [stF_agree S' S us 0 f f a rfl (fun j u' hj hs => by
      rw [Nat.zero_add] at hs
      by_cases e : j = i
      · subst e; rw [hi] at hj; cases hj; exact hu
      · rw [hS, if_neg e] at hs; exact absurd rfl hs)]
    simp [ovr, hu]
theorem stF_all (S : Nat → Bool) : ∀ (us : List (Nat → Option V)) (k : Nat) (f : Nat → V), (∀ j, j < us.length → S (k + j) = true) → stF S k us f = stF (fun _ => true) k us f
  | [], k, f, _ => rfl
  | u :: us, k, f, h => by
    unfold stF
    have := h 0 (by simp)
    rw [Nat.add_zero] at this
    rw [this, cond_true, stF_all S us (k + 1) _ (fun j hj => by rw [show k + 1 + j = k + (j + 1) by omega]; exact h (j + 1) (by simp; omega))]
end

/-- What the text's order has met. -/
structure Tr where
  o : Oper
  p : PV
  c : Chg
  H : List Blk
  pre : Nat
def Tr.ue (t : Tr) : Nat → Option PV := fun s => if t.o.dst = some s then some t.p else none
def Tr.tch (t : Tr) : List Nat := ups t.H.length t.c
def Tr.uh (t : Tr) : Nat → Option (Option Blk) := fun i => if i ∈ t.tch then some (getB (t.c.apply t.H) i) else none
def Tr.rc (t : Tr) : Rec := ⟨t.pre, t.c.rd, ups t.H.length t.c, t.o⟩

/-- What is known of one operation, before which the slots read so and the blocks so. -/
def TrOK (P : Program) (x : Ctx) (ops : List Oper) (t : Tr) (env : Nat → PV) (hp : Nat → Option Blk) : Prop :=
  hp = getB t.H ∧ (∀ d, t.o.dst = some d → d < x.N) ∧
  ∀ (m : Inj) (a : Act) (w : World), (∀ s ∈ t.o.looksAt ops.toArray, Rv m (env s) (a.tmps.getD s undef)) →
    (Region.wanted t.o (yielded ops.toArray a.tmps) = true ∧
      (Reads m w t.H t.c.rd → (∀ i, t.H.length ≤ i → i < t.H.length + t.c.nw.length → m i = none) → Dis m w (fun i => if i ∈ t.c.rd then getB t.H i else none) →
        Does P ((execOp a.eval t.o).run P w) fun v w' => ∃ m', Post m w (getB t.H) t.H.length t.p t.c v m' w')) ∨
    (Region.wanted t.o (yielded ops.toArray a.tmps) = false ∧ t.p = .sc undef ∧ t.c = ⟨[], [], []⟩)

inductive Trace (P : Program) (x : Ctx) (ops : List Oper) : Nat → List Rec → List Oper → St → List Tr → St → Prop
  | nil (i rs st) : Trace P x ops i rs [] st [] st
  | cons {i rs o l st t env' tr st'} (ho : t.o = o) (hH : t.H = st.heap) (hpre : t.pre = preOf rs o.after.toList) (he : edgesLt i o.after.toList = true)
      (hf : free1 ops.toArray o t.pre t.c.rd (ups t.H.length t.c) 0 rs = true) (hok : TrOK P x ops t (look st.env) (getB st.heap)) (henv : ∀ s, look env' s = if o.dst = some s then t.p else look st.env s)
      (hnext : Trace P x ops (i + 1) (rs ++ [t.rc]) l ⟨env', t.c.apply st.heap⟩ tr st') : Trace P x ops i rs (o :: l) st (t :: tr) st'

section
variable {P : Program} {R : Type}
theorem looks_operand {ops : Array Oper} {o : Oper} {t : Nat} (h : Operand.tmp t ∈ o.op.operands) : t ∈ o.looksAt ops :=
  List.mem_append_left _ (List.mem_filterMap.2 ⟨.tmp t, by simpa using h, rfl⟩)
theorem looks_guard {ops : List Oper} {o : Oper} {t : Nat} (h : gslot ops o = some t) : t ∈ o.looksAt ops.toArray := by
  unfold gslot at h
  unfold Oper.looksAt
  apply List.mem_append_right
  cases hg : o.guard with
  | none => rw [hg] at h; simp at h
  | some jw =>
    obtain ⟨j, want⟩ := jw
    rw [hg] at h
    simp only [List.getElem?_toArray] at h ⊢
    rw [h]; simp
theorem opd_looks {m : Inj} {ops : Array Oper} {o : Oper} {env : List (Nat × PV)} {f : Nat → PV} {a : Act} (hl : ∀ s, look env s = f s) (h : ∀ s ∈ o.looksAt ops, Rv m (f s) (a.tmps.getD s undef)) : ∀ y ∈ o.op.operands, Rv m (opd env y) (a.eval y) := by
  intro y hy
  cases y with
  | tmp t => show Rv m (look env t) _; rw [hl]; exact h t (looks_operand hy)
  | const v => exact Rv_ofV v
  | global g => exact Rv_sc.2 rfl
  | func f => unfold opd Rv; exact ⟨[], rfl, Rvs.nil⟩

theorem evDraw_trace {T : Table} (hT : TableOK P T) {x : Ctx} {ops : List Oper} {K : St → Option R} {r : R} : ∀ (l : List Oper) (i : Nat) (rs : List Rec) (st : St), evDraw P T x.N ops i rs l st K = some r →
    ∃ tr st', Trace P x ops i rs l st tr st' ∧ K st' = some r
  | [], i, rs, st, h => ⟨[], st, .nil i rs st, h⟩
  | o :: l, i, rs, st, h => by
    simp only [evDraw] at h
    obtain ⟨he, h⟩ := guardB_some h
    obtain ⟨b, env1, hb, hlk, hw⟩ := evGuard_sound h
    cases b with
    | true =>
      simp only [if_true] at hb
      obtain ⟨p, c, hk, hop⟩ := evOp_sound hT rfl hb
      obtain ⟨hf, hk1⟩ := guardB_some hk
      obtain ⟨env', hp, hk2⟩ := bindO_some hk1
      obtain ⟨hl2, hN⟩ := look_put hp
      obtain ⟨tr, st', htr, hK⟩ := evDraw_trace hT l _ _ _ hk2
      refine ⟨⟨o, p, c, st.heap, preOf rs o.after.toList⟩ :: tr, st', .cons rfl rfl rfl he hf ⟨rfl, hN, fun m a w hlooks => Or.inl ⟨?_, fun hrd hfree hdis => ?_⟩⟩ (fun s => by rw [hl2, hlk]) htr, hK⟩
      · exact hw m a.tmps (fun t ht => hlooks t (looks_guard ht))
      · exact hop m w a.eval o rfl (opd_looks hlk hlooks) hrd hfree hdis
    | false =>
      simp only [Bool.false_eq_true, if_false] at hb
      obtain ⟨hf, hk1⟩ := guardB_some hb
      obtain ⟨env', hp, hk2⟩ := bindO_some hk1
      obtain ⟨hl2, hN⟩ := look_put hp
      have hap : (⟨[], [], []⟩ : Chg).apply st.heap = st.heap := by simp [Chg.apply, setBs]
      obtain ⟨tr, st', htr, hK⟩ := evDraw_trace hT l _ _ _ hk2
      refine ⟨⟨o, .sc undef, ⟨[], [], []⟩, st.heap, preOf rs o.after.toList⟩ :: tr, st', .cons rfl rfl rfl he hf ⟨rfl, hN, fun m a w hlooks => Or.inr ⟨?_, rfl, rfl⟩⟩ (fun s => by rw [hl2, hlk]) (by rw [hap]; exact htr), hK⟩
      exact hw m a.tmps (fun t ht => hlooks t (looks_guard ht))
end
end Go.Proofs.YtokephobkllfgaaDoorEv
