/- What is proved here: a region whose order is drawn answers as the text's order does, whatever order is drawn, where the evaluator's check has passed. No condition but that the table's contracts hold. -/
import Derived.Test.YtokephobkllfgaaDoorEvP
namespace Go.Proofs.YtokephobkllfgaaDoorEv
open Go

theorem mem_news : ∀ (l : List Blk) (n i : Nat), i ∈ ups.news n l ↔ n ≤ i ∧ i < n + l.length
  | [], n, i => by simp [ups.news]
  | B :: r, n, i => by
    simp only [ups.news, List.mem_cons, mem_news r, List.length_cons]; omega
theorem mem_ups {n : Nat} {c : Chg} {i : Nat} : i ∈ ups n c ↔ (∃ B, (i, B) ∈ c.up) ∨ (n ≤ i ∧ i < n + c.nw.length) := by
  unfold ups
  rw [List.mem_append, mem_news, List.mem_map]
  constructor
  · rintro (⟨⟨j, B⟩, h, rfl⟩ | h)
    · exact Or.inl ⟨B, h⟩
    · exact Or.inr h
  · rintro (⟨B, h⟩ | h)
    · exact Or.inl ⟨(i, B), h, rfl⟩
    · exact Or.inr h
theorem apartL_iff : ∀ {l r : List Nat}, apartL l r = true → ∀ i, i ∈ l → i ∉ r
  | [], r, _, i, h => by simp at h
  | j :: l, r, h, i, hi => by
    simp only [apartL, Bool.and_eq_true, Bool.not_eq_true'] at h
    rcases List.mem_cons.1 hi with rfl | hi
    · intro hr; rw [memN_iff.2 hr] at h; cases h.1
    · exact apartL_iff h.2 i hi
theorem free1_get {ops : Array Oper} {o : Oper} {pre : Nat} {rd up : List Nat} : ∀ {rs : List Rec} {j : Nat}, free1 ops o pre rd up j rs = true → ∀ k y, rs[k]? = some y → pre.testBit (j + k) = false →
    y.o.apart ops o = true ∧ (∀ i ∈ up, i ∉ y.rd) ∧ (∀ i ∈ up, i ∉ y.up) ∧ (∀ i ∈ y.up, i ∉ rd)
  | [], j, _, k, y, h, _ => by simp at h
  | x :: r, j, hf, k, y, h, hb => by
    simp only [free1, Bool.and_eq_true] at hf
    cases k with
    | zero =>
      simp at h; subst h
      rw [Nat.add_zero] at hb
      have h1 := hf.1
      rw [hb] at h1
      simp only [cond_false, Bool.and_eq_true] at h1
      exact ⟨h1.1.1.1, apartL_iff h1.1.1.2, apartL_iff h1.1.2, apartL_iff h1.2⟩
    | succ k => exact free1_get hf.2 k y (by simpa using h) (by rwa [show j + 1 + k = j + (k + 1) by omega])
theorem maskAt_get : ∀ (rs : List Rec) (j b : Nat), (maskAt rs j).testBit b = true → ∃ y, rs[j]? = some y ∧ y.pre.testBit b = true
  | [], j, b, h => by simp [maskAt] at h
  | x :: r, 0, b, h => ⟨x, rfl, h⟩
  | x :: r, j + 1, b, h => by simpa using maskAt_get r j b h
theorem preOf_get {rs : List Rec} : ∀ {es : List Edge} {b : Nat}, (preOf rs es).testBit b = true → ∃ e ∈ es, Region.binds .any e = true ∧ (e.on = b ∨ ∃ y, rs[e.on]? = some y ∧ y.pre.testBit b = true)
  | [], b, h => by simp [preOf] at h
  | e :: r, b, h => by
    simp only [preOf] at h
    cases hb : Region.binds .any e with
    | false =>
      rw [hb] at h
      obtain ⟨e', h1, h2⟩ := preOf_get (es := r) h
      exact ⟨e', List.mem_cons_of_mem _ h1, h2⟩
    | true =>
      rw [hb, cond_true, Nat.testBit_or, Nat.testBit_or] at h
      simp only [Bool.or_eq_true] at h
      rcases h with (h | h) | h
      · rw [Nat.testBit_two_pow] at h
        exact ⟨e, List.mem_cons_self, hb, Or.inl (by simpa using h)⟩
      · exact ⟨e, List.mem_cons_self, hb, Or.inr (maskAt_get _ _ _ h)⟩
      · obtain ⟨e', h1, h2⟩ := preOf_get (es := r) h
        exact ⟨e', List.mem_cons_of_mem _ h1, h2⟩
theorem edgesLt_get {i : Nat} : ∀ {es : List Edge}, edgesLt i es = true → ∀ e ∈ es, Region.binds .any e = true → e.on < i
  | [], _, e, h, _ => by simp at h
  | x :: r, he, e, h, hb => by
    simp only [edgesLt, Bool.and_eq_true, Bool.or_eq_true, Bool.not_eq_true'] at he
    rcases List.mem_cons.1 h with rfl | h
    · rcases he.1 with h1 | h1
      · rw [hb] at h1; cases h1
      · exact Nat.le_of_ble_eq_true h1
    · exact edgesLt_get he.2 e h hb

theorem uh_apply (t : Tr) : ovr (getB t.H) t.uh = getB (t.c.apply t.H) := by
  funext i
  unfold ovr Tr.uh
  by_cases h : i ∈ t.tch
  · simp [h]
  · simp only [h, if_false]
    unfold Tr.tch at h
    rw [mem_ups] at h
    have hno : ∀ B, (i, B) ∉ t.c.up := fun B hB => h (Or.inl ⟨B, hB⟩)
    unfold Chg.apply
    rw [getB_eq, getB_eq]
    by_cases hi : i < t.H.length
    · rw [List.getElem?_append_left (by rw [setBs_len]; exact hi), ← getB_eq, ← getB_eq, setBs_other _ _ i hno]
    · rw [List.getElem?_eq_none (by omega), List.getElem?_eq_none (by rw [List.length_append, setBs_len]; omega)]

section
variable {P : Program} {R : Type} {x : Ctx} {ops : List Oper}

theorem trace_at {i : Nat} {rs : List Rec} {l : List Oper} {st : St} {tr : List Tr} {st' : St} (h : Trace P x ops i rs l st tr st') :
    tr.length = l.length ∧ look st'.env = stF (fun _ => true) i (tr.map Tr.ue) (look st.env) ∧ getB st'.heap = stF (fun _ => true) i (tr.map Tr.uh) (getB st.heap) ∧
    ∀ j t, tr[j]? = some t → l[j]? = some t.o ∧ TrOK P x ops t (stF (fun q => decide (q < i + j)) i (tr.map Tr.ue) (look st.env)) (stF (fun q => decide (q < i + j)) i (tr.map Tr.uh) (getB st.heap)) ∧
      edgesLt (i + j) t.o.after.toList = true ∧ t.pre = preOf (rs ++ (tr.take j).map Tr.rc) t.o.after.toList ∧ free1 ops.toArray t.o t.pre t.c.rd t.tch 0 (rs ++ (tr.take j).map Tr.rc) = true := by
  induction h with
  | nil i rs st => exact ⟨rfl, rfl, rfl, fun j t h => by simp at h⟩
  | @cons i rs o l st t env' tr st' ho hH hpre he hf hok henv hnext ih =>
    obtain ⟨h1, h2, h3, h4⟩ := ih
    have hue : look env' = ovr (look st.env) t.ue := by
      funext s
      rw [henv]
      unfold ovr Tr.ue
      rw [ho]
      by_cases hd : o.dst = some s <;> simp [hd]
    have huh : getB (t.c.apply st.heap) = ovr (getB st.heap) t.uh := by rw [← hH]; exact (uh_apply t).symm
    have hnone : ∀ {V : Type} (us : List (Nat → Option V)) (k : Nat) (f : Nat → V), stF (fun q => decide (q < i + 0)) (i + k) us f = f := by
      intro V us
      induction us with
      | nil => intro k f; rfl
      | cons u us ih =>
        intro k f
        unfold stF
        rw [show decide (i + k < i + 0) = false from by simp, cond_false]
        exact ih (k + 1) f
    refine ⟨by simp [h1], ?_, ?_, ?_⟩
    · rw [h2]; simp only [List.map_cons, stF, cond_true, hue]
    · rw [h3]; simp only [List.map_cons, stF, cond_true, huh]
    · intro j q hq
      cases j with
      | zero =>
        simp at hq; subst hq
        refine ⟨by simp [ho], ?_, by rw [ho, Nat.add_zero]; exact he, by rw [ho]; simpa using hpre, by rw [ho]; simpa [Tr.tch] using hf⟩
        have e1 := hnone ((t :: tr).map Tr.ue) 0 (look st.env)
        have e2 := hnone ((t :: tr).map Tr.uh) 0 (getB st.heap)
        rw [Nat.add_zero] at e1 e2 ⊢
        rw [e1, e2]; exact hok
      | succ j =>
        obtain ⟨g1, g2, g3, g4, g5⟩ := h4 j q (by simpa using hq)
        have e3 : ∀ q, decide (q < i + 1 + j) = decide (q < i + (j + 1)) := fun q => by rw [show i + 1 + j = i + (j + 1) by omega]
        refine ⟨by simpa using g1, ?_, by rw [show i + (j + 1) = i + 1 + j by omega]; exact g3, ?_, ?_⟩
        · have : ∀ {V : Type} (u : Nat → Option V) (us : List (Nat → Option V)) (f : Nat → V), stF (fun q => decide (q < i + (j + 1))) i (u :: us) f = stF (fun q => decide (q < i + 1 + j)) (i + 1) us (ovr f u) := by
            intro V u us f
            rw [stF, show decide (i < i + (j + 1)) = true from by simp, cond_true, show i + (j + 1) = i + 1 + j by omega]
          rw [List.map_cons, List.map_cons, this, this, ← hue, ← huh]
          exact g2
        · rw [g4]; simp
        · simpa using g5

theorem Post.congr {m m' : Inj} {w w' : World} {hp hp2 : Nat → Option Blk} {n : Nat} {p : PV} {c : Chg} {v : Value} (h : Post m w hp n p c v m' w') (he : ∀ i B, (i, B) ∈ c.up → hp i = hp2 i) : Post m w hp2 n p c v m' w' :=
  ⟨h.val, h.ext, h.up, h.nw, fun i B hB hd => by rw [← he i B hB]; exact h.own i B hB hd,
    fun k b base t B hk hd hm => (h.fresh k b base t B hk hd hm).imp id fun ⟨i, B0, base0, t0, h1, h2, h3⟩ => ⟨i, B0, base0, t0, h1, by rw [← he i _ h1]; exact h2, h3⟩,
    h.dist, h.frame.mono fun b _ ⟨i, B, B0, base, t, h1, h2, h3⟩ => ⟨i, B, B0, base, t, h1, by rw [← he i B h1]; exact h2, h3⟩, h.upf, fun i B hB => by rw [← he i B hB]; exact h.upn i B hB⟩

theorem filter_less (n i : Nat) (p q : Nat → Bool) (hi : i < n) (hp : p i = true) (hq : ∀ k, q k = if k = i then false else p k) : ((List.range n).filter q).length + 1 = ((List.range n).filter p).length := by
  induction n with
  | zero => omega
  | succ n ih =>
    rw [List.range_succ, List.filter_append, List.filter_append, List.length_append, List.length_append]
    by_cases e : i = n
    · subst e
      have : (List.range i).filter q = (List.range i).filter p := by
        apply List.filter_congr
        intro k hk
        have := List.mem_range.1 hk
        rw [hq, if_neg (by omega)]
      rw [this]
      simp [hq, hp]
    · have h1 := ih (by omega)
      have : [n].filter q = [n].filter p := by
        apply List.filter_congr
        intro k hk
        simp at hk; subst hk
        rw [hq, if_neg (fun h => e h.symm)]
      rw [this]; omega
end
end Go.Proofs.YtokephobkllfgaaDoorEv
