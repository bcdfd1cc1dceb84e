/- What is proved here: a region whose order is drawn answers as the text's order does, whatever order is drawn, where the evaluator's check has passed. No condition but that the table's contracts hold. -/
import Derived.Test.YtokephobkllfgaaDoorEvQ
namespace Go.Proofs.YtokephobkllfgaaDoorEv
open Go
section
variable {P : Program} {R : Type} {x : Ctx} {ops : List Oper}

/-- The operations that have come up, closed under what they wait for. -/
structure Listed (ops : List Oper) (tr : List Tr) (S : Nat → Bool) : Prop where
  lt : ∀ k, S k = true → k < ops.length
  closed : ∀ k t, tr[k]? = some t → S k = true → ∀ j, t.pre.testBit j = true → S j = true

/-- What two operations that may come up in either order have to do with each other: nothing. -/
structure Free (ops : List Oper) (t u : Tr) : Prop where
  ap : t.o.apart ops.toArray u.o = true
  ur : ∀ i ∈ u.tch, i ∉ t.c.rd
  uu : ∀ i ∈ u.tch, i ∉ t.tch
  ru : ∀ i ∈ t.tch, i ∉ u.c.rd

theorem free_at {l : List Oper} {st st' : St} {tr : List Tr} (h : Trace P x ops 0 [] l st tr st') {k j : Nat} {t u : Tr} (hk : tr[k]? = some t) (hj : tr[j]? = some u) (hkj : k < j) (hp : u.pre.testBit k = false) : Free ops t u := by
  obtain ⟨_, _, _, _, h5⟩ := (trace_at h).2.2.2 j u hj
  rw [List.nil_append] at h5
  have hr : ((tr.take j).map Tr.rc)[k]? = some t.rc := by
    rw [List.getElem?_map, List.getElem?_take, if_pos hkj, hk]; rfl
  obtain ⟨a, b, c, d⟩ := free1_get h5 k t.rc hr (by rw [Nat.zero_add]; exact hp)
  exact ⟨a, b, c, d⟩

theorem looks_apart {t u : Tr} (h : Free ops t u) : (∀ s, t.ue s ≠ none → s ∉ u.o.looksAt ops.toArray ∧ u.ue s = none) ∧ (∀ s, u.ue s ≠ none → s ∉ t.o.looksAt ops.toArray ∧ t.ue s = none) := by
  obtain ⟨h1, h2, h3⟩ := Oper.apart_spec h.ap
  have hu : ∀ (t : Tr) s, t.ue s ≠ none → t.o.dst = some s := fun t s hs => by
    unfold Tr.ue at hs
    by_cases e : t.o.dst = some s
    · exact e
    · simp [e] at hs
  refine ⟨fun s hs => ?_, fun s hs => ?_⟩
  · have hd := hu t s hs
    refine ⟨h1 s hd, ?_⟩
    unfold Tr.ue
    rw [if_neg (h2 s hd)]
  · have hd := hu u s hs
    refine ⟨h3 s hd, ?_⟩
    unfold Tr.ue
    rw [if_neg (fun e => h2 s e hd)]
theorem uh_tch {t : Tr} {i : Nat} (h : t.uh i ≠ none) : i ∈ t.tch := by
  unfold Tr.uh at h
  by_cases e : i ∈ t.tch
  · exact e
  · simp [e] at h

theorem draw_any {Q : Exit → Act → World → Prop} {st st' : St} {tr : List Tr} (htr : Trace P x ops 0 [] ops st tr st') (hW : ∀ o ∈ ops, ∀ d, o.dst = some d → x.W d)
    (hQ : ∀ m a w, Sim x m st' a w → Q .normal a w) : ∀ (fuel : Nat) (listed : Array Bool) (m : Inj) (a : Act) (w : World), listed.size = ops.length →
      fuel = ((List.range ops.length).filter fun k => !listed.getD k true).length → Listed ops tr (fun k => listed.getD k false) →
      SimF x m (stF (fun k => listed.getD k false) 0 (tr.map Tr.ue) (look st.env)) (stF (fun k => listed.getD k false) 0 (tr.map Tr.uh) (getB st.heap)) a w →
      wpAny P .any ops.toArray Q fuel listed a w := by
  obtain ⟨hlen, henv, hheap, hat⟩ := trace_at htr
  have gd : ∀ (listed : Array Bool) (k : Nat), listed.size = ops.length → k < ops.length → listed.getD k true = listed.getD k false := by
    intro listed k hs hk
    rw [Array.getD_eq_getD_getElem?, Array.getD_eq_getD_getElem?, Array.getElem?_eq_getElem (by omega)]; rfl
  have gdo : ∀ (listed : Array Bool) (k : Nat), listed.size = ops.length → ops.length ≤ k → listed.getD k true = true := by
    intro listed k hs hk
    rw [Array.getD_eq_getD_getElem?, Array.getElem?_eq_none (by omega)]; rfl
  -- nothing may come up any more: all have
  have done : ∀ (listed : Array Bool), listed.size = ops.length → Region.ready .any ops.toArray listed = [] → ∀ k, k < ops.length → listed.getD k false = true := by
    intro listed hs hr
    have : ∀ n k, k < n → k < ops.length → listed.getD k false = true := by
      intro n
      induction n with
      | zero => intro k h; omega
      | succ n ih =>
        intro k hk hkl
        cases hb : listed.getD k false with
        | true => rfl
        | false =>
          exfalso
          have hkt : k < tr.length := by omega
          obtain ⟨g1, g2, g3, _⟩ := hat k tr[k] (List.getElem?_eq_getElem hkt)
          have hmem : k ∈ Region.ready .any ops.toArray listed := by
            rw [mem_ready]
            refine ⟨by rw [gd listed k hs hkl]; exact hb, tr[k].o, by simpa using g1, fun e he hbn => ?_⟩
            have hlt := edgesLt_get g3 e (by simpa using he) hbn
            exact ih e.on (by omega) (by omega)
          rw [hr] at hmem; cases hmem
    exact fun k hk => this (k + 1) k (by omega) hk
  have fin : ∀ (listed : Array Bool) (m : Inj) (a : Act) (w : World), listed.size = ops.length → Region.ready .any ops.toArray listed = [] →
      SimF x m (stF (fun k => listed.getD k false) 0 (tr.map Tr.ue) (look st.env)) (stF (fun k => listed.getD k false) 0 (tr.map Tr.uh) (getB st.heap)) a w → Q .normal a w := by
    intro listed m a w hs hr S
    have hall := done listed hs hr
    have e1 := stF_all (fun k => listed.getD k false) (tr.map Tr.ue) 0 (look st.env) (fun j hj => by
      simp only [List.length_map] at hj; simp only [Nat.zero_add]; exact hall j (by omega))
    have e2 := stF_all (fun k => listed.getD k false) (tr.map Tr.uh) 0 (getB st.heap) (fun j hj => by
      simp only [List.length_map] at hj; simp only [Nat.zero_add]; exact hall j (by omega))
    rw [e1, e2, ← henv, ← hheap] at S
    exact hQ m a w S
  intro fuel
  induction fuel with
  | zero =>
    intro listed m a w hs hf hL S
    have hr : Region.ready .any ops.toArray listed = [] := by
      rw [List.eq_nil_iff_forall_not_mem]
      intro k hk
      obtain ⟨h1, o, h2, _⟩ := mem_ready.1 hk
      have hkl : k < ops.length := by
        have := (Array.getElem?_eq_some_iff.1 h2).1
        simpa using this
      have hm : k ∈ (List.range ops.length).filter fun k => !listed.getD k true := List.mem_filter.2 ⟨List.mem_range.2 hkl, by rw [h1]; rfl⟩
      rw [List.length_eq_zero_iff.1 hf.symm] at hm; cases hm
    exact ⟨hr, fin listed m a w hs hr S⟩
  | succ fuel ih =>
    intro listed m a w hs hf hL S
    refine ⟨fun hr => fin listed m a w hs hr S, fun i hi => ?_⟩
    obtain ⟨hun, o, ho, hed⟩ := mem_ready.1 hi
    have hil : i < ops.length := by
      have := (Array.getElem?_eq_some_iff.1 ho).1
      simpa using this
    have hit : i < tr.length := by omega
    obtain ⟨t, hti⟩ : ∃ t, tr[i]? = some t := ⟨tr[i], List.getElem?_eq_getElem hit⟩
    obtain ⟨g1, g2, g3, g4, g5⟩ := hat i t hti
    have hoo : t.o = o := by
      have h2 : ops[i]? = some o := by simpa using ho
      rw [h2] at g1; cases g1; rfl
    have huni : listed.getD i false = false := by rw [← gd listed i hs hil]; exact hun
    -- what it waits for has come up
    have hpre : ∀ j, t.pre.testBit j = true → listed.getD j false = true := by
      intro j hj
      rw [g4, List.nil_append] at hj
      obtain ⟨e, he1, he2, he3⟩ := preOf_get hj
      have hle := hed e (by rw [← hoo]; simpa using he1) he2
      rcases he3 with rfl | ⟨y, hy1, hy2⟩
      · exact hle
      · rw [List.getElem?_map] at hy1
        cases hq : (tr.take i)[e.on]? with
        | none => rw [hq] at hy1; simp at hy1
        | some q =>
          rw [hq] at hy1; simp at hy1; subst hy1
          rw [List.getElem?_take] at hq
          split at hq
          · exact hL.closed e.on q hq hle j hy2
          · cases hq
    -- those that are out of the text's order have nothing to do with it
    have hfree : ∀ j u, tr[j]? = some u → listed.getD j false ≠ decide (j < 0 + i) → j ≠ i → Free ops u t ∨ Free ops t u := by
      intro j u hju hne hji
      rw [Nat.zero_add] at hne
      by_cases hlt : j < i
      · left
        refine free_at htr hju hti hlt ?_
        cases hb : t.pre.testBit j with
        | false => rfl
        | true => rw [hpre j hb] at hne; simp [hlt] at hne
      · right
        have hSj : listed.getD j false = true := by
          cases hb : listed.getD j false with
          | true => rfl
          | false => rw [hb] at hne; simp [hlt] at hne
        refine free_at htr hti hju (by omega) ?_
        cases hb : u.pre.testBit i with
        | false => rfl
        | true => rw [hL.closed j u hju hSj i hb] at huni; cases huni
    have getU : ∀ {V : Type} (f : Tr → V) (j : Nat) (v : V), (tr.map f)[j]? = some v → ∃ u, tr[j]? = some u ∧ v = f u := by
      intro V f j v h
      rw [List.getElem?_map] at h
      cases hq : tr[j]? with
      | none => rw [hq] at h; simp at h
      | some u => rw [hq] at h; simp at h; exact ⟨u, rfl, h.symm⟩
    have hEnv : ∀ s ∈ t.o.looksAt ops.toArray, stF (fun k => listed.getD k false) 0 (tr.map Tr.ue) (look st.env) s = stF (fun q => decide (q < 0 + i)) 0 (tr.map Tr.ue) (look st.env) s := by
      intro s hs'
      refine stF_agree _ _ _ 0 _ _ s rfl (fun j v hj hne => ?_)
      obtain ⟨u, hu, rfl⟩ := getU _ j v hj
      rw [Nat.zero_add] at hne
      by_cases hji : j = i
      · subst hji; exfalso; rw [huni] at hne; simp at hne
      by_cases hn : u.ue s = none
      · exact hn
      · rcases hfree j u hu hne hji with h | h
        · exact absurd hs' ((looks_apart h).1 s hn).1
        · exact absurd hs' ((looks_apart h).2 s hn).1
    have hHeap : ∀ q, q ∈ t.c.rd ∨ q ∈ t.tch → stF (fun k => listed.getD k false) 0 (tr.map Tr.uh) (getB st.heap) q = getB t.H q := by
      intro q hq
      rw [← g2.1]
      refine stF_agree _ _ _ 0 _ _ q rfl (fun j v hj hne => ?_)
      obtain ⟨u, hu, rfl⟩ := getU _ j v hj
      rw [Nat.zero_add] at hne
      by_cases hji : j = i
      · subst hji; exfalso; rw [huni] at hne; simp at hne
      by_cases hn : u.uh q = none
      · exact hn
      · have hm := uh_tch hn
        rcases hfree j u hu hne hji with h | h
        · rcases hq with hq | hq
          · exact absurd hq (h.ru q hm)
          · exact absurd hm (h.uu q hq)
        · rcases hq with hq | hq
          · exact absurd hq (h.ur q hm)
          · exact absurd hq (h.uu q hm)
    have hset : ∀ k, (listed.setIfInBounds i true).getD k false = if k = i then true else listed.getD k false := by
      intro k
      rw [Array.getD_eq_getD_getElem?, Array.getD_eq_getD_getElem?, Array.getElem?_setIfInBounds]
      by_cases e : i = k
      · subst e; rw [if_pos rfl, if_pos (by omega), if_pos rfl]; rfl
      · rw [if_neg e, if_neg (fun h => e h.symm)]
    have nextE := stF_add (fun k => listed.getD k false) (fun k => (listed.setIfInBounds i true).getD k false) (tr.map Tr.ue) (look st.env) i t.ue (by rw [List.getElem?_map, hti]; rfl) huni hset (fun j v s hij hj hSj hn => by
      obtain ⟨u, hu, rfl⟩ := getU _ j v hj
      rcases hfree j u hu (by rw [hSj]; simp; omega) (by omega) with h | h
      · exact ((looks_apart h).2 s hn).2
      · exact ((looks_apart h).1 s hn).2)
    have nextH := stF_add (fun k => listed.getD k false) (fun k => (listed.setIfInBounds i true).getD k false) (tr.map Tr.uh) (getB st.heap) i t.uh (by rw [List.getElem?_map, hti]; rfl) huni hset (fun j v s hij hj hSj hn => by
      obtain ⟨u, hu, rfl⟩ := getU _ j v hj
      have hm := uh_tch hn
      by_cases hn2 : u.uh s = none
      · exact hn2
      · have hm2 := uh_tch hn2
        rcases hfree j u hu (by rw [hSj]; simp; omega) (by omega) with h | h
        · exact absurd hm2 (h.uu s hm)
        · exact absurd hm (h.uu s hm2))
    have hL' : Listed ops tr (fun k => (listed.setIfInBounds i true).getD k false) := by
      constructor
      · intro k hk
        simp only [hset] at hk
        by_cases e : k = i
        · omega
        · rw [if_neg e] at hk; exact hL.lt k hk
      · intro k u hu hk j hj
        simp only [hset] at hk ⊢
        by_cases e : k = i
        · subst e
          rw [hti] at hu; cases hu
          by_cases e2 : j = k
          · rw [if_pos e2]
          · rw [if_neg e2]; exact hpre j hj
        · rw [if_neg e] at hk
          by_cases e2 : j = i
          · rw [if_pos e2]
          · rw [if_neg e2]; exact hL.closed k u hu hk j hj
    have hfu : fuel = ((List.range ops.length).filter fun k => !(listed.setIfInBounds i true).getD k true).length := by
      have := filter_less ops.length i (fun k => !listed.getD k true) (fun k => !(listed.setIfInBounds i true).getD k true) hil (by rw [hun]; rfl) (fun k => by
        by_cases e : k = i
        · subst e; rw [if_pos rfl]; simp [show k < listed.size by omega]
        · rw [if_neg e, getD_set_ne true (fun h => e h.symm)])
      omega
    have hdst : ∀ d, t.o.dst = some d → x.W d := by
      intro d hd
      exact hW o (by have h2 : ops[i]? = some o := by simpa using ho
                     exact List.mem_of_getElem? h2) d (by rw [← hoo]; exact hd)
    have hputE : ∀ s, stF (fun k => (listed.setIfInBounds i true).getD k false) 0 (tr.map Tr.ue) (look st.env) s = if t.o.dst = some s then t.p else stF (fun k => listed.getD k false) 0 (tr.map Tr.ue) (look st.env) s := by
      intro s
      rw [nextE]
      unfold ovr Tr.ue
      by_cases e : t.o.dst = some s <;> simp [e]
    obtain ⟨hgH, hN, hgo⟩ := g2
    have hao : ops.toArray[i]? = some o := ho
    unfold wpOp
    rw [hao]
    simp only []
    have hlooks : ∀ s ∈ t.o.looksAt ops.toArray, Rv m (stF (fun q => decide (q < 0 + i)) 0 (tr.map Tr.ue) (look st.env) s) (a.tmps.getD s undef) := fun s hs' => by
      rw [← hEnv s hs']; exact S.env s
    rcases hgo m a w hlooks with ⟨hwant, hdoes⟩ | ⟨hwant, hp, hc⟩
    · rw [hoo] at hwant hdoes
      rw [if_pos hwant]
      left
      have hnew : ∀ k, k < t.c.nw.length → stF (fun k => listed.getD k false) 0 (tr.map Tr.uh) (getB st.heap) (t.H.length + k) = none := by
        intro k hk
        rw [hHeap _ (Or.inr (by unfold Tr.tch; rw [mem_ups]; right; omega)), getB_eq]
        exact List.getElem?_eq_none (by omega)
      refine (hdoes (fun q hq B hB => S.rep q B (by rw [hHeap q (Or.inl hq)]; exact hB)) (fun q h1 h2 => S.top q (by
          have := hnew (q - t.H.length) (by omega)
          rwa [show t.H.length + (q - t.H.length) = q by omega] at this)) ?_).wp ?_
      · have hd0 := Sim.dis' S t.c.rd
        refine ⟨fun i1 j1 Bi Bj hij hi1 hj1 => hd0.apart i1 j1 Bi Bj hij ?_ ?_, hd0.gw, fun i1 Bi b base tt hi1 ho hm => hd0.high i1 Bi b base tt ?_ ho hm⟩
        rotate_right
        · replace hi1 : (if i1 ∈ t.c.rd then getB t.H i1 else none) = some Bi := hi1
          show (if i1 ∈ t.c.rd then _ else none) = some Bi
          split at hi1
          · rename_i h; rw [if_pos h, hHeap i1 (Or.inl h)]; exact hi1
          · cases hi1
        · replace hi1 : (if i1 ∈ t.c.rd then getB t.H i1 else none) = some Bi := hi1
          show (if i1 ∈ t.c.rd then _ else none) = some Bi
          split at hi1
          · rename_i h; rw [if_pos h, hHeap i1 (Or.inl h)]; exact hi1
          · cases hi1
        · replace hj1 : (if j1 ∈ t.c.rd then getB t.H j1 else none) = some Bj := hj1
          show (if j1 ∈ t.c.rd then _ else none) = some Bj
          split at hj1
          · rename_i h; rw [if_pos h, hHeap j1 (Or.inl h)]; exact hj1
          · cases hj1
      · rintro v w' ⟨m', hpost⟩
        have hup : ∀ q B, (q, B) ∈ t.c.up → q ∈ t.tch := fun q B hB => by unfold Tr.tch; rw [mem_ups]; exact Or.inl ⟨B, hB⟩
        have hpost2 := hpost.congr (hp2 := stF (fun k => listed.getD k false) 0 (tr.map Tr.uh) (getB st.heap)) (fun q B hB => (hHeap q (Or.inr (hup q B hB))).symm)
        have hau := apply_upd hpost.upf hpost.upn
        refine ih _ m' _ w' (by simp [hs]) hfu hL' ?_
        refine SimF.step (n := t.H.length) (dst := o.dst) S hpost2 ⟨?_, ?_, ?_, hnew⟩ S.env (fun s => by rw [hputE, hoo]) (fun d hd => hN d (by rw [hoo]; exact hd)) (fun d hd => hdst d (by rw [hoo]; exact hd))
        · intro q B hB
          rw [nextH]
          unfold ovr Tr.uh
          rw [if_pos (hup q B hB)]
          exact hau.up q B hB
        · intro k hk
          rw [nextH]
          unfold ovr Tr.uh
          rw [if_pos (by unfold Tr.tch; rw [mem_ups]; right; omega)]
          exact hau.nw k hk
        · intro q h1 h2
          rw [nextH]
          unfold ovr Tr.uh
          rw [if_neg (by unfold Tr.tch; rw [mem_ups]; rintro (⟨B, hB⟩ | h)
                         · exact h1 B hB
                         · omega)]
    · rw [hoo] at hwant
      rw [if_neg (by rw [hwant]; simp)]
      refine ih _ m _ w (by simp [hs]) hfu hL' ?_
      have hnoh : ∀ q, stF (fun k => (listed.setIfInBounds i true).getD k false) 0 (tr.map Tr.uh) (getB st.heap) q = stF (fun k => listed.getD k false) 0 (tr.map Tr.uh) (getB st.heap) q := by
        intro q
        rw [nextH]
        unfold ovr Tr.uh
        rw [if_neg (by unfold Tr.tch; rw [mem_ups, hc]; simp)]
      rw [show stF (fun k => (listed.setIfInBounds i true).getD k false) 0 (tr.map Tr.uh) (getB st.heap) = stF (fun k => listed.getD k false) 0 (tr.map Tr.uh) (getB st.heap) from funext hnoh]
      exact SimF.skip S (fun _ => rfl) (fun s => by rw [hputE, hoo, hp]) (fun d hd => hN d (by rw [hoo]; exact hd)) (fun d hd => hdst d (by rw [hoo]; exact hd))

theorem evDraw_sound {T : Table} (hT : TableOK P T) (hm : P.follows .mixedOrders = true) {K : St → Option R} {r : R} {Q : Exit → Act → World → Prop} {id : Nat} {ops : Array Oper} {st : St}
    (h : evDraw P T x.N ops.toList 0 [] ops.toList st K = some r) (hW : ∀ o ∈ ops.toList, ∀ d, o.dst = some d → x.W d)
    (hQ : ∀ m st' a w, K st' = some r → Sim x m st' a w → Q .normal a w) {m : Inj} {a : Act} {w : World} (S : Sim x m st a w) : (Code.region id ops true).wp P Q a w := by
  obtain ⟨tr, st', htr, hK⟩ := evDraw_trace hT _ _ _ _ h
  refine wp_region_any hm ?_
  have hno : ∀ {V : Type} (us : List (Nat → Option V)) (k : Nat) (f : Nat → V), stF (fun k => (Array.replicate ops.size false).getD k false) k us f = f := by
    intro V us
    induction us with
    | nil => intro k f; rfl
    | cons u us ih =>
      intro k f
      unfold stF
      have : (Array.replicate ops.size false).getD k false = false := by
        rw [Array.getD_eq_getD_getElem?]
        by_cases hk : k < ops.size
        · simp [hk]
        · simp [hk]
      rw [this, cond_false]; exact ih (k + 1) f
  have := draw_any (Q := Q) htr hW (fun m a w S => hQ m st' a w hK S) ops.size (Array.replicate ops.size false) m a { w with drawn := w.drawn + 1 } (by simp) ?_ ?_ (by rw [hno, hno]; exact S.drew)
  · simpa using this
  · have : (List.range ops.toList.length).filter (fun k => !(Array.replicate ops.size false).getD k true) = List.range ops.toList.length := by
      rw [List.filter_eq_self]
      intro k hk
      have := List.mem_range.1 hk
      simp at this
      simp [this]
    rw [this]; simp
  · constructor
    · intro k hk
      exfalso
      revert hk
      rw [Array.getD_eq_getD_getElem?]
      by_cases hk : k < ops.size
      · simp [hk]
      · simp [hk]
    · intro k t _ hk
      exfalso
      revert hk
      rw [Array.getD_eq_getD_getElem?]
      by_cases hk : k < ops.size
      · simp [hk]
      · simp [hk]
end
end Go.Proofs.YtokephobkllfgaaDoorEv
