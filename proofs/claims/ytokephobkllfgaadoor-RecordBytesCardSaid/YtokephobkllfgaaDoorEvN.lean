/- What is proved here: how the evaluator's state stands to a frame and a world of the machine's, and that each operation keeps it. No condition. -/
import Derived.Test.YtokephobkllfgaaDoorEvM
namespace Go.Proofs.YtokephobkllfgaaDoorEv
open Go

/-- Where a piece of code began: the blocks that it was given, where they lay, the world, its slots. -/
structure Ctx where
  H0 : List Blk
  m0 : Inj
  w0 : World
  N : Nat
  W : Nat → Prop
  a0 : Act

def Ctx.Own (x : Ctx) (b : Nat) : Prop := ∃ i B base t, getB x.H0 i = some B ∧ B.own = true ∧ x.m0 i = some (b, base, t)

structure SimF (x : Ctx) (m : Inj) (env : Nat → PV) (hp : Nat → Option Blk) (a : Act) (w : World) : Prop where
  size : a.tmps.size = x.N
  defers : a.defers = []
  env : ∀ t, Rv m (env t) (a.tmps.getD t undef)
  rep : ∀ i B, hp i = some B → BRep m w i B
  dis : Dis m w hp
  top : ∀ i, hp i = none → m i = none
  len : ∀ i, i < x.H0.length → ∃ B, hp i = some B
  mext : ∀ i, i < x.H0.length → m i = x.m0 i
  orig : ∀ i B, i < x.H0.length → hp i = some B → B ≠ .dead → ∃ B0, getB x.H0 i = some B0 ∧ B0 ≠ .dead ∧ B.own = B0.own
  nfresh : ∀ (i b base t : Nat) (B : Blk), x.H0.length ≤ i → hp i = some B → B ≠ .dead → m i = some (b, base, t) →
    x.w0.heap.size ≤ b ∨ ∃ j B0 base0 t0, j < x.H0.length ∧ hp j = some .dead ∧ getB x.H0 j = some B0 ∧ B0.own = true ∧ x.m0 j = some (b, base0, t0)
  ndist : ∀ (i j b base t base2 t2 : Nat) (B B2 : Blk), x.H0.length ≤ i → x.H0.length ≤ j → hp i = some B → hp j = some B2 → B ≠ .dead → B2 ≠ .dead → m i = some (b, base, t) → m j = some (b, base2, t2) → i = j
  frame : Fr x.Own x.w0 w
  keep : ∀ t, ¬ x.W t → a.tmps.getD t undef = x.a0.tmps.getD t undef
abbrev Sim (x : Ctx) (m : Inj) (st : St) (a : Act) (w : World) : Prop := SimF x m (look st.env) (getB st.heap) a w

/-- The blocks behind an operation that began with the next number n. -/
structure Upd (c : Chg) (n : Nat) (hp hp' : Nat → Option Blk) : Prop where
  up : ∀ i B, (i, B) ∈ c.up → hp' i = some B
  nw : ∀ k, k < c.nw.length → hp' (n + k) = c.nw[k]?
  same : ∀ i, (∀ B, (i, B) ∉ c.up) → (i < n ∨ n + c.nw.length ≤ i) → hp' i = hp i
  free : ∀ k, k < c.nw.length → hp (n + k) = none

theorem setB_len (H : List Blk) (i : Nat) (B : Blk) : (setB H i B).length = H.length := by rw [setB_eq]; simp
theorem setBs_len : ∀ (up : List (Nat × Blk)) (H : List Blk), (setBs H up).length = H.length
  | [], H => rfl
  | (i, B) :: r, H => by unfold setBs; rw [setBs_len r, setB_len]
theorem setBs_other : ∀ (up : List (Nat × Blk)) (H : List Blk) (i : Nat), (∀ B, (i, B) ∉ up) → getB (setBs H up) i = getB H i
  | [], H, i, _ => rfl
  | (j, B) :: r, H, i, h => by
    unfold setBs
    rw [setBs_other r _ i (fun B' hB => h B' (List.mem_cons_of_mem _ hB)), getB_eq, getB_eq, setB_eq, List.getElem?_set]
    have : j ≠ i := fun e => h B (by rw [e]; exact List.mem_cons_self)
    rw [if_neg this]
theorem setBs_same : ∀ (up : List (Nat × Blk)) (H : List Blk), (∀ i B B', (i, B) ∈ up → (i, B') ∈ up → B = B') → ∀ i B, (i, B) ∈ up → i < H.length → getB (setBs H up) i = some B
  | [], H, _, i, B, h, _ => by simp at h
  | (j, B0) :: r, H, hf, i, B, h, hi => by
    unfold setBs
    by_cases hm : ∃ B', (i, B') ∈ r
    · obtain ⟨B', hB'⟩ := hm
      have e : B' = B := hf i B' B (List.mem_cons_of_mem _ hB') h
      subst e
      exact setBs_same r _ (fun i B B' h h' => hf i B B' (List.mem_cons_of_mem _ h) (List.mem_cons_of_mem _ h')) i B' hB' (by rw [setB_len]; exact hi)
    · rw [setBs_other r _ i (fun B' hB => hm ⟨B', hB⟩)]
      rcases List.mem_cons.1 h with h | h
      · cases h
        rw [getB_eq, setB_eq, List.getElem?_set]
        simp [hi]
      · exact absurd ⟨B, h⟩ hm
theorem apply_get {c : Chg} {H : List Blk} {i : Nat} {B : Blk} (hf : ∀ i B B', (i, B) ∈ c.up → (i, B') ∈ c.up → B = B') (h : getB (c.apply H) i = some B) :
    (i < H.length ∧ (i, B) ∈ c.up) ∨ (i < H.length ∧ (∀ B', (i, B') ∉ c.up) ∧ getB H i = some B) ∨ (H.length ≤ i ∧ c.nw[i - H.length]? = some B) := by
  unfold Chg.apply at h
  rw [getB_eq] at h
  by_cases hi : i < H.length
  · rw [List.getElem?_append_left (by rw [setBs_len]; exact hi), ← getB_eq] at h
    by_cases hm : ∃ B', (i, B') ∈ c.up
    · obtain ⟨B', hB'⟩ := hm
      rw [setBs_same _ _ hf i B' hB' hi] at h
      cases h; exact Or.inl ⟨hi, hB'⟩
    · rw [setBs_other _ _ i (fun B' hB => hm ⟨B', hB⟩)] at h
      exact Or.inr (Or.inl ⟨hi, fun B' hB => hm ⟨B', hB⟩, h⟩)
  · rw [List.getElem?_append_right (by rw [setBs_len]; omega), setBs_len] at h
    exact Or.inr (Or.inr ⟨by omega, h⟩)
theorem apply_dead {c : Chg} {H : List Blk} {i : Nat} (hf : ∀ i B B', (i, B) ∈ c.up → (i, B') ∈ c.up → B = B') (h : (i, Blk.dead) ∈ c.up) (hi : i < H.length) : getB (c.apply H) i = some .dead := by
  unfold Chg.apply
  rw [getB_eq, List.getElem?_append_left (by rw [setBs_len]; exact hi), ← getB_eq]
  exact setBs_same _ _ hf i _ h hi
theorem getB_lt {H : List Blk} {i : Nat} {B : Blk} (h : getB H i = some B) : i < H.length := by
  rw [getB_eq] at h; exact (List.getElem?_eq_some_iff.1 h).1
theorem apply_len (c : Chg) (H : List Blk) : (c.apply H).length = H.length + c.nw.length := by
  unfold Chg.apply; rw [List.length_append, setBs_len]

theorem BRep.keep {m m' : Inj} {w w' : World} {i : Nat} {B : Blk} (h : BRep m w i B) (he : Ext m m') (hm : m' i = m i) (hk : ∀ b base t, m i = some (b, base, t) → b < w.heap.size → w'.heap[b]? = w.heap[b]?) : BRep m' w' i B := by
  rcases h with h | ⟨h, k⟩ | ⟨b, base, t, c, e, fz, h1, h2, h3, h4, h5⟩
  · exact Or.inl h
  · exact Or.inr (Or.inl ⟨by rw [hm]; exact h, k⟩)
  · have hlt : b < w.heap.size := (Array.getElem?_eq_some_iff.1 h2).1
    refine Or.inr (Or.inr ⟨b, base, t, c, e, fz, by rw [hm]; exact h1, by rw [hk b base t h1 hlt]; exact h2, h3, h4, fun q p hp => ?_⟩)
    obtain ⟨u, hu, hr⟩ := h5 q p hp
    exact ⟨u, hu, hr.mono he⟩
theorem BRep.lt {m : Inj} {w : World} {i : Nat} {B : Blk} (h : BRep m w i B) (hd : B ≠ .dead) {b base t : Nat} (hm : m i = some (b, base, t)) : b < w.heap.size := by
  rcases h with h | ⟨h, k⟩ | ⟨b', base', t', c, e, fz, h1, h2, _⟩
  · exact absurd h hd
  · rw [h] at hm; cases hm
  · rw [h1] at hm; cases hm
    exact (Array.getElem?_eq_some_iff.1 h2).1
theorem own_live {B : Blk} (h : B.own = true) : B ≠ .dead := fun e => by rw [e] at h; simp [Blk.own] at h

theorem look_cons (s : Nat) (p : PV) (r : List (Nat × PV)) (t : Nat) : look ((s, p) :: r) t = if s = t then p else look r t := by
  show (bif Nat.beq s t then p else look r t) = _
  by_cases h : s = t
  · subst h; simp
  · rw [if_neg h]
    have : Nat.beq s t = false := by
      cases hb : Nat.beq s t with
      | false => rfl
      | true => exact absurd (Nat.eq_of_beq_eq_true hb) h
    rw [this]; rfl
theorem putE_some {N : Nat} {env env' : List (Nat × PV)} {dst : Option Nat} {p : PV} (h : putE N env dst p = some env') : (dst = none ∧ env' = env) ∨ ∃ d, dst = some d ∧ d < N ∧ env' = (d, p) :: env := by
  unfold putE at h
  cases dst with
  | none => simp at h; exact Or.inl ⟨rfl, h.symm⟩
  | some d =>
    simp only [] at h
    cases hb : Nat.blt d N with
    | false => rw [hb] at h; simp at h
    | true =>
      rw [hb] at h; simp at h
      exact Or.inr ⟨d, rfl, Nat.le_of_ble_eq_true hb, h.symm⟩
theorem put_get {a : Act} {d t : Nat} {v : Value} : (a.put (some d) v).tmps.getD t undef = if d = t ∧ d < a.tmps.size then v else a.tmps.getD t undef := by
  simp only [Act.put, Array.getD_eq_getD_getElem?, Array.getElem?_setIfInBounds]
  by_cases h : d = t
  · subst h
    by_cases hs : d < a.tmps.size
    · simp [hs]
    · simp [hs]
  · simp [h]

theorem apply_upd {c : Chg} {H : List Blk} (hf : ∀ i B B', (i, B) ∈ c.up → (i, B') ∈ c.up → B = B') (hn : ∀ i B, (i, B) ∈ c.up → ∃ B0, getB H i = some B0) : Upd c H.length (getB H) (getB (c.apply H)) := by
  have hnone : ∀ i, H.length ≤ i → getB H i = none := fun i hi => by rw [getB_eq]; exact List.getElem?_eq_none hi
  refine ⟨fun i B h => ?_, fun k hk => ?_, fun i h1 h2 => ?_, fun k _ => hnone _ (by omega)⟩
  · obtain ⟨B0, h0⟩ := hn i B h
    unfold Chg.apply
    rw [getB_eq, List.getElem?_append_left (by rw [setBs_len]; exact getB_lt h0), ← getB_eq]
    exact setBs_same _ _ hf i B h (getB_lt h0)
  · unfold Chg.apply
    rw [getB_eq, List.getElem?_append_right (by rw [setBs_len]; omega), setBs_len]
    congr 1; omega
  · unfold Chg.apply
    rcases h2 with h2 | h2
    · rw [getB_eq, List.getElem?_append_left (by rw [setBs_len]; exact h2), ← getB_eq, setBs_other _ _ i h1]
    · rw [hnone i (by omega), getB_eq]
      exact List.getElem?_eq_none (by rw [List.length_append, setBs_len]; exact h2)

theorem SimF.step {x : Ctx} {m m' : Inj} {env env1 env' : Nat → PV} {hp hp' : Nat → Option Blk} {n : Nat} {a : Act} {w w' : World} {p : PV} {c : Chg} {v : Value} {dst : Option Nat} (S : SimF x m env hp a w) (hP : Post m w hp n p c v m' w')
    (hU : Upd c n hp hp') (hl : ∀ t, Rv m (env1 t) (a.tmps.getD t undef)) (he : ∀ t, env' t = if dst = some t then p else env1 t) (hN : ∀ d, dst = some d → d < x.N) (hW : ∀ d, dst = some d → x.W d) : SimF x m' env' hp' (a.put dst v) w' := by
  have htop : ∀ i, n ≤ i → i < n + c.nw.length → m i = none := fun i h1 h2 => S.top i (by
    have := hU.free (i - n) (by omega)
    rwa [show n + (i - n) = i by omega] at this)
  have hext : Ext m m' := by
    intro i y hy
    by_cases hi : n ≤ i ∧ i < n + c.nw.length
    · rw [htop i hi.1 hi.2] at hy; cases hy
    · rw [hP.ext i (by omega)]; exact hy
  have isNew : ∀ {i B}, hp' i = some B → hp i = none → n ≤ i ∧ i < n + c.nw.length ∧ c.nw[i - n]? = some B := by
    intro i B h h0
    have hno : ∀ B', (i, B') ∉ c.up := fun B' hB => by
      obtain ⟨B0, hB0⟩ := hP.upn i B' hB
      rw [h0] at hB0; cases hB0
    by_cases hi : n ≤ i ∧ i < n + c.nw.length
    · refine ⟨hi.1, hi.2, ?_⟩
      have := hU.nw (i - n) (by omega)
      rw [show n + (i - n) = i by omega, h] at this
      exact this.symm
    · rw [hU.same i hno (by omega), h0] at h; cases h
  have isOld : ∀ {i B}, hp i = some B → i < n ∨ n + c.nw.length ≤ i := by
    intro i B h
    by_cases hi : n ≤ i ∧ i < n + c.nw.length
    · have := hU.free (i - n) (by omega)
      rw [show n + (i - n) = i by omega, h] at this; cases this
    · omega
  have hml : ∀ {i B}, hp i = some B → m' i = m i := fun h => hP.ext _ (isOld h)
  have old : ∀ {i B B1}, hp' i = some B → B ≠ .dead → hp i = some B1 → ∃ B0, hp i = some B0 ∧ B0 ≠ .dead ∧ B.own = B0.own := by
    intro i B B1 hB hd h1
    by_cases hm : ∃ B', (i, B') ∈ c.up
    · obtain ⟨B', hB'⟩ := hm
      rw [hU.up i B' hB'] at hB; cases hB
      exact hP.own i _ hB' hd
    · rw [hU.same i (fun B' hB' => hm ⟨B', hB'⟩) (isOld h1)] at hB
      exact ⟨B, hB, hd, rfl⟩
  have deadUp : ∀ {j}, (j, Blk.dead) ∈ c.up → hp' j = some .dead := fun h => hU.up _ _ h
  have newOld : ∀ {i j Bi Bj B1 b base t base2 t2}, hp i = none → hp j = some B1 → hp' i = some Bi → hp' j = some Bj → Bi ≠ .dead → Bj ≠ .dead →
      m' i = some (b, base, t) → m' j = some (b, base2, t2) → False := by
    intro i j Bi Bj B1 b base t base2 t2 hi hj hBi hBj hdi hdj hmi hmj
    obtain ⟨B0, hB0, hd0, _⟩ := old hBj hdj hj
    rw [hml hj] at hmj
    have hblt := (S.rep j B0 hB0).lt hd0 hmj
    obtain ⟨g1, g2, hk⟩ := isNew hBi hi
    rw [show i = n + (i - n) by omega] at hmi
    rcases hP.fresh _ b base t Bi hk hdi hmi with h | ⟨j0, B2, base0, t0, h1, h2, h3, h4⟩
    · omega
    · have hjj : j0 ≠ j := fun e => by
        subst e
        rw [deadUp h1] at hBj
        cases hBj; exact hdj rfl
      exact S.dis.apart j0 j B2 B0 hjj h2 hB0 (own_live h3) hd0 h3 b base0 t0 base2 t2 h4 hmj
  have newNew : ∀ {i j Bi Bj b base t base2 t2}, hp i = none → hp j = none → hp' i = some Bi → hp' j = some Bj → Bi ≠ .dead → Bj ≠ .dead →
      m' i = some (b, base, t) → m' j = some (b, base2, t2) → i = j := by
    intro i j Bi Bj b base t base2 t2 hi hj hBi hBj hdi hdj hmi hmj
    obtain ⟨g1, g2, hk⟩ := isNew hBi hi
    obtain ⟨g3, g4, hk2⟩ := isNew hBj hj
    rw [show i = n + (i - n) by omega] at hmi
    rw [show j = n + (j - n) by omega] at hmj
    have := hP.dist _ _ b base t base2 t2 Bi Bj hk hk2 hdi hdj hmi hmj
    omega
  have deadKept : ∀ {j}, hp j = some .dead → hp' j = some .dead := by
    intro j hj
    by_cases hm : ∃ B', (j, B') ∈ c.up
    · obtain ⟨B', hB'⟩ := hm
      rw [hU.up j B' hB']
      by_cases hd : B' = .dead
      · rw [hd]
      · obtain ⟨B0, h1, h2, _⟩ := hP.own j B' hB' hd
        rw [hj] at h1; cases h1; exact absurd rfl h2
    · rw [hU.same j (fun B' hB' => hm ⟨B', hB'⟩) (isOld hj)]; exact hj
  have cs : ∀ i, hp i = none ∨ ∃ B, hp i = some B := fun i => by cases hp i with | none => exact Or.inl rfl | some B => exact Or.inr ⟨B, rfl⟩
  have some' : ∀ {i B}, hp i = some B → ∃ B', hp' i = some B' := by
    intro i B h
    by_cases hm : ∃ B', (i, B') ∈ c.up
    · obtain ⟨B', hB'⟩ := hm; exact ⟨B', hU.up i B' hB'⟩
    · exact ⟨B, by rw [hU.same i (fun B' hB' => hm ⟨B', hB'⟩) (isOld h)]; exact h⟩
  refine ⟨?_, ?_, ?_, ?_, ?_, ?_, ?_, ?_, ?_, ?_, ?_, ?_, ?_⟩
  · cases dst <;> simp [Act.put, S.size]
  · cases dst <;> exact S.defers
  · intro t
    rw [he]
    cases dst with
    | none => rw [if_neg (by simp)]; exact (hl t).mono hext
    | some d =>
      rw [put_get]
      by_cases h : d = t
      · rw [if_pos (by rw [h]), if_pos ⟨h, by rw [S.size]; exact hN d rfl⟩]; exact hP.val
      · rw [if_neg (fun e => h (by cases e; rfl)), if_neg (fun e => h e.1)]; exact (hl t).mono hext
  · intro i B hB
    by_cases hm : ∃ B', (i, B') ∈ c.up
    · obtain ⟨B', hB'⟩ := hm
      rw [hU.up i B' hB'] at hB; cases hB
      exact hP.up i _ hB'
    · rcases cs i with h0 | ⟨B0, h0⟩
      · obtain ⟨g1, g2, g3⟩ := isNew hB h0
        have := hP.nw _ B g3
        rwa [show n + (i - n) = i by omega] at this
      · rw [hU.same i (fun B' hB' => hm ⟨B', hB'⟩) (isOld h0)] at hB
        by_cases hd : B = .dead
        · exact Or.inl hd
        refine (S.rep i B hB).keep hext (hml hB) (fun b base t hmb hb => hP.frame.block b hb ?_)
        rintro ⟨j, Bj, B1, base0, t0, h1, h2, h3, h4⟩
        have hji : j ≠ i := fun e => by subst e; exact hm ⟨Bj, h1⟩
        exact S.dis.apart j i B1 B hji h2 hB (own_live h3) hd h3 b base0 t0 base t h4 hmb
  · refine ⟨?_, S.dis.gw.fr hP.frame (fun b ⟨i, Bi, B0, base0, t0, _, h2, h3, h4⟩ => S.dis.high i B0 b base0 t0 h2 h3 h4), ?_⟩
    rotate_left
    · intro i B b base t hB ho hm
      rcases cs i with h0 | ⟨B1, h0⟩
      · obtain ⟨g1, g2, hk⟩ := isNew hB h0
        rw [show i = n + (i - n) by omega] at hm
        rcases hP.fresh _ b base t B hk (own_live ho) hm with h | ⟨j0, B2, base0, t0, h1, h2, h3, h4⟩
        · exact Nat.le_trans S.dis.gw.1 h
        · exact S.dis.high j0 B2 b base0 t0 h2 h3 h4
      · obtain ⟨B0, h1, h2, h3⟩ := old hB (own_live ho) h0
        rw [hml h0] at hm
        exact S.dis.high i B0 b base t h1 (by rw [← h3]; exact ho) hm
    intro i j Bi Bj hij hBi hBj hdi hdj hoi b base t base2 t2 hmi hmj
    rcases cs i with hi | ⟨B1, hi⟩
    · rcases cs j with hj | ⟨B2, hj⟩
      · exact hij (newNew hi hj hBi hBj hdi hdj hmi hmj)
      · exact newOld hi hj hBi hBj hdi hdj hmi hmj
    · rcases cs j with hj | ⟨B2, hj⟩
      · exact newOld hj hi hBj hBi hdj hdi hmj hmi
      · obtain ⟨B0, h1, h2, h3⟩ := old hBi hdi hi
        obtain ⟨B3, g1, g2, g3⟩ := old hBj hdj hj
        rw [hml hi] at hmi; rw [hml hj] at hmj
        exact S.dis.apart i j B0 B3 hij h1 g1 h2 g2 (by rw [← h3]; exact hoi) b base t base2 t2 hmi hmj
  · intro i hi
    have h0 : hp i = none := by
      rcases cs i with h | ⟨B, h⟩
      · exact h
      · obtain ⟨B', hB'⟩ := some' h; rw [hi] at hB'; cases hB'
    by_cases hr : n ≤ i ∧ i < n + c.nw.length
    · have := hU.nw (i - n) (by omega)
      rw [show n + (i - n) = i by omega, hi] at this
      have hlt : i - n < c.nw.length := by omega
      rw [List.getElem?_eq_getElem hlt] at this; cases this
    · rw [hP.ext i (by omega)]; exact S.top i h0
  · intro i hi
    obtain ⟨B, h⟩ := S.len i hi
    exact some' h
  · intro i hi
    obtain ⟨B, h⟩ := S.len i hi
    rw [hml h]; exact S.mext i hi
  · intro i B hi hB hd
    obtain ⟨B1, h⟩ := S.len i hi
    obtain ⟨B0, h1, h2, h3⟩ := old hB hd h
    obtain ⟨B2, g1, g2, g3⟩ := S.orig i B0 hi h1 h2
    exact ⟨B2, g1, g2, by rw [h3, g3]⟩
  · intro i b base t B hi hB hd hm
    rcases cs i with h0 | ⟨B3, h0⟩
    · obtain ⟨g1, g2, hk⟩ := isNew hB h0
      rw [show i = n + (i - n) by omega] at hm
      rcases hP.fresh _ b base t B hk hd hm with h | ⟨j0, B1, base0, t0, h1, h2, h3, h4⟩
      · exact Or.inl (Nat.le_trans S.frame.size h)
      · by_cases hj : j0 < x.H0.length
        · obtain ⟨B2, g1, g2, g3⟩ := S.orig j0 B1 hj h2 (own_live h3)
          exact Or.inr ⟨j0, B2, base0, t0, hj, deadUp h1, g1, by rw [← g3]; exact h3, by rw [← S.mext j0 hj]; exact h4⟩
        · rcases S.nfresh j0 b base0 t0 B1 (by omega) h2 (own_live h3) h4 with h | ⟨j, B2, base1, t1, g1, g2, g3⟩
          · exact Or.inl h
          · exact Or.inr ⟨j, B2, base1, t1, g1, deadKept g2, g3⟩
    · obtain ⟨B0, h1, h2, h3⟩ := old hB hd h0
      rw [hml h0] at hm
      rcases S.nfresh i b base t B0 hi h1 h2 hm with h | ⟨j, B1, base0, t0, g1, g2, g3⟩
      · exact Or.inl h
      · exact Or.inr ⟨j, B1, base0, t0, g1, deadKept g2, g3⟩
  · intro i j b base t base2 t2 B B2 hi hj hB hB2 hd hd2 hm hm2
    rcases cs i with hi2 | ⟨B3, hi2⟩
    · rcases cs j with hj2 | ⟨B4, hj2⟩
      · exact newNew hi2 hj2 hB hB2 hd hd2 hm hm2
      · exact (newOld hi2 hj2 hB hB2 hd hd2 hm hm2).elim
    · rcases cs j with hj2 | ⟨B4, hj2⟩
      · exact (newOld hj2 hi2 hB2 hB hd2 hd hm2 hm).elim
      · obtain ⟨B0, h1, h2, _⟩ := old hB hd hi2
        obtain ⟨B1, g1, g2, _⟩ := old hB2 hd2 hj2
        rw [hml hi2] at hm; rw [hml hj2] at hm2
        exact S.ndist i j b base t base2 t2 B0 B1 hi hj h1 g1 h2 g2 hm hm2
  · refine ⟨hP.frame.os.trans S.frame.os, hP.frame.tape.trans S.frame.tape, hP.frame.output.trans S.frame.output, Nat.le_trans S.frame.size hP.frame.size, fun k hk hn => ?_, Nat.le_trans S.frame.drawn hP.frame.drawn⟩
    rw [hP.frame.block k (Nat.lt_of_lt_of_le hk S.frame.size) ?_]
    · exact S.frame.block k hk hn
    · rintro ⟨j, Bj, B0, base0, t0, h1, h2, h3, h4⟩
      by_cases hj : j < x.H0.length
      · obtain ⟨B2, g1, g2, g3⟩ := S.orig j B0 hj h2 (own_live h3)
        exact hn ⟨j, B2, base0, t0, g1, by rw [← g3]; exact h3, by rw [← S.mext j hj]; exact h4⟩
      · rcases S.nfresh j k base0 t0 B0 (by omega) h2 (own_live h3) h4 with h | ⟨j2, B2, base1, t1, g1, g2, g3, g4, g5⟩
        · omega
        · exact hn ⟨j2, B2, base1, t1, g3, g4, g5⟩
  · intro t ht
    cases dst with
    | none => exact S.keep t ht
    | some d =>
      rw [put_get, if_neg (fun e => ht (by rw [← e.1]; exact hW d rfl))]
      exact S.keep t ht

/-- A draw turns nothing. -/
theorem SimF.drew {x : Ctx} {m : Inj} {env : Nat → PV} {hp : Nat → Option Blk} {a : Act} {w : World} (S : SimF x m env hp a w) : SimF x m env hp a { w with drawn := w.drawn + 1 } :=
  ⟨S.size, S.defers, S.env, fun i B h => S.rep i B h, ⟨S.dis.apart, S.dis.gw.fr (Fr.drew (fun _ => False) w) (fun _ h => h.elim), S.dis.high⟩, S.top, S.len, S.mext, S.orig, S.nfresh, S.ndist, S.frame.trans (Fr.drew _ _), S.keep⟩
end Go.Proofs.YtokephobkllfgaaDoorEv
