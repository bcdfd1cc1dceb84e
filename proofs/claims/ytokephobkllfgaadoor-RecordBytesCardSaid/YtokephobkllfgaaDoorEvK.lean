/- What is proved here: a call by its contract, over the blocks that its arguments reach, says what the machine's own call does. No condition. -/
import Derived.Test.YtokephobkllfgaaDoorEvJ
namespace Go.Proofs.YtokephobkllfgaaDoorEv
open Go

mutual
theorem Rv.ren {m m' : Inj} {g : Nat → Option Nat} (h : ∀ i k x, g i = some k → m i = some x → m' k = some x) : ∀ {p : PV} {u : Value}, Rv m p u → Rv m' (renP g p) u
  | .sc _, _, H => by unfold renP; unfold Rv at H ⊢; exact H
  | .ptr i _ _ _, _, H => by
    unfold renP
    cases hg : g i with
    | none => unfold Rv; trivial
    | some k => simp only []; unfold Rv at H ⊢; obtain ⟨b, base, t, h1, h2⟩ := H; exact ⟨b, base, t, h i k _ hg h1, h2⟩
  | .sl i _ _ _ _ _ _, _, H => by
    unfold renP
    cases hg : g i with
    | none => unfold Rv; trivial
    | some k =>
      simp only []; unfold Rv at H ⊢
      rcases H with H | ⟨h0, b, base, t, cap, off, h1, h2⟩
      · exact Or.inl H
      · exact Or.inr ⟨h0, b, base, t, cap, off, h i k _ hg h1, h2⟩
  | .fn _ _, _, H => by unfold renP; unfold Rv at H ⊢; obtain ⟨us, h1, h2⟩ := H; exact ⟨us, h1, Rvs.ren h h2⟩
  | .agg _, _, H => by unfold renP; unfold Rv at H ⊢; obtain ⟨us, h1, h2⟩ := H; exact ⟨us, h1, Rvs.ren h h2⟩
  | .arr _ _ _, _, H => by unfold renP; unfold Rv at H ⊢; exact H
  | .tup _, _, H => by unfold renP; unfold Rv at H ⊢; obtain ⟨us, h1, h2⟩ := H; exact ⟨us, h1, Rvs.ren h h2⟩
  | .undef, _, _ => by unfold renP; unfold Rv; trivial
theorem Rvs.ren {m m' : Inj} {g : Nat → Option Nat} (h : ∀ i k x, g i = some k → m i = some x → m' k = some x) : ∀ {ps : List PV} {us : List Value}, Rvs m ps us → Rvs m' (renL g ps) us
  | [], _, H => by unfold renL; unfold Rvs at H ⊢; exact H
  | _ :: _, _, H => by unfold renL; unfold Rvs at H ⊢; obtain ⟨v, r, h1, h2, h3⟩ := H; exact ⟨v, r, h1, Rv.ren h h2, Rvs.ren h h3⟩
end

theorem renL_map (g : Nat → Option Nat) : ∀ ps : List PV, renL g ps = ps.map (renP g)
  | [] => by unfold renL; rfl
  | p :: r => by unfold renL; rw [renL_map g r]; rfl
theorem renB_own (g : Nat → Option Nat) (B : Blk) : (renB g B).own = B.own := by cases B <;> rfl
theorem renB_dead {g : Nat → Option Nat} {B : Blk} : renB g B = .dead ↔ B = .dead := by cases B <;> simp [renB]
theorem renP_sc (g : Nat → Option Nat) (v : Value) : renP g (.sc v) = .sc v := by unfold renP; rfl
theorem renB_cs (g : Nat → Option Nat) (B : Blk) : (renB g B).cs = B.cs.map (renP g) := by
  cases B with
  | dead => rfl
  | fix o cs => simp only [renB, Blk.cs, renL_map]
  | row o k xs =>
    simp only [renB, Blk.cs, scs, List.map_map]
    apply List.map_congr_left
    intro v _
    simp [renP_sc]
  | mix o pre k N xs post =>
    simp only [renB, Blk.cs, renL_map, List.map_append]
    congr 2
    simp only [scs, List.map_map]
    apply List.map_congr_left
    intro v _
    simp [renP_sc]
theorem maskB_cs (q : Bool) (B : Blk) : (maskB q B).cs = B.cs := by cases B <;> rfl
theorem maskB_dead {q : Bool} {B : Blk} : maskB q B = .dead ↔ B = .dead := by cases B <;> simp [maskB]
theorem maskB_own {q : Bool} {B : Blk} (h : (maskB q B).own = true) : q = false ∧ B.own = true := by
  cases B <;> cases q <;> simp [maskB, Blk.own] at h ⊢ <;> exact h
theorem maskB_false (B : Blk) : maskB false B = B := by cases B <;> rfl

theorem BRep.ren {m m' : Inj} {g : Nat → Option Nat} {w : World} {i k : Nat} {B : Blk} {q : Bool} (h : ∀ i k x, g i = some k → m i = some x → m' k = some x)
    (hk : m' k = m i) (H : BRep m w i B) : BRep m' w k (maskB q (renB g B)) := by
  rcases H with rfl | ⟨h1, o, kd, rfl⟩ | ⟨b, base, t, c, e, fz, h1, h2, h3, h4, h5⟩
  · exact Or.inl rfl
  · refine Or.inr (Or.inl ⟨by rw [hk]; exact h1, _, kd, rfl⟩)
  · refine Or.inr (Or.inr ⟨b, base, t, c, e, fz, by rw [hk]; exact h1, h2, h3, fun ho => h4 ?_, ?_⟩)
    · have := (maskB_own ho).2
      rwa [renB_own] at this
    · intro q' p hp
      rw [maskB_cs, renB_cs, List.getElem?_map] at hp
      cases hb : B.cs[q']? with
      | none => rw [hb] at hp; simp at hp
      | some p0 =>
        rw [hb] at hp; simp at hp; subst hp
        obtain ⟨u, hu, hr⟩ := h5 q' p0 hb
        exact ⟨u, hu, hr.ren h⟩

theorem idx_nth : ∀ {ids : List Nat} {i k : Nat}, idx ids i = some k → nth ids k = some i
  | [], i, k, h => by simp [idx] at h
  | j :: r, i, k, h => by
    unfold idx at h
    cases hb : Nat.beq j i with
    | true => rw [hb] at h; simp at h; subst h; rw [Nat.eq_of_beq_eq_true hb]; rfl
    | false =>
      rw [hb] at h; simp only [cond_false] at h
      cases hr : idx r i with
      | none => rw [hr] at h; simp at h
      | some q => rw [hr] at h; simp at h; subst h; show nth r q = some i; exact idx_nth hr
theorem nth_eq : ∀ (ids : List Nat) (c : Nat), nth ids c = ids[c]?
  | [], c => by simp [nth]
  | i :: r, 0 => by simp [nth]
  | i :: r, c + 1 => by simp [nth, nth_eq r c]
theorem memN_iff {i : Nat} : ∀ {l : List Nat}, memN i l = true ↔ i ∈ l
  | [] => by simp [memN]
  | j :: r => by
    unfold memN
    cases hb : Nat.beq i j with
    | true => simp [Nat.eq_of_beq_eq_true hb]
    | false =>
      simp only [cond_false, List.mem_cons]
      rw [memN_iff]
      have : i ≠ j := fun e => by subst e; simp at hb
      simp [this]
theorem nodupB_inj : ∀ {ids : List Nat}, nodupB ids = true → ∀ {a b i : Nat}, ids[a]? = some i → ids[b]? = some i → a = b
  | [], _, a, b, i, h, _ => by simp at h
  | j :: r, hn, a, b, i, ha, hb => by
    simp only [nodupB, Bool.and_eq_true, Bool.not_eq_true'] at hn
    have hj : j ∉ r := fun hm => by rw [memN_iff.2 hm] at hn; cases hn.1
    cases a with
    | zero =>
      cases b with
      | zero => rfl
      | succ b =>
        simp at ha hb; subst ha
        exact absurd (List.mem_of_getElem? hb) hj
    | succ a =>
      cases b with
      | zero =>
        simp at ha hb; subst hb
        exact absurd (List.mem_of_getElem? ha) hj
      | succ b => simp at ha hb; rw [nodupB_inj hn.2 ha hb]
theorem allLt_get {n : Nat} : ∀ {ids : List Nat}, allLt n ids = true → ∀ {i : Nat}, i ∈ ids → i < n
  | [], _, i, h => by simp at h
  | j :: r, hn, i, h => by
    simp only [allLt, Bool.and_eq_true] at hn
    rcases List.mem_cons.1 h with rfl | h
    · exact Nat.le_of_ble_eq_true hn.1
    · exact allLt_get hn.2 h

/-- All package-level tables lie below this. -/
def gMax : Nat := gTab.foldr (fun x n => max (x.1 + 1) n) 0
theorem gMax_lt {g : Nat} {cs : IntKind × List Int} (h : (g, cs) ∈ gTab) : g < gMax := by
  unfold gMax
  generalize gTab = l at h
  induction l with
  | nil => cases h
  | cons x r ih =>
    rw [List.foldr_cons]
    rcases List.mem_cons.1 h with rfl | h
    · exact Nat.lt_of_lt_of_le (Nat.lt_succ_self _) (Nat.le_max_left _ _)
    · exact Nat.lt_of_lt_of_le (ih h) (Nat.le_max_right _ _)
/-- The package-level tables lie where they lie, and hold what they hold. -/
def GW (w : World) : Prop := gMax ≤ w.heap.size ∧ ∀ g cs, (g, cs) ∈ gTab → ∃ el fz, w.heap[g]? = some (.cells (cs.2.flatMap (Kd.int cs.1).vals).toArray el fz)
theorem GW.fr {A : Nat → Prop} {w w' : World} (h : GW w) (hf : Fr A w w') (hA : ∀ b, A b → gMax ≤ b) : GW w' := by
  refine ⟨Nat.le_trans h.1 hf.size, fun g cs hg => ?_⟩
  obtain ⟨el, fz, e⟩ := h.2 g cs hg
  have hl := gMax_lt hg
  exact ⟨el, fz, (hf.block g (by have := h.1; omega) (fun ha => by have := hA g ha; omega)).trans e⟩
theorem GW_nil (h : gTab = []) (w : World) : GW w := ⟨by unfold gMax; rw [h]; exact Nat.zero_le _, fun g cs hg => by rw [h] at hg; cases hg⟩
/-- Blocks of the call's own lie apart from all others, and from the tables; these are as they were. -/
structure Dis (m : Inj) (w : World) (hp : Nat → Option Blk) : Prop where
  apart : ∀ i j Bi Bj, i ≠ j → hp i = some Bi → hp j = some Bj → Bi ≠ .dead → Bj ≠ .dead → Bi.own = true → ∀ b base t base' t', m i = some (b, base, t) → m j = some (b, base', t') → False
  gw : GW w
  high : ∀ i B b base t, hp i = some B → B.own = true → m i = some (b, base, t) → gMax ≤ b

/-- Behind a call: its answer, the blocks that it was given, and those that it made. -/
structure PostC (m : Inj) (w : World) (H : List Blk) (r : PV) (H' : List Blk) (v : Value) (m' : Inj) (w' : World) : Prop where
  val : Rv m' r v
  ext : ∀ i, i < H.length → m' i = m i
  top : ∀ i, H'.length ≤ i → m' i = none
  rep : ∀ i B, getB H' i = some B → BRep m' w' i B
  len : H.length ≤ H'.length
  own : ∀ i B, i < H.length → getB H' i = some B → B ≠ .dead → ∃ B0, getB H i = some B0 ∧ B0 ≠ .dead ∧ B.own = B0.own
  fresh : ∀ (i b base t : Nat) (B : Blk), H.length ≤ i → getB H' i = some B → B ≠ .dead → m' i = some (b, base, t) → w.heap.size ≤ b ∨ ∃ j B0 base0 t0, j < H.length ∧ getB H' j = some .dead ∧ getB H j = some B0 ∧ B0.own = true ∧ m j = some (b, base0, t0)
  dist : ∀ (i j b base t base2 t2 : Nat) (B B2 : Blk), H.length ≤ i → H.length ≤ j → getB H' i = some B → getB H' j = some B2 → B ≠ .dead → B2 ≠ .dead → m' i = some (b, base, t) → m' j = some (b, base2, t2) → i = j
  frame : Fr (fun b => ∃ i B base t, getB H i = some B ∧ B.own = true ∧ m i = some (b, base, t)) w w'

def CallOK (P : Program) (f : Nat) (args : List PV) (H : List Blk) (r : PV) (H' : List Blk) : Prop :=
  ∀ m w vs, (∀ i, H.length ≤ i → m i = none) → (∀ i B, getB H i = some B → BRep m w i B) → Dis m w (getB H) → Rvs m args vs →
    Calls P f vs.toArray w fun e w' => ∃ v m', e = .returned v ∧ PostC m w H r H' v m' w'
def Ent (P : Program) (f : Nat) : Prop := ∀ args w, (callFunc f args).run P w = .ok (.enter f args) w
/-- A function without a text (one that the model gives itself): its value at once. -/
def ExtOK (P : Program) (f : Nat) (args : List PV) (H : List Blk) (r : PV) (H' : List Blk) : Prop :=
  ∀ m w vs, (∀ i, H.length ≤ i → m i = none) → (∀ i B, getB H i = some B → BRep m w i B) → Dis m w (getB H) → Rvs m args vs →
    ∃ v m', (callFunc f vs.toArray).run P w = .ok (.value v) w ∧ PostC m w H r H' v m' w
def TableOK (P : Program) (T : Table) : Prop := ∀ f args H alts, T f args H = some (true, alts) → ∀ r H', pickA alts = some (r, H') → (Ent P f ∧ CallOK P f args H r H') ∨ ExtOK P f args H r H'
theorem evAlts_some {α R : Type} {K : α → Option R} {y : R} : ∀ {l : List (Bool × α)}, evAlts l K = some y → ∃ x, pickA l = some x ∧ K x = some y
  | [], h => by simp [evAlts] at h
  | (b, x) :: r, h => by
    unfold evAlts at h; unfold pickA
    cases b with
    | true => exact ⟨x, rfl, h⟩
    | false => exact evAlts_some h

theorem zipUp_some {g : Nat → Option Nat} : ∀ {ids : List Nat} {H : List Blk} {up : List (Nat × Blk)} {nw : List Blk}, zipUp g ids H = some (up, nw) →
    ids.length ≤ H.length ∧ (∀ i B, (i, B) ∈ up ↔ ∃ c : Nat, ids[c]? = some i ∧ ∃ B0, H[c]? = some B0 ∧ B = renB g B0) ∧ nw = (H.drop ids.length).map (renB g)
  | [], H, up, nw, h => by
    simp [zipUp] at h; obtain ⟨rfl, rfl⟩ := h
    exact ⟨by simp, fun i B => by simp, by simp⟩
  | i0 :: r, [], up, nw, h => by simp [zipUp] at h
  | i0 :: r, B0 :: H, up, nw, h => by
    simp only [zipUp] at h
    cases hz : zipUp g r H with
    | none => rw [hz] at h; simp at h
    | some x =>
      obtain ⟨up', nw'⟩ := x
      rw [hz] at h; simp at h; obtain ⟨rfl, rfl⟩ := h
      obtain ⟨h1, h2, h3⟩ := zipUp_some hz
      refine ⟨by simp; omega, fun i B => ?_, by simpa using h3⟩
      rw [List.mem_cons, h2]
      constructor
      · rintro (h | ⟨c, hc, B1, hB, rfl⟩)
        · cases h; exact ⟨0, rfl, B0, rfl, rfl⟩
        · exact ⟨c + 1, by simpa using hc, B1, by simpa using hB, rfl⟩
      · rintro ⟨c, hc, B1, hB, rfl⟩
        cases c with
        | zero => simp at hc hB; subst hc; subst hB; exact Or.inl rfl
        | succ c => exact Or.inr ⟨c, by simpa using hc, B1, by simpa using hB, rfl⟩

section
variable {P : Program} {R : Type} {n : Nat}
/-- Where the blocks lie that a call is given. -/
def subInj (m : Inj) (ids : List Nat) : Inj := fun c => (nth ids c).bind m
/-- Where they lie behind it. -/
def backInj (m mc : Inj) (ids : List Nat) (n k : Nat) : Inj := fun i => if n ≤ i ∧ i < n + k then mc (ids.length + (i - n)) else m i

theorem localH_get {q : Bool} {H : List Blk} {ids : List Nat} {c : Nat} {B : Blk} (h : getB (localH q H ids) c = some B) : ∃ i, ids[c]? = some i ∧ B = maskB q (renB (idx ids) (blkAt H i)) := by
  rw [getB_eq] at h
  simp only [localH, List.getElem?_map, Option.map_eq_some_iff] at h
  obtain ⟨i, h1, h2⟩ := h
  exact ⟨i, h1, h2.symm⟩
theorem blkAt_live {H : List Blk} {i : Nat} (h : blkAt H i ≠ .dead) : getB H i = some (blkAt H i) := by
  unfold blkAt at h ⊢
  cases hg : getB H i with
  | none => rw [hg] at h; exact absurd rfl h
  | some B => rfl

theorem local_ok {m : Inj} {w : World} {q : Bool} {H : List Blk} {ids : List Nat} (hnd : nodupB ids = true) (hrep : ∀ i ∈ ids, ∀ B, getB H i = some B → BRep m w i B) (hdis : Dis m w (fun i => if i ∈ ids then getB H i else none)) :
    (∀ i B, getB (localH q H ids) i = some B → BRep (subInj m ids) w i B) ∧ Dis (subInj m ids) w (getB (localH q H ids)) := by
  have h1 : ∀ i k x, idx ids i = some k → m i = some x → subInj m ids k = some x := fun i k x hi hx => by
    simp [subInj, idx_nth hi, hx]
  constructor
  · intro c B hB
    obtain ⟨i, hi, rfl⟩ := localH_get hB
    by_cases hd : blkAt H i = .dead
    · rw [hd]; exact Or.inl rfl
    · refine BRep.ren h1 ?_ (hrep i (List.mem_of_getElem? hi) _ (blkAt_live hd))
      simp [subInj, nth_eq, hi]
  refine ⟨?_, hdis.gw, ?_⟩
  rotate_left
  · intro c B b base t hc ho hm
    obtain ⟨i, hi, rfl⟩ := localH_get hc
    have how := (maskB_own ho).2
    rw [renB_own] at how
    have hl : blkAt H i ≠ .dead := fun e => by rw [e] at how; cases how
    simp only [subInj, nth_eq, hi, Option.bind_some] at hm
    have e1 : (if i ∈ ids then getB H i else none) = some (blkAt H i) := by rw [if_pos (List.mem_of_getElem? hi)]; exact blkAt_live hl
    exact hdis.high i _ b base t e1 how hm
  · intro c c' Bc Bc' hne hc hc' hd hd' ho b base t base' t' hm hm'
    obtain ⟨i, hi, rfl⟩ := localH_get hc
    obtain ⟨i', hi', rfl⟩ := localH_get hc'
    have hii : i ≠ i' := fun e => hne (nodupB_inj hnd hi (e ▸ hi'))
    have hl : blkAt H i ≠ .dead := fun e => hd (by rw [e]; rfl)
    have hl' : blkAt H i' ≠ .dead := fun e => hd' (by rw [e]; rfl)
    have how := (maskB_own ho).2
    rw [renB_own] at how
    simp only [subInj, nth_eq, hi, hi', Option.bind_some] at hm hm'
    have e1 : (if i ∈ ids then getB H i else none) = some (blkAt H i) := by rw [if_pos (List.mem_of_getElem? hi)]; exact blkAt_live hl
    have e2 : (if i' ∈ ids then getB H i' else none) = some (blkAt H i') := by rw [if_pos (List.mem_of_getElem? hi')]; exact blkAt_live hl'
    exact hdis.apart i i' _ _ hii e1 e2 hl hl' how b base t base' t' hm hm'

/-- From behind the call, in its own numbers, to the caller's. -/
theorem back_post {m : Inj} {w w' : World} {q : Bool} {H Hc : List Blk} {ids : List Nat} {up : List (Nat × Blk)} {nw : List Blk} {r : PV} {v : Value} {mc : Inj} (hlt : allLt n ids = true) (hnd : nodupB ids = true) (hnH : n = H.length)
    (hz : zipUp (backN ids n) ids Hc = some (up, nw)) (hpost : PostC (subInj m ids) w (localH q H ids) r Hc v mc w') :
    Post m w (getB H) n (renP (backN ids n) r) ⟨ids, bif q then [] else up, nw⟩ v (backInj m mc ids n nw.length) w' := by
  obtain ⟨hz1, hz2, hz3⟩ := zipUp_some hz
  have hll : (localH q H ids).length = ids.length := by simp [localH]
  have hnl : nw.length = Hc.length - ids.length := by rw [hz3]; simp
  have back_some : ∀ c k, backN ids n c = some k → (∃ i, ids[c]? = some i ∧ k = i) ∨ (ids.length ≤ c ∧ k = n + (c - ids.length)) := by
    intro c k hk
    unfold backN at hk
    cases hn : nth ids c with
    | some i => rw [hn] at hk; simp at hk; exact Or.inl ⟨i, by rw [← nth_eq]; exact hn, hk.symm⟩
    | none =>
      rw [hn] at hk; simp [sub] at hk
      refine Or.inr ⟨?_, hk.symm⟩
      rw [nth_eq] at hn
      exact List.getElem?_eq_none_iff.1 hn
  have atOld : ∀ c i, ids[c]? = some i → mc c = m i ∧ backInj m mc ids n nw.length i = m i := by
    intro c i hi
    have hc : c < ids.length := (List.getElem?_eq_some_iff.1 hi).1
    have h1 := hpost.ext c (by rw [hll]; exact hc)
    have h2 := allLt_get hlt (List.mem_of_getElem? hi)
    refine ⟨by rw [h1]; simp [subInj, nth_eq, hi], ?_⟩
    unfold backInj; rw [if_neg (by omega)]
  have atNew : ∀ c, ids.length ≤ c → c < Hc.length → backInj m mc ids n nw.length (n + (c - ids.length)) = mc c := by
    intro c h1 h2
    unfold backInj
    rw [if_pos (by omega)]
    congr 1; omega
  have tr : ∀ c k x, backN ids n c = some k → mc c = some x → backInj m mc ids n nw.length k = some x := by
    intro c k x hk hx
    rcases back_some c k hk with ⟨i, hi, rfl⟩ | ⟨h1, rfl⟩
    · obtain ⟨a, b⟩ := atOld c k hi
      rw [b, ← a]; exact hx
    · rcases Nat.lt_or_ge c Hc.length with h2 | h2
      · rw [atNew c h1 h2]; exact hx
      · rw [hpost.top c h2] at hx; cases hx
  have getC : ∀ {c : Nat} {B : Blk}, Hc[c]? = some B → getB Hc c = some B := fun h => by rw [getB_eq]; exact h
  refine ⟨hpost.val.ren tr, fun i hi => ?_, ?_, ?_, ?_, ?_, ?_, ?_, ?_, ?_⟩
  · unfold backInj; rw [if_neg (by simp only at hi; omega)]
  · intro i B hB
    cases q with
    | true => simp at hB
    | false =>
      simp only [cond_false] at hB
      obtain ⟨c, hc, B0, hB0, rfl⟩ := (hz2 i B).1 hB
      obtain ⟨a, b⟩ := atOld c i hc
      have := BRep.ren (q := false) tr (by rw [b, a]) (hpost.rep c B0 (getC hB0))
      rwa [maskB_false] at this
  · intro k B hB
    simp only [hz3, List.getElem?_map, Option.map_eq_some_iff, List.getElem?_drop] at hB
    obtain ⟨B0, hB0, rfl⟩ := hB
    have hlt2 := (List.getElem?_eq_some_iff.1 hB0).1
    have hk := atNew (ids.length + k) (by omega) hlt2
    rw [show n + (ids.length + k - ids.length) = n + k by omega] at hk
    have := BRep.ren (q := false) tr hk (hpost.rep _ B0 (getC hB0))
    rwa [maskB_false] at this
  · intro i B hB hd
    cases q with
    | true => simp at hB
    | false =>
      simp only [cond_false] at hB
      obtain ⟨c, hc, B0, hB0, rfl⟩ := (hz2 i B).1 hB
      have hcl : c < ids.length := (List.getElem?_eq_some_iff.1 hc).1
      obtain ⟨B1, g1, g2, g3⟩ := hpost.own c B0 (by rw [hll]; exact hcl) (getC hB0) (fun e => hd (by rw [e]; rfl))
      obtain ⟨i', hi', rfl⟩ := localH_get g1
      rw [hc] at hi'; cases hi'
      rw [maskB_false] at g2 g3
      have hl : blkAt H i ≠ .dead := fun e => g2 (by rw [e]; rfl)
      exact ⟨_, blkAt_live hl, hl, by rw [renB_own, g3, renB_own]⟩
  · intro k b base t B hB hd he
    simp only [hz3, List.getElem?_map, Option.map_eq_some_iff, List.getElem?_drop] at hB
    obtain ⟨B0, hB0, rfl⟩ := hB
    have hlt2 := (List.getElem?_eq_some_iff.1 hB0).1
    have hk := atNew (ids.length + k) (by omega) hlt2
    rw [show n + (ids.length + k - ids.length) = n + k by omega] at hk
    rw [hk] at he
    rcases hpost.fresh (ids.length + k) b base t B0 (by rw [hll]; omega) (getC hB0) (fun e => hd (by rw [e]; rfl)) he with h | ⟨j, B1, base0, t0, h1, h2, h3, h4, h5⟩
    · exact Or.inl h
    · right
      obtain ⟨i, hi, rfl⟩ := localH_get h3
      obtain ⟨hq, ho⟩ := maskB_own h4
      subst hq
      rw [renB_own] at ho
      have hl : blkAt H i ≠ .dead := fun e => by rw [e] at ho; simp [Blk.own] at ho
      refine ⟨i, blkAt H i, base0, t0, ?_, blkAt_live hl, ho, ?_⟩
      · simp only [cond_false]
        exact (hz2 i _).2 ⟨j, hi, .dead, by rw [← getB_eq]; exact h2, rfl⟩
      · simpa [subInj, nth_eq, hi] using h5
  · intro k l b base t base2 t2 B B2 hB hB2 hd hd2 he he2
    simp only [hz3, List.getElem?_map, Option.map_eq_some_iff, List.getElem?_drop] at hB hB2
    obtain ⟨B0, hB0, rfl⟩ := hB
    obtain ⟨B1, hB1, rfl⟩ := hB2
    have h1 := (List.getElem?_eq_some_iff.1 hB0).1
    have h2 := (List.getElem?_eq_some_iff.1 hB1).1
    have hk := atNew (ids.length + k) (by omega) h1
    have hl := atNew (ids.length + l) (by omega) h2
    rw [show n + (ids.length + k - ids.length) = n + k by omega] at hk
    rw [show n + (ids.length + l - ids.length) = n + l by omega] at hl
    rw [hk] at he; rw [hl] at he2
    have := hpost.dist (ids.length + k) (ids.length + l) b base t base2 t2 B0 B1 (by rw [hll]; omega) (by rw [hll]; omega) (getC hB0) (getC hB1) (fun e => hd (by rw [e]; rfl)) (fun e => hd2 (by rw [e]; rfl)) he he2
    omega
  · refine hpost.frame.mono ?_
    rintro b _ ⟨j, B0, base, t, h1, h2, h3⟩
    obtain ⟨i, hi, rfl⟩ := localH_get h1
    obtain ⟨hq, ho⟩ := maskB_own h2
    subst hq
    rw [renB_own] at ho
    have hl : blkAt H i ≠ .dead := fun e => by rw [e] at ho; simp [Blk.own] at ho
    have hj : j < Hc.length := Nat.lt_of_lt_of_le (List.getElem?_eq_some_iff.1 hi).1 hz1
    refine ⟨i, renB (backN ids n) Hc[j], blkAt H i, base, t, ?_, blkAt_live hl, ho, by simpa [subInj, nth_eq, hi] using h3⟩
    simp only [cond_false]
    exact (hz2 i _).2 ⟨j, hi, Hc[j], List.getElem?_eq_getElem hj, rfl⟩
  · intro i B B' hB hB'
    cases q with
    | true => simp at hB
    | false =>
      simp only [cond_false] at hB hB'
      obtain ⟨c, hc, B0, hB0, rfl⟩ := (hz2 i B).1 hB
      obtain ⟨c', hc', B1, hB1, rfl⟩ := (hz2 i B').1 hB'
      rw [nodupB_inj hnd hc hc'] at hB0
      rw [hB0] at hB1; cases hB1; rfl
  · intro i B hB
    cases q with
    | true => simp at hB
    | false =>
      simp only [cond_false] at hB
      obtain ⟨c, hc, B0, hB0, rfl⟩ := (hz2 i B).1 hB
      have h2 := allLt_get hlt (List.mem_of_getElem? hc)
      rw [hnH] at h2
      exact ⟨H[i], by rw [getB_eq]; exact List.getElem?_eq_getElem h2⟩
end
end Go.Proofs.YtokephobkllfgaaDoorEv
