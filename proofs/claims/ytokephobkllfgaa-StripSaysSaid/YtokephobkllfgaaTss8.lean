/- What is proved: what the calls of a board keep of its list, and that both ways of sorting a bay give one list. Pure; no condition. -/
import Derived.Test.YtokephobkllfgaaTss7
namespace Go.Proofs.YtokephobkllfgaaSs
open Go Go.Proofs Go.Proofs.YtokephobkllfgaaEv
set_option linter.unusedVariables false
set_option linter.unusedSimpArgs false
/-! ### Places -/
theorem ix_spec {α : Type} (p : α → Bool) : ∀ (l : List α) (k : Int), (ixP p k l = -1 ∧ ∀ x ∈ l, p x = false) ∨ ∃ (j : Nat) (x : α), ixP p k l = k + (j : Int) ∧ l[j]? = some x ∧ p x = true
  | [], k => Or.inl ⟨rfl, fun x h => by simp at h⟩
  | y :: r, k => by
    unfold ixP
    cases hp : p y with
    | true => exact Or.inr ⟨0, y, by simp, rfl, hp⟩
    | false =>
      simp only [Bool.false_eq_true, if_false]
      rcases ix_spec p r (k + 1) with ⟨h1, h2⟩ | ⟨j, x, h1, h2, h3⟩
      · refine Or.inl ⟨h1, fun x hx => ?_⟩
        rcases List.mem_cons.1 hx with rfl | hx
        · exact hp
        · exact h2 x hx
      · exact Or.inr ⟨j + 1, x, by rw [h1]; omega, by simpa using h2, h3⟩
theorem ixC_spec (c : ByteArray) (l : List Strip) : (ixC c l = -1 ∧ ∀ x ∈ l, x.1 ≠ c) ∨ ∃ (j : Nat) (x : Strip), ixC c l = (j : Int) ∧ l[j]? = some x ∧ x.1 = c := by
  rcases ix_spec (isC c) l 0 with ⟨h1, h2⟩ | ⟨j, x, h1, h2, h3⟩
  · exact Or.inl ⟨h1, fun x hx => of_decide_eq_false (h2 x hx)⟩
  · exact Or.inr ⟨j, x, by unfold ixC; rw [h1]; omega, h2, of_decide_eq_true h3⟩
theorem at_some {l : List Strip} {j : Nat} {x : Strip} (h : l[j]? = some x) : atS l (j : Int) = x := by
  unfold atS; rw [Int.toNat_natCast, List.getD, h]; rfl
/-! ### What a call keeps -/
theorem chk_bay {s : Strip} (h : chkS s = 0) : inS s.2.2.2.2 0 3 = true := by
  unfold chkS at h
  cases h1 : (!namS s.1 || !namS s.2.1) with
  | true => rw [h1] at h; exact absurd (show (6 : Int) = 0 from h) (by decide)
  | false =>
    rw [h1, cond_false] at h
    cases h2 : (!inS s.2.2.1 0 200000 || (!inS s.2.2.2.1 0 60000 || !inS s.2.2.2.2 0 3)) with
    | true => rw [h2] at h; exact absurd (show (4 : Int) = 0 from h) (by decide)
    | false =>
      simp only [Bool.or_eq_false_iff, Bool.not_eq_false'] at h2
      exact h2.2.2
theorem bif0 {b : Bool} {x y : Int} (h : (bif b then x else y) = 0) : (b = true ∧ x = 0) ∨ (b = false ∧ y = 0) := by
  cases b
  · exact Or.inr ⟨rfl, h⟩
  · exact Or.inl ⟨rfl, h⟩
theorem put_ok {L : List Strip} {s : Strip} (h : putE L s = 0) : chkS s = 0 ∧ ixC s.1 L < 0 := by
  unfold putE at h
  rcases bif0 h with ⟨h1, h2⟩ | ⟨h1, h2⟩
  · exact absurd h2 (by simpa using h1)
  rcases bif0 h2 with ⟨_, h4⟩ | ⟨h3, h4⟩
  · exact absurd h4 (by decide)
  exact ⟨by simpa using h1, by have := of_decide_eq_false h3; omega⟩
theorem mov_ok {L : List Strip} {c : ByteArray} {b : Int} (h : movE L c b = 0) : inS b 0 3 = true ∧ ¬ ixC c L < 0 := by
  unfold movE at h
  rcases bif0 h with ⟨_, h2⟩ | ⟨h1, h2⟩
  · exact absurd h2 (by decide)
  rcases bif0 h2 with ⟨_, h4⟩ | ⟨h3, h4⟩
  · exact absurd h4 (by decide)
  exact ⟨by simpa using h1, of_decide_eq_false h3⟩
theorem chg_ok {L : List Strip} {s : Strip} (h : chgE L s = 0) : chkS s = 0 ∧ ¬ ixC s.1 L < 0 := by
  unfold chgE at h
  rcases bif0 h with ⟨h1, h2⟩ | ⟨h1, h2⟩
  · exact absurd h2 (by simpa using h1)
  rcases bif0 h2 with ⟨_, h4⟩ | ⟨h3, h4⟩
  · exact absurd h4 (by decide)
  exact ⟨by simpa using h1, of_decide_eq_false h3⟩
theorem good_iff {L : List Strip} : goodS L = true ↔ ∀ x ∈ L, inS x.2.2.2.2 0 3 = true := List.all_eq_true
theorem map_keep {L : List Strip} {j : Nat} {x y : Strip} (hx : L[j]? = some x) (h : y.1 = x.1) : (L.set j y).map (fun x => x.1) = L.map fun x => x.1 := by
  apply List.ext_getElem?
  intro i
  rw [List.map_set, List.getElem?_set]
  split
  · rename_i e
    subst e
    obtain ⟨hl, he⟩ := List.getElem?_eq_some_iff.1 hx
    simp [h, hl, he]
  · rfl
theorem inv_new {L : List Strip} {kd : Int} {s : Strip} (h : invS L) : invS (newL L kd s) ∧ (newL L kd s).length ≤ L.length + 1 := by
  obtain ⟨h1, h2⟩ := h
  rw [good_iff] at h1
  unfold newL
  cases he : errE L kd s == 0 with
  | false => exact ⟨⟨good_iff.2 h1, h2⟩, by simp⟩
  | true =>
    have he : errE L kd s = 0 := by simpa using he
    unfold errE at he
    simp only [cond_true]
    rcases bif0 he with ⟨k0, he⟩ | ⟨k0, he⟩
    · rw [k0, cond_true]
      obtain ⟨g1, g2⟩ := put_ok he
      refine ⟨⟨good_iff.2 fun x hx => ?_, ?_⟩, by simp⟩
      · rcases List.mem_append.1 hx with hx | hx
        · exact h1 x hx
        · rw [List.mem_singleton] at hx; subst hx; exact chk_bay g1
      · rw [List.map_append, List.nodup_append]
        refine ⟨h2, by simp, fun a ha c hc => ?_⟩
        obtain ⟨x, hx, rfl⟩ := List.mem_map.1 ha
        simp only [List.map_cons, List.map_nil, List.mem_singleton] at hc
        subst hc
        rcases ixC_spec s.1 L with ⟨_, hn⟩ | ⟨j, x, h3, _⟩
        · exact hn x hx
        · omega
    rw [k0, cond_false]
    have same : ∀ (y : Strip), y.1 = s.1 → inS y.2.2.2.2 0 3 = true → ¬ ixC s.1 L < 0 → invS (L.set (ixC s.1 L).toNat y) ∧ (L.set (ixC s.1 L).toNat y).length ≤ L.length + 1 := by
      intro y hy hb hk
      rcases ixC_spec s.1 L with ⟨h3, _⟩ | ⟨j, x, h3, h4, h5⟩
      · omega
      rw [h3, Int.toNat_natCast]
      refine ⟨⟨good_iff.2 fun z hz => ?_, ?_⟩, by simp⟩
      · rcases List.mem_or_eq_of_mem_set hz with hz | rfl
        · exact h1 z hz
        · exact hb
      · rw [map_keep h4 (by rw [hy, h5])]; exact h2
    rcases bif0 he with ⟨k1, he⟩ | ⟨k1, he⟩
    · rw [k1, cond_true]
      obtain ⟨g1, g2⟩ := mov_ok he
      rcases ixC_spec s.1 L with ⟨h3, _⟩ | ⟨j, x, h3, h4, h5⟩
      · omega
      refine same _ ?_ g1 g2
      rw [h3, at_some h4]; exact h5
    rw [k1, cond_false]
    rcases bif0 he with ⟨k2, he⟩ | ⟨k2, he⟩
    · rw [k2, cond_true]
      obtain ⟨g1, g2⟩ := chg_ok he
      exact same s rfl (chk_bay g1) g2
    rw [k2, cond_false]
    refine ⟨⟨good_iff.2 fun z hz => h1 z (List.mem_of_mem_eraseIdx hz), ?_⟩, ?_⟩
    · exact h2.sublist ((List.eraseIdx_sublist _ _).map _)
    · exact Nat.le_trans (List.eraseIdx_sublist _ _).length_le (Nat.le_succ _)
theorem inv_run : ∀ (C : List Call) {L : List Strip}, invS L → invS (runS L C) ∧ (runS L C).length ≤ L.length + C.length
  | [], L, h => ⟨h, Nat.le_refl _⟩
  | c :: r, L, h => by
    obtain ⟨h1, h2⟩ := inv_new (kd := cutS c.1 3) (s := c.2) h
    obtain ⟨h3, h4⟩ := inv_run r h1
    exact ⟨h3, by show (runS (newL L (cutS c.1 3) c.2) r).length ≤ _; simp; omega⟩
theorem inv_one {s : Strip} (h : chkS s = 0) : invS [s] := ⟨good_iff.2 fun x hx => by rw [List.mem_singleton] at hx; subst hx; exact chk_bay h, by simp⟩
theorem inv_runA : ∀ (C : List Call) {R : List Strip}, runA C = some R → invS R ∧ R.length ≤ C.length
  | [], R, h => by cases h
  | c :: r, R, h => by
    unfold runA at h
    cases hc : cutS c.1 3 == 0 && chkS c.2 == 0 with
    | false =>
      rw [hc, cond_false] at h
      obtain ⟨h1, h2⟩ := inv_runA r h
      exact ⟨h1, by simp; omega⟩
    | true =>
      rw [hc, cond_true] at h
      rw [Bool.and_eq_true] at hc
      obtain ⟨h1, h2⟩ := inv_run r (inv_one (by simpa using hc.2))
      cases h
      exact ⟨h1, by simp at h2 ⊢; omega⟩
/-! ### Get -/
theorem call_uniq : ∀ {L : List Strip}, (L.map fun x => x.1).Nodup → ∀ x ∈ L, ∀ y ∈ L, x.1 = y.1 → x = y
  | [], _, x, hx, _, _, _ => by simp at hx
  | a :: L, h, x, hx, y, hy, he => by
    rw [List.map_cons, List.nodup_cons] at h
    rcases List.mem_cons.1 hx with rfl | hx1 <;> rcases List.mem_cons.1 hy with rfl | hy1
    · rfl
    · exact absurd (List.mem_map.2 ⟨y, hy1, he.symm⟩) h.1
    · exact absurd (List.mem_map.2 ⟨x, hx1, he⟩) h.1
    · exact call_uniq h.2 x hx1 y hy1 he
theorem eqS_self (x : Strip) : eqS x x = true := by
  unfold eqS; simp
theorem eqL_self : ∀ l : List Strip, eqL l l = true
  | [] => rfl
  | x :: r => by rw [eqL_cons, eqS_self, eqL_self r]; rfl
theorem got_none {L : List Strip} {c : ByteArray} (g : Strip) (e : Int) (h : ixC c L < 0) : L.all (gtB c g e) = true := by
  rw [List.all_eq_true]
  intro x hx
  rcases ixC_spec c L with ⟨_, hn⟩ | ⟨j, y, h3, _⟩
  · unfold gtB; simp [hn x hx]
  · omega
theorem got_some {L : List Strip} {c : ByteArray} (hi : invS L) (h : ¬ ixC c L < 0) : L.all (gtB c (atS L (ixC c L)) 0) = true := by
  rw [List.all_eq_true]
  intro x hx
  rcases ixC_spec c L with ⟨h1, _⟩ | ⟨j, y, h3, h4, h5⟩
  · omega
  rw [h3, at_some h4]
  unfold gtB
  by_cases hc : x.1 = c
  · have := call_uniq hi.2 x hx y (List.mem_of_getElem? h4) (by rw [hc, h5])
    subst this
    simp [hc, eqS_self]
  · simp [hc]
/-! ### Both ways of sorting -/
theorem baR_eq (b : Int) : ∀ (l : List Strip) (o : List Strip × Bool), (baR b o l).1 = o.1 ++ l.filter fun x => x.2.2.2.2 == b
  | [], o => by show o.1 = _; simp
  | x :: r, o => by
    rw [baR_cons, List.filter_cons]
    cases hb : x.2.2.2.2 == b with
    | true => simp only [cond_true, if_true]; rw [baR_eq b r]; simp
    | false => simp only [cond_false, Bool.false_eq_true, if_false]; exact baR_eq b r o
theorem lt_cmp (y x : Strip) : ltT y x = decide (cmpT y x < 0) := by
  rw [cmpT_eq]
  unfold ltT
  rw [YtokephobkllfgaaStr.bL_cB]
  rcases cmpI_cases y.2.2.1 x.2.2.1 with ⟨h1, e1⟩ | ⟨h1, e1⟩ | ⟨h1, e1⟩
  · rw [e1]; simp [h1]
  · rw [e1]; simp; omega
  · rw [e1, h1]; simp
abbrev rT (x y : Strip) : Prop := cmpT x y < 0
theorem rT_as (x y : Strip) (h1 : rT x y) (h2 : rT y x) : False := by
  have := cmpT_flip x y
  simp only [rT] at h1 h2
  omega
theorem cmpT_call {x y : Strip} (h : cmpT x y = 0) : x.1 = y.1 := by
  rw [cmpT_eq] at h
  split at h
  · have := YtokephobkllfgaaStr.cB_zero h
    obtain ⟨⟨⟨a⟩⟩, _⟩ := x
    obtain ⟨⟨⟨b⟩⟩, _⟩ := y
    simp at this; subst this; rfl
  · omega
theorem ins_sorted (x : Strip) : ∀ (out : List Strip), out.Pairwise rT → (∀ y ∈ out, y.1 ≠ x.1) → (insS out (posS x out) [x]).Pairwise rT ∧ (insS out (posS x out) [x]).Perm (x :: out)
  | [], _, _ => ⟨by simp [insS, posS], by simp [insS, posS]⟩
  | y :: r, hs, hn => by
    rw [List.pairwise_cons] at hs
    rw [posS_cons]
    cases hl : ltT y x with
    | false =>
      simp only [cond_false]
      have e : insS (y :: r) ((0 : Nat) : Int) [x] = x :: y :: r := by simp [insS]
      rw [e]
      refine ⟨?_, List.Perm.refl _⟩
      rw [lt_cmp] at hl
      have h1 := of_decide_eq_false hl
      have h2 := cmpT_flip y x
      have h3 : cmpT x y ≠ 0 := fun h => hn y (List.mem_cons_self ..) (cmpT_call h).symm
      have h4 : rT x y := by show cmpT x y < 0; omega
      rw [List.pairwise_cons]
      refine ⟨fun z hz => ?_, List.pairwise_cons.2 hs⟩
      rcases List.mem_cons.1 hz with rfl | hz
      · exact h4
      · have h5 : cmpT y z < 0 := hs.1 z hz
        exact (cmpT_trans (x := x) (y := y) (z := z) (by simp only [rT] at h4; omega) (by omega)).2 (Or.inl h4)
    | true =>
      simp only [cond_true]
      obtain ⟨g1, g2⟩ := ins_sorted x r hs.2 fun z hz => hn z (List.mem_cons_of_mem _ hz)
      have e : insS (y :: r) ((posS x r + 1 : Nat) : Int) [x] = y :: insS r (posS x r) [x] := by
        unfold insS
        rw [Int.toNat_natCast, Int.toNat_natCast]; simp
      rw [e]
      constructor
      · rw [List.pairwise_cons]
        refine ⟨fun z hz => ?_, g1⟩
        rcases List.mem_cons.1 (g2.mem_iff.1 hz) with rfl | hz
        · rw [lt_cmp] at hl; exact of_decide_eq_true hl
        · exact hs.1 z hz
      · exact (List.Perm.cons y g2).trans (List.Perm.swap x y r)
theorem so_sorted (b : Int) : ∀ (l : List Strip) (o : List Strip × Bool), o.1.Pairwise rT → ((o.1 ++ l).map fun x => x.1).Nodup → (soR b o l).1.Pairwise rT ∧ (soR b o l).1.Perm (o.1 ++ l.filter fun x => x.2.2.2.2 == b)
  | [], o, h, _ => ⟨h, by show o.1.Perm _; simp⟩
  | x :: r, o, h, hn => by
    rw [soR_cons, List.filter_cons]
    have hd : ∀ y ∈ o.1, y.1 ≠ x.1 := by
      intro y hy
      rw [List.map_append, List.nodup_append] at hn
      exact hn.2.2 _ (List.mem_map.2 ⟨y, hy, rfl⟩) _ (by simp)
    cases hb : x.2.2.2.2 == b with
    | false =>
      simp only [show (x.2.2.2.2 != b) = true by simp [bne, hb], cond_true, Bool.false_eq_true, if_false]
      refine so_sorted b r o h (hn.sublist (List.Sublist.map _ (List.Sublist.append (List.Sublist.refl _) (List.sublist_cons_self _ _))))
    | true =>
      simp only [show (x.2.2.2.2 != b) = false by simp [bne, hb], cond_false, if_true]
      obtain ⟨g1, g2⟩ := ins_sorted x o.1 h hd
      have hp : (insS o.1 (posS x o.1) [x] ++ r).Perm (o.1 ++ x :: r) := (g2.append_right r).trans List.perm_middle.symm
      obtain ⟨f1, f2⟩ := so_sorted b r (insS o.1 (posS x o.1) [x], false) g1 ((hp.map _).nodup_iff.2 hn)
      refine ⟨f1, f2.trans ?_⟩
      exact (g2.append_right _).trans List.perm_middle.symm
theorem bays_eq (b : Int) {L : List Strip} (h : invS L) : srtT (baR b ([], true) L).1 = (soR b ([], true) L).1 := by
  have hs := so_sorted b L ([], true) List.Pairwise.nil h.2
  rw [baR_eq]
  obtain ⟨g1, g2⟩ := srt_all ([] ++ L.filter fun x => x.2.2.2.2 == b)
  have hn : ((L.filter fun x => x.2.2.2.2 == b).map fun x => x.1).Nodup := h.2.sublist (List.Sublist.map _ List.filter_sublist)
  have hn2 : ((srtT ([] ++ L.filter fun x => x.2.2.2.2 == b)).map fun x => x.1).Nodup := (g1.map _).nodup_iff.2 hn
  refine YtokephobkllfgaaStr.sorted_one rT_as (g1.trans hs.2.symm) ?_ hs.1
  rw [List.Nodup, List.pairwise_map] at hn2
  refine (g2.and hn2).imp fun {x y} hxy => ?_
  have h1 := of_decide_eq_false hxy.1
  have h2 := cmpT_flip x y
  have h3 : cmpT x y ≠ 0 := fun h => hxy.2 (cmpT_call h)
  show cmpT x y < 0
  omega
end Go.Proofs.YtokephobkllfgaaSs
