/- What is laid here: the law's loop over a stack and its model, and the plain law: step by step the two answer alike. No condition. -/
import Derived.Test.YtacdahpjmeianaaTho2
namespace Go.Proofs.YtacdahpjmeianaaHo
open Go Go.Proofs Go.Proofs.YtacdahpjmeianaaEv
set_option maxRecDepth 100000
set_option maxHeartbeats 4000000
set_option linter.unusedVariables false
set_option linter.unusedSimpArgs false
def stkM (kd : Int) (k : SK) (c : C3) : SK := bif kd == 0 then entM k c.2.1 c.2.2 else bif kd == 1 then sdnM k c.2.2 else slvM k c.2.1 c.2.2
def stkN (kd : Int) (k : SK) (nl : Bool) (c : C3) : Bool := bif kd == 0 then (bif entE k c.2.1 c.2.2 == 0 then false else nl) else nl
def stkV (kd : Int) (k : SK) (c : C3) : Int := bif kd == 0 then entVal k c.2.1 c.2.2 else bif kd == 1 then sdnV k c.2.2 else slvV k c.2.1 c.2.2
def stkE (kd : Int) (k : SK) (c : C3) : Int := bif kd == 0 then entE k c.2.1 c.2.2 else bif kd == 1 then sdnE k c.2.2 else slvE k c.2.1 c.2.2
def modM (kd : Int) (m : MD) (c : C3) : MD := bif kd == 0 then menM m c.2.1 c.2.2 else bif kd == 1 then mdnM m c.2.2 else mlvM m c.2.1 c.2.2
def modV (kd : Int) (m : MD) (c : C3) : Int := bif kd == 0 then menV m c.2.1 c.2.2 else bif kd == 1 then mdnV m c.2.2 else mlvV m c.2.1 c.2.2
def modE (kd : Int) (m : MD) (c : C3) : Int := bif kd == 0 then menE m c.2.1 c.2.2 else bif kd == 1 then mdnE m c.2.2 else mlvE m c.2.1 c.2.2
abbrev xC : Sp := .bx ⟨true, kC⟩
abbrev xSt : Sp := .bx ⟨true, kSet⟩
abbrev kW0 : List Shp := [.s xSt, sI]
def cW0 : SpecC kW0 := cut1 kW0 [sI] (fun v => decide (v.2.1 = 0)) .normal (fun v => (chkE v.1, ())) (same kW0)
abbrev kSw : List Shp := [bO, mO, .s xC, sI]
noncomputable def cSw : SpecC kSw := cut1 kSw [sI, sI, sI, sI] (fun v => bp (preK (skV v.1) v.2.2.1.2.1 ∧ preM v.2.1 v.2.2.1.2.1 ∧ 0 ≤ v.2.2.2.1 ∧ v.2.2.2.1 ≤ 2)) .normal
  (fun v => (stkV v.2.2.2.1 (skV v.1) v.2.2.1, modV v.2.2.2.1 v.2.1 v.2.2.1, stkE v.2.2.2.1 (skV v.1) v.2.2.1, modE v.2.2.2.1 v.2.1 v.2.2.1, ()))
  (fun v => (skP (stkM v.2.2.2.1 (skV v.1) v.2.2.1) (stkN v.2.2.2.1 (skV v.1) v.1.2.1.2 v.2.2.1), modM v.2.2.2.1 v.2.1 v.2.2.1, (), (), ()))
/-! ### The plain law -/
/-- Each flight that is held stands at the height of its level. -/
def htR (low s : Int) : Int → List T3 → Prop
  | _, [] => True
  | p, x :: r => (occT x = true → x.2.1 = low + p * s) ∧ htR low s (p + 1) r
def relH (k : SK) (m : MD) : Prop := k.1 = m.1 ∧ k.2.2 = m.2.2 ∧ m.2.1.length = 32 ∧ k.2.1 = m.2.1.filter occT ∧ htR m.1.1 m.1.2.2 0 m.2.1 ∧ hiB m.2.1 = true ∧ tiB m.2.1 = true ∧ setOK m.1 ∧ lvlM m.1 ≤ 32 ∧ 0 ≤ m.2.2
theorem hi_iff {L : List T3} : hiB L = true ↔ ∀ x ∈ L, inS x.2.1 0 100000 = true := List.all_eq_true
theorem ti_iff {L : List T3} : tiB L = true ↔ ∀ x ∈ L, inS x.2.2 0 200000 = true := List.all_eq_true
theorem inS_mk {n a b : Int} (h1 : a ≤ n) (h2 : n ≤ b) : inS n a b = true := by unfold inS; rw [decide_eq_true (show n ≥ a from h1), decide_eq_true h2]; rfl
theorem rel_pre {k : SK} {m : MD} (h : relH k m) (c : ByteArray) (hc : c.size ≤ 1000000000000000000) : preK k c ∧ preM m c := by
  obtain ⟨h1, h2, h3, h4, h5, h6, h7, h8, h9, h10⟩ := h
  refine ⟨⟨by rw [h1]; exact h8, ?_, ?_, ?_, by rw [h2]; exact h10, hc⟩, ⟨h8, h9, h3, h6, h7, h10, hc⟩⟩
  · rw [h4]; have := List.length_filter_le occT m.2.1; omega
  · rw [h4]; exact hi_iff.2 fun x hx => hi_iff.1 h6 x (List.mem_filter.1 hx).1
  · rw [h4]; exact ti_iff.2 fun x hx => ti_iff.1 h7 x (List.mem_filter.1 hx).1
/-! ### Finding -/
theorem ixP_none {α : Type} (p : α → Bool) : ∀ (l : List α) (k : Int), (∀ x ∈ l, p x = false) → ixP p k l = -1
  | [], k, _ => rfl
  | x :: r, k, h => by
    unfold ixP
    rw [if_neg (by rw [h x List.mem_cons_self]; simp)]
    exact ixP_none p r (k + 1) fun y hy => h y (List.mem_cons_of_mem x hy)
theorem ixP_some {α : Type} (p : α → Bool) : ∀ (P : List α) (x : α) (R : List α) (k : Int), (∀ y ∈ P, p y = false) → p x = true → ixP p k (P ++ x :: R) = k + (P.length : Int)
  | [], x, R, k, _, h => by
    show ixP p k (x :: R) = _
    unfold ixP
    rw [if_pos h]; simp
  | y :: P, x, R, k, h, hx => by
    show ixP p k (y :: (P ++ x :: R)) = _
    unfold ixP
    rw [if_neg (by rw [h y List.mem_cons_self]; simp), ixP_some p P x R (k + 1) (fun z hz => h z (List.mem_cons_of_mem y hz)) hx]
    simp only [List.length_cons]; omega
theorem split_first {α : Type} (p : α → Bool) : ∀ l : List α, (∀ x ∈ l, p x = false) ∨ ∃ P x R, l = P ++ x :: R ∧ (∀ y ∈ P, p y = false) ∧ p x = true
  | [] => Or.inl (by simp)
  | x :: r => by
    cases h : p x with
    | true => exact Or.inr ⟨[], x, r, rfl, by simp, h⟩
    | false =>
      rcases split_first p r with h2 | ⟨P, y, R, rfl, h3, h4⟩
      · left
        intro y hy
        rcases List.mem_cons.1 hy with rfl | hy
        · exact h
        · exact h2 y hy
      · right
        refine ⟨x :: P, y, R, rfl, ?_, h4⟩
        intro z hz
        rcases List.mem_cons.1 hz with rfl | hz
        · exact h
        · exact h3 z hz
/-- A flight that is looked for: nowhere in both, or at one place. -/
theorem find_both (c : ByteArray) (L : List T3) : (fndM c L = -1 ∧ ixT c (L.filter occT) = -1) ∨
    ∃ P x R, L = P ++ x :: R ∧ x.1 = c ∧ occT x = true ∧ fndM c L = (P.length : Int) ∧ ixT c (L.filter occT) = ((P.filter occT).length : Int) := by
  rcases split_first (fun x => isT c x && !decide (c = ByteArray.mk #[])) L with h | ⟨P, x, R, rfl, h1, h2⟩
  · left
    refine ⟨ixP_none _ _ _ h, ixP_none _ _ _ fun x hx => ?_⟩
    obtain ⟨hx, ho⟩ := List.mem_filter.1 hx
    have := h x hx
    cases hi : isT c x with
    | false => rfl
    | true =>
      rw [hi, Bool.true_and] at this
      unfold isT at hi
      have hi := of_decide_eq_true hi
      unfold occT at ho
      rw [hi] at ho
      rw [ho] at this
      exact absurd this (by simp)
  · right
    rw [Bool.and_eq_true] at h2
    have hx : x.1 = c := of_decide_eq_true h2.1
    have ho : occT x = true := by unfold occT; rw [hx]; exact h2.2
    refine ⟨P, x, R, rfl, hx, ho, ?_, ?_⟩
    · have := ixP_some (fun x => isT c x && !decide (c = ByteArray.mk #[])) P x R 0 h1 (by rw [Bool.and_eq_true]; exact h2)
      rw [Int.zero_add] at this; exact this
    · rw [List.filter_append, List.filter_cons_of_pos ho]
      have := ixP_some (isT c) (P.filter occT) x (R.filter occT) 0 (fun y hy => ?_) h2.1
      · rw [Int.zero_add] at this; exact this
      · have := h1 y (List.mem_filter.1 hy).1
        rw [h2.2, Bool.and_true] at this; exact this
/-! ### Enter -/
theorem top_none : ∀ (l : List T3) (k a : Int), (∀ x ∈ l, occT x = false) → topR k a l = a
  | [], _, _, _ => rfl
  | x :: r, k, a, h => by
    unfold topR
    rw [h x List.mem_cons_self]
    exact top_none r (k + 1) a fun y hy => h y (List.mem_cons_of_mem x hy)
theorem top_some : ∀ (P : List T3) (x : T3) (R : List T3) (k a : Int), occT x = true → (∀ y ∈ R, occT y = false) → topR k a (P ++ x :: R) = k + (P.length : Int) + 1
  | [], x, R, k, a, h, hR => by
    show topR k a (x :: R) = _
    unfold topR
    rw [h, cond_true, top_none R _ _ hR]; simp
  | y :: P, x, R, k, a, h, hR => by
    show topR k a (y :: (P ++ x :: R)) = _
    unfold topR
    rw [top_some P x R (k + 1) _ h hR]
    simp only [List.length_cons]; omega
theorem split_last {α : Type} (p : α → Bool) (l : List α) : (∀ x ∈ l, p x = false) ∨ ∃ P x R, l = P ++ x :: R ∧ (∀ y ∈ R, p y = false) ∧ p x = true := by
  rcases split_first p l.reverse with h | ⟨P, x, R, h, h1, h2⟩
  · exact Or.inl fun x hx => h x (List.mem_reverse.2 hx)
  · right
    refine ⟨R.reverse, x, P.reverse, ?_, fun y hy => h1 y (List.mem_reverse.1 hy), h2⟩
    have := congrArg List.reverse h
    rw [List.reverse_reverse] at this
    rw [this]; simp
theorem filt_none {l : List T3} (h : ∀ x ∈ l, occT x = false) : l.filter occT = [] := List.filter_eq_nil_iff.2 fun x hx => by rw [h x hx]; simp
theorem ht_at {low s : Int} : ∀ (P : List T3) (x : T3) (R : List T3) (p : Int), htR low s p (P ++ x :: R) → occT x = true → x.2.1 = low + (p + (P.length : Int)) * s
  | [], x, R, p, h, ho => by
    have h : htR low s p (x :: R) := h
    unfold htR at h
    have := h.1 ho
    simpa using this
  | y :: P, x, R, p, h, ho => by
    have h : htR low s p (y :: (P ++ x :: R)) := h
    unfold htR at h
    have := ht_at P x R (p + 1) h.2 ho
    rw [this]
    simp only [List.length_cons]
    rw [show p + 1 + (P.length : Int) = p + ((P.length + 1 : Nat) : Int) by omega]
theorem ht_put {low s : Int} : ∀ (P : List T3) (x y : T3) (R : List T3) (p : Int), htR low s p (P ++ x :: R) → (occT y = true → y.2.1 = low + (p + (P.length : Int)) * s) → htR low s p (P ++ y :: R)
  | [], x, y, R, p, h, hy => by
    have h : htR low s p (x :: R) := h
    unfold htR at h
    refine ⟨fun ho => ?_, h.2⟩
    have := hy ho
    simpa using this
  | z :: P, x, y, R, p, h, hy => by
    have h : htR low s p (z :: (P ++ x :: R)) := h
    unfold htR at h
    refine ⟨h.1, ht_put P x y R (p + 1) h.2 fun ho => ?_⟩
    rw [hy ho]
    simp only [List.length_cons]
    rw [show p + 1 + (P.length : Int) = p + ((P.length + 1 : Nat) : Int) by omega]
/-- Above the last flight that is held. -/
theorem top_spl {L : List T3} (h : topM L < (L.length : Int)) : ∃ P x R, L = P ++ x :: R ∧ (P.length : Int) = topM L ∧ occT x = false ∧ (∀ y ∈ R, occT y = false) := by
  rcases split_last occT L with h1 | ⟨P, x, R, rfl, h1, h2⟩
  · have ht : topM L = 0 := top_none L 0 0 h1
    cases L with
    | nil => simp at h; omega
    | cons x R => exact ⟨[], x, R, rfl, by rw [ht]; rfl, h1 x List.mem_cons_self, fun y hy => h1 y (List.mem_cons_of_mem x hy)⟩
  · have ht : topM (P ++ x :: R) = (P.length : Int) + 1 := by
      have := top_some P x R 0 0 h2 h1
      unfold topM; rw [this]; omega
    cases R with
    | nil => rw [ht] at h; simp at h
    | cons y R => exact ⟨P ++ [x], y, R, by simp, by rw [ht]; simp, h1 y List.mem_cons_self, fun z hz => h1 z (List.mem_cons_of_mem y hz)⟩
theorem ent_h {k : SK} {m : MD} (h : relH k m) : entH k = m.1.1 + topM m.2.1 * m.1.2.2 := by
  obtain ⟨h1, h2, h3, h4, h5, h6, h7, h8, h9, h10⟩ := h
  unfold entH lastT
  rw [h4, h1]
  rcases split_last occT m.2.1 with g1 | ⟨P, x, R, e, g1, g2⟩
  · rw [filt_none g1, show topM m.2.1 = 0 from top_none _ 0 0 g1]
    simp
  · have ht : topM m.2.1 = (P.length : Int) + 1 := by
      have := top_some P x R 0 0 g2 g1
      unfold topM; rw [e, this]; omega
    rw [e] at h5
    have hx := ht_at P x R 0 h5 g2
    have hf : m.2.1.filter occT = P.filter occT ++ [x] := by rw [e, List.filter_append, List.filter_cons_of_pos g2, filt_none g1]
    rw [hf, ht]
    have hl : ((P.filter occT ++ [x]).length : Int) = ((P.filter occT).length : Int) + 1 := by simp
    have ha : atT (P.filter occT ++ [x]) (((P.filter occT ++ [x]).length : Int) - 1) = x := by
      rw [hl, show ((P.filter occT).length : Int) + 1 - 1 = ((P.filter occT).length : Int) by omega]
      exact atT_mid _ x []
    rw [ha, hx, decide_eq_true (show ((P.filter occT ++ [x]).length : Int) > 0 by omega), cond_true, Int.zero_add, Int.add_mul, Int.one_mul]
    omega
theorem lvl_cmp {low high s t : Int} (h0 : low ≤ high) (hs : 0 < s) : (low + t * s > high) ↔ (t ≥ (high - low).tdiv s + 1) := by
  rw [Int.tdiv_eq_ediv_of_nonneg (show 0 ≤ high - low by omega)]
  constructor
  · intro h
    have := Int.ediv_lt_of_lt_mul hs (show high - low < t * s by omega)
    omega
  · intro h
    have := Int.lt_mul_of_ediv_lt hs (show (high - low) / s < t by omega)
    omega
theorem ent_e {k : SK} {m : MD} (h : relH k m) (c : ByteArray) (t : Int) : entE k c t = menE m c t := by
  have hH := ent_h h
  obtain ⟨h1, h2, h3, h4, h5, h6, h7, h8, h9, h10⟩ := h
  obtain ⟨g1, g2, g3, g4, g5⟩ := h8
  unfold entE menE
  have e1 : decide (ixT c k.2.1 ≥ 0) = decide (fndM c m.2.1 ≥ 0) := by
    rw [h4]
    rcases find_both c m.2.1 with ⟨a, b⟩ | ⟨P, x, R, _, _, _, a, b⟩
    · rw [a, b]
    · rw [a, b, decide_eq_true (show ((P.filter occT).length : Int) ≥ 0 by omega), decide_eq_true (show (P.length : Int) ≥ 0 by omega)]
  have e2 : decide (entH k > k.1.2.1) = decide (topM m.2.1 ≥ lvlM m.1) := by
    rw [hH, h1]
    exact decide_eq_decide.mpr (lvl_cmp g2 (by omega))
  rw [e1, e2, h2]; rfl
theorem ent_rel {k : SK} {m : MD} (h : relH k m) (c : ByteArray) (t : Int) : entVal k c t = menV m c t ∧ relH (entM k c t) (menM m c t) := by
  have hH := ent_h h
  have hE := ent_e h c t
  unfold entVal menV entM menM
  rw [hE, hH]
  cases e : (menE m c t == 0) with
  | false => exact ⟨rfl, h⟩
  | true =>
    refine ⟨rfl, ?_⟩
    simp only [cond_true]
    obtain ⟨h1, h2, h3, h4, h5, h6, h7, h8, h9, h10⟩ := h
    have hs := h8
    obtain ⟨g1, g2, g3, g4, g5⟩ := hs
    have e := eq_of_beq e
    unfold menE at e
    cases n1 : namS c with
    | false => rw [n1] at e; simp at e
    | true =>
      rw [n1] at e
      cases n2 : decide (fndM c m.2.1 ≥ 0) with
      | true => rw [n2] at e; simp at e
      | false =>
        rw [n2] at e
        cases n3 : inS t m.2.2 200000 with
        | false => rw [n3] at e; simp at e
        | true =>
          rw [n3] at e
          cases n4 : decide (topM m.2.1 ≥ lvlM m.1) with
          | true => rw [n4] at e; simp at e
          | false =>
            have n3 := inS_at n3
            have n4 := of_decide_eq_false n4
            have hoc : (!decide (c = ByteArray.mk #[])) = true := by
              cases hd : decide (c = ByteArray.mk #[]) with
              | false => rfl
              | true =>
                have hd := of_decide_eq_true hd
                subst hd
                unfold namS at n1
                rw [show (ByteArray.mk #[]).size = 0 from rfl] at n1
                simp at n1
            have htb := topM_bd h3
            obtain ⟨P, x, R, eL, hP, hx, hR⟩ := top_spl (L := m.2.1) (by omega)
            have hset : m.2.1.set (topM m.2.1).toNat (c, m.1.1 + topM m.2.1 * m.1.2.2, t) = P ++ (c, m.1.1 + topM m.2.1 * m.1.2.2, t) :: R := by
              generalize m.1.1 + topM m.2.1 * m.1.2.2 = q
              rw [← hP, Int.toNat_natCast, eL]
              exact set_mid P x _ R _ rfl
            have hq : 0 ≤ topM m.2.1 * m.1.2.2 := Int.mul_nonneg htb.1 (by omega)
            have hqh : m.1.1 + topM m.2.1 * m.1.2.2 ≤ m.1.2.1 := by
              by_cases hh : m.1.1 + topM m.2.1 * m.1.2.2 > m.1.2.1
              · exact absurd ((lvl_cmp g2 (by omega)).1 hh) n4
              · omega
            refine ⟨h1, rfl, ?_, ?_, ?_, ?_, ?_, h8, h9, by show 0 ≤ t; omega⟩
            · show (m.2.1.set _ _).length = 32
              rw [List.length_set]; exact h3
            · show k.2.1 ++ _ = (m.2.1.set _ _).filter occT
              rw [hset, h4, eL, List.filter_append, List.filter_append, List.filter_cons_of_neg (by rw [hx]; simp), List.filter_cons_of_pos (show occT (c, _, t) = true from hoc), filt_none hR]
              simp
            · show htR _ _ 0 (m.2.1.set _ _)
              rw [hset]
              rw [eL] at h5
              refine ht_put P x _ R 0 h5 fun _ => ?_
              rw [hP, Int.zero_add]
            · show hiB (m.2.1.set _ _) = true
              refine hi_iff.2 fun z hz => ?_
              rcases List.mem_or_eq_of_mem_set hz with hz | rfl
              · exact hi_iff.1 h6 z hz
              · exact inS_mk (by show 0 ≤ m.1.1 + _; omega) (by show m.1.1 + _ ≤ 100000; omega)
            · show tiB (m.2.1.set _ _) = true
              refine ti_iff.2 fun z hz => ?_
              rcases List.mem_or_eq_of_mem_set hz with hz | rfl
              · exact ti_iff.1 h7 z hz
              · exact inS_mk (by show 0 ≤ t; omega) n3.2
end Go.Proofs.YtacdahpjmeianaaHo
