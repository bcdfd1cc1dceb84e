/- What is laid here: the plain law of Down and Leave, and the loop over the calls. No condition. -/
import Derived.Test.YtacdahpjmeianaaTho3
namespace Go.Proofs.YtacdahpjmeianaaHo
open Go Go.Proofs Go.Proofs.YtacdahpjmeianaaEv
set_option maxRecDepth 100000
set_option maxHeartbeats 4000000
set_option linter.unusedVariables false
set_option linter.unusedSimpArgs false
/-! ### Down -/
theorem all_cons {p : T3 → Bool} {x : T3} {l : List T3} : (x :: l).all p = true ↔ p x = true ∧ l.all p = true := by rw [List.all_cons, Bool.and_eq_true]
theorem hi_cons {x : T3} {l : List T3} : hiB (x :: l) = true ↔ inS x.2.1 0 100000 = true ∧ hiB l = true := all_cons
theorem ti_cons {x : T3} {l : List T3} : tiB (x :: l) = true ↔ inS x.2.2 0 200000 = true ∧ tiB l = true := all_cons
theorem occ_z : occT zT = false := rfl
def one (x : T3) : List T3 := bif occT x then [x] else []
theorem filt_one (x : T3) (l : List T3) : (x :: l).filter occT = one x ++ l.filter occT := by
  unfold one
  cases h : occT x with
  | true => rw [List.filter_cons_of_pos h]; rfl
  | false => rw [List.filter_cons_of_neg (by rw [h]; simp)]; rfl
theorem dn_rel {low s : Int} (hs : 0 < s) (hl : 0 ≤ low) : ∀ (Q : List T3) (x : T3) (p f : Int), 0 ≤ p → htR low s p (x :: Q) → (occT x = true → f = low + (p + 1) * s) → (occT x = false → f ≤ low + p * s) → hiB (x :: Q) = true → tiB (x :: Q) = true →
    (dwnR s x Q).1.filter occT = one x ++ (dnR s f (Q.filter occT)).1 ∧ (dwnR s x Q).2 = (dnR s f (Q.filter occT)).2 ∧ htR low s p (dwnR s x Q).1 ∧ hiB (dwnR s x Q).1 = true ∧ tiB (dwnR s x Q).1 = true
  | [], x, p, f, hp, h1, h2, h3, h4, h5 => ⟨by show [x].filter occT = one x ++ []; rw [filt_one x []]; rfl, rfl, h1, h4, h5⟩
  | y :: r, x, p, f, hp, h1, h2, h3, h4, h5 => by
    have hps : (p + 1) * s = p * s + s := by rw [Int.add_mul, Int.one_mul]
    have hps2 : (p + 1 + 1) * s = (p + 1) * s + s := by rw [Int.add_mul (p + 1), Int.one_mul]
    have hp0 : 0 ≤ p * s := Int.mul_nonneg hp (by omega)
    obtain ⟨a1, a2⟩ := h1
    have hyr := a2
    obtain ⟨b1, b2⟩ := a2
    have hi1 := hi_cons.1 h4
    have ti1 := ti_cons.1 h5
    have hi2 := hi_cons.1 hi1.2
    have ti2 := ti_cons.1 ti1.2
    cases hy : occT y with
    | false =>
      have e1 : dwnR s x (y :: r) = (x :: (dwnR s y r).1, (dwnR s y r).2) := by
        show (bif occT y && !occT x then _ else _) = _
        rw [hy]; rfl
      have hf : f ≤ low + (p + 1) * s := by
        cases hx : occT x with
        | true => rw [h2 hx]; omega
        | false => have := h3 hx; omega
      obtain ⟨c1, c2, c3, c4, c5⟩ := dn_rel hs hl r y (p + 1) f (by omega) hyr (fun h => by rw [hy] at h; cases h) (fun _ => hf) hi1.2 ti1.2
      have e3 : (y :: r).filter occT = r.filter occT := List.filter_cons_of_neg (by rw [hy]; simp)
      rw [e1, e3]
      have o : one y = [] := by unfold one; rw [hy]; rfl
      refine ⟨?_, c2, ⟨a1, c3⟩, hi_cons.2 ⟨hi1.1, c4⟩, ti_cons.2 ⟨ti1.1, c5⟩⟩
      show (x :: (dwnR s y r).1).filter occT = _
      rw [filt_one, c1, o]; rfl
    | true =>
      have hyh := b1 hy
      rw [List.filter_cons_of_pos hy]
      cases hx : occT x with
      | true =>
        have hf := h2 hx
        have e1 : dwnR s x (y :: r) = (x :: (dwnR s y r).1, (dwnR s y r).2) := by
          show (bif occT y && !occT x then _ else _) = _
          rw [hy, hx]; rfl
        have e2 : dnR s f (y :: r.filter occT) = (y :: (dnR s (y.2.1 + s) (r.filter occT)).1, (dnR s (y.2.1 + s) (r.filter occT)).2) := by
          show (bif decide (y.2.1 > f) then _ else _) = _
          rw [decide_eq_false (show ¬ y.2.1 > f by omega)]; rfl
        obtain ⟨c1, c2, c3, c4, c5⟩ := dn_rel hs hl r y (p + 1) (y.2.1 + s) (by omega) hyr (fun _ => by omega) (fun h => by rw [hy] at h; cases h) hi1.2 ti1.2
        rw [e1, e2]
        have o : one y = [y] := by unfold one; rw [hy]; rfl
        refine ⟨?_, c2, ⟨a1, c3⟩, hi_cons.2 ⟨hi1.1, c4⟩, ti_cons.2 ⟨ti1.1, c5⟩⟩
        show (x :: (dwnR s y r).1).filter occT = _
        rw [filt_one, c1, o]; rfl
      | false =>
        have hf := h3 hx
        have e1 : dwnR s x (y :: r) = ((y.1, y.2.1 - s, y.2.2) :: (dwnR s zT r).1, (dwnR s zT r).2 + 1) := by
          show (bif occT y && !occT x then _ else _) = _
          rw [hy, hx]; rfl
        have e2 : dnR s f (y :: r.filter occT) = ((y.1, y.2.1 - s, y.2.2) :: (dnR s (y.2.1 - s + s) (r.filter occT)).1, (dnR s (y.2.1 - s + s) (r.filter occT)).2 + 1) := by
          show (bif decide (y.2.1 > f) then _ else _) = _
          rw [decide_eq_true (show y.2.1 > f by omega)]; rfl
        have hz : htR low s (p + 1) (zT :: r) := ⟨fun h => (by rw [occ_z] at h; cases h), b2⟩
        obtain ⟨c1, c2, c3, c4, c5⟩ := dn_rel hs hl r zT (p + 1) (y.2.1 - s + s) (by omega) hz (fun h => by rw [occ_z] at h; cases h) (fun _ => by omega) (hi_cons.2 ⟨rfl, hi2.2⟩) (ti_cons.2 ⟨rfl, ti2.2⟩)
        rw [e1, e2]
        have hb := inS_at hi2.1
        have o : one zT = [] := rfl
        have ox : one x = [] := by unfold one; rw [hx]; rfl
        have hy2 : occT (y.1, y.2.1 - s, y.2.2) = true := hy
        refine ⟨?_, ?_, ⟨fun _ => by show y.2.1 - s = _; omega, c3⟩, hi_cons.2 ⟨inS_mk (by show 0 ≤ y.2.1 - s; omega) (by show y.2.1 - s ≤ 100000; omega), c4⟩, ti_cons.2 ⟨ti2.1, c5⟩⟩
        · show ((y.1, y.2.1 - s, y.2.2) :: (dwnR s zT r).1).filter occT = _
          rw [List.filter_cons_of_pos hy2, c1, o, ox]; rfl
        · show (dwnR s zT r).2 + 1 = _
          rw [c2]
theorem down_rel {k : SK} {m : MD} (h : relH k m) (t : Int) : sdnE k t = mdnE m t ∧ sdnV k t = mdnV m t ∧ relH (sdnM k t) (mdnM m t) := by
  have hr := h
  obtain ⟨h1, h2, h3, h4, h5, h6, h7, h8, h9, h10⟩ := h
  obtain ⟨g1, g2, g3, g4, g5⟩ := h8
  have eE : sdnE k t = mdnE m t := by unfold sdnE mdnE; rw [h2]; rfl
  refine ⟨eE, ?_⟩
  unfold sdnV mdnV sdnM mdnM
  rw [eE]
  cases e : (mdnE m t == 0) with
  | false => exact ⟨rfl, hr⟩
  | true =>
    simp only [cond_true]
    obtain ⟨x, Q, eL⟩ : ∃ x Q, m.2.1 = x :: Q := by
      cases hL : m.2.1 with
      | nil => rw [hL] at h3; simp at h3
      | cons x Q => exact ⟨x, Q, rfl⟩
    have hd : dwnM m.1.2.2 m.2.1 1 = ((dwnR m.1.2.2 x Q).1, (dwnR m.1.2.2 x Q).2) := by
      rw [eL]
      exact dwn_at m.1.2.2 [] x Q 1 rfl
    rw [eL] at h5 h6 h7
    have hq : (k.2.1 = one x ++ Q.filter occT) := by rw [h4, eL, filt_one]
    -- the first flight
    have key : ∃ f, (occT x = true → f = m.1.1 + (0 + 1) * m.1.2.2) ∧ (occT x = false → f ≤ m.1.1 + 0 * m.1.2.2) ∧ dnR k.1.2.2 k.1.1 k.2.1 = (one x ++ (dnR m.1.2.2 f (Q.filter occT)).1, (dnR m.1.2.2 f (Q.filter occT)).2) := by
      rw [hq, h1]
      cases hx : occT x with
      | false =>
        refine ⟨m.1.1, fun h => (by cases h), fun _ => by omega, ?_⟩
        have o : one x = [] := by unfold one; rw [hx]; rfl
        rw [o]; rfl
      | true =>
        have hxh := h5.1 hx
        have o : one x = [x] := by unfold one; rw [hx]; rfl
        refine ⟨x.2.1 + m.1.2.2, fun _ => by omega, fun h => (by cases h), ?_⟩
        rw [o]
        show dnR m.1.2.2 m.1.1 (x :: Q.filter occT) = _
        show (bif decide (x.2.1 > m.1.1) then _ else _) = _
        rw [decide_eq_false (show ¬ x.2.1 > m.1.1 by omega)]; rfl
    obtain ⟨f, f1, f2, f3⟩ := key
    obtain ⟨c1, c2, c3, c4, c5⟩ := dn_rel (low := m.1.1) (s := m.1.2.2) (by omega) g1 Q x 0 f (by omega) h5 f1 f2 h6 h7
    have e := eq_of_beq e
    have ht : inS t m.2.2 200000 = true := by
      unfold mdnE at e
      cases n : inS t m.2.2 200000 with
      | true => rfl
      | false => rw [n] at e; simp at e
    have ht := inS_at ht
    refine ⟨by rw [f3, hd, c2], h1, rfl, ?_, ?_, ?_, ?_, ?_, ⟨g1, g2, g3, g4, g5⟩, h9, by show 0 ≤ t; omega⟩
    · show (dwnM m.1.2.2 m.2.1 1).1.length = 32
      rw [hd]
      show (dwnR m.1.2.2 x Q).1.length = 32
      rw [dwn_len, ← h3, eL]; rfl
    · show (dnR k.1.2.2 k.1.1 k.2.1).1 = (dwnM m.1.2.2 m.2.1 1).1.filter occT
      rw [f3, hd, c1]
    · show htR _ _ 0 (dwnM m.1.2.2 m.2.1 1).1
      rw [hd]; exact c3
    · show hiB (dwnM m.1.2.2 m.2.1 1).1 = true
      rw [hd]; exact c4
    · show tiB (dwnM m.1.2.2 m.2.1 1).1 = true
      rw [hd]; exact c5
/-! ### Leave -/
theorem any_filt (P : List T3) : P.any occT = decide (((P.filter occT).length : Int) > 0) := by
  cases h : P.any occT with
  | false =>
    have : P.filter occT = [] := filt_none fun x hx => by
      have := List.any_eq_false.1 h x hx
      simpa using this
    rw [this]; rfl
  | true =>
    obtain ⟨x, hx, ho⟩ := List.any_eq_true.1 h
    have := List.length_pos_of_mem (List.mem_filter.2 ⟨hx, ho⟩)
    rw [decide_eq_true (by omega)]
theorem leave_rel {k : SK} {m : MD} (h : relH k m) (c : ByteArray) (t : Int) : slvE k c t = mlvE m c t ∧ slvV k c t = mlvV m c t ∧ relH (slvM k c t) (mlvM m c t) := by
  have hr := h
  obtain ⟨h1, h2, h3, h4, h5, h6, h7, h8, h9, h10⟩ := h
  have eE : slvE k c t = bif decide (ixT c k.2.1 < 0) then 8 else bif !atB t k.2.2 then 12 else bif decide (ixT c k.2.1 > 0) then 11 else 0 := rfl
  have eM : mlvE m c t = bif decide (fndM c m.2.1 < 0) then 8 else bif !inS t m.2.2 200000 then 12 else bif (m.2.1.take (fndM c m.2.1).toNat).any occT then 11 else 0 := rfl
  have ea : atB t k.2.2 = inS t m.2.2 200000 := by rw [h2]; rfl
  unfold slvV mlvV slvM mlvM
  rcases find_both c m.2.1 with ⟨a, b⟩ | ⟨P, x, R, eL, hx, ho, a, b⟩
  · rw [← h4] at b
    rw [eE, eM, a, b]
    exact ⟨rfl, rfl, hr⟩
  · rw [← h4] at b
    have htk : (m.2.1.take (P.length : Int).toNat) = P := by rw [Int.toNat_natCast, eL, List.take_left' rfl]
    rw [eE, eM, a, b, htk, ea, any_filt P, decide_eq_false (show ¬ ((P.filter occT).length : Int) < 0 by omega), decide_eq_false (show ¬ (P.length : Int) < 0 by omega)]
    refine ⟨rfl, ?_⟩
    simp only [cond_false]
    cases n1 : inS t m.2.2 200000 with
    | false => exact ⟨rfl, hr⟩
    | true =>
      have n1 := inS_at n1
      simp only [Bool.not_true, cond_false]
      cases n2 : decide (((P.filter occT).length : Int) > 0) with
      | true => exact ⟨rfl, hr⟩
      | false =>
        have n2 := of_decide_eq_false n2
        have hP : P.filter occT = [] := List.length_eq_zero_iff.1 (by omega)
        have hM : k.2.1 = x :: R.filter occT := by rw [h4, eL, List.filter_append, hP, List.filter_cons_of_pos ho]; rfl
        have ax : atT k.2.1 0 = x := by rw [hM]; rfl
        have am : atT m.2.1 (P.length : Int) = x := by rw [eL]; exact atT_mid P x R
        have hset : m.2.1.set (P.length : Int).toNat zT = P ++ zT :: R := by rw [Int.toNat_natCast, eL]; exact set_mid P x zT R _ rfl
        simp only [cond_false, beq_self_eq_true, cond_true]
        refine ⟨by rw [ax, am], h1, rfl, ?_, ?_, ?_, ?_, ?_, h8, h9, by show 0 ≤ t; omega⟩
        · show (m.2.1.set _ zT).length = 32
          rw [List.length_set]; exact h3
        · show k.2.1.eraseIdx 0 = (m.2.1.set _ zT).filter occT
          rw [hset, hM, List.filter_append, hP, List.filter_cons_of_neg (by rw [occ_z]; simp)]; rfl
        · show htR _ _ 0 (m.2.1.set _ zT)
          rw [hset]
          rw [eL] at h5
          exact ht_put P x zT R 0 h5 fun h => by rw [occ_z] at h; cases h
        · show hiB (m.2.1.set _ zT) = true
          refine hi_iff.2 fun z hz => ?_
          rcases List.mem_or_eq_of_mem_set hz with hz | rfl
          · exact hi_iff.1 h6 z hz
          · rfl
        · show tiB (m.2.1.set _ zT) = true
          refine ti_iff.2 fun z hz => ?_
          rcases List.mem_or_eq_of_mem_set hz with hz | rfl
          · exact ti_iff.1 h7 z hz
          · rfl
/-! ### A step, and the list of all that is held -/
theorem step_rel {k : SK} {m : MD} (h : relH k m) (kd : Int) (c : C3) : stkV kd k c = modV kd m c ∧ stkE kd k c = modE kd m c ∧ relH (stkM kd k c) (modM kd m c) := by
  unfold stkV modV stkE modE stkM modM
  cases kd == 0 with
  | true => exact ⟨(ent_rel h c.2.1 c.2.2).1, ent_e h c.2.1 c.2.2, (ent_rel h c.2.1 c.2.2).2⟩
  | false =>
    cases kd == 1 with
    | true => exact ⟨(down_rel h c.2.2).2.1, (down_rel h c.2.2).1, (down_rel h c.2.2).2.2⟩
    | false => exact ⟨(leave_rel h c.2.1 c.2.2).2.1, (leave_rel h c.2.1 c.2.2).1, (leave_rel h c.2.1 c.2.2).2.2⟩
theorem step_nl {k : SK} {kn : Bool} (h : kn = true → k.2.1 = []) (kd : Int) (c : C3) : stkN kd k kn c = true → (stkM kd k c).2.1 = [] := by
  intro hn
  have hkn : kn = true := by
    unfold stkN at hn
    cases e0 : (kd == 0) with
    | false => rw [e0] at hn; exact hn
    | true =>
      cases e : (entE k c.2.1 c.2.2 == 0) with
      | true => rw [e0, e] at hn; cases hn
      | false => rw [e0, e] at hn; exact hn
  have hM := h hkn
  unfold stkM
  cases e0 : (kd == 0) with
  | true =>
    unfold stkN at hn
    rw [e0] at hn
    cases e : (entE k c.2.1 c.2.2 == 0) with
    | true => rw [e] at hn; cases hn
    | false => simp only [cond_true, entM, e, cond_false]; exact hM
  | false =>
    simp only [cond_false]
    cases kd == 1 with
    | true =>
      simp only [cond_true, sdnM]
      cases sdnE k c.2.2 == 0 with
      | true => show (dnR k.1.2.2 k.1.1 k.2.1).1 = []; rw [hM]; rfl
      | false => exact hM
    | false =>
      simp only [cond_false, slvM]
      cases slvE k c.2.1 c.2.2 == 0 with
      | true => show k.2.1.eraseIdx 0 = []; rw [hM]; rfl
      | false => exact hM
theorem lis_eq : ∀ (L : List T3) (o : List T3 × Bool), (lisR o L).1 = o.1 ++ L.filter occT
  | [], o => by simp [lisR]
  | x :: r, o => by
    unfold lisR
    cases h : occT x with
    | true => rw [cond_true, lis_eq r, List.filter_cons_of_pos h]; simp
    | false => rw [cond_false, lis_eq r, List.filter_cons_of_neg (by rw [h]; simp)]
theorem eqTs_self : ∀ l : List T3, eqTs l l = true
  | [] => rfl
  | x :: r => by
    unfold eqTs eqT
    rw [eqTs_self r]; simp
theorem lis_eqs {k : SK} {m : MD} (h : relH k m) : eqTs k.2.1 (lisR ([], true) m.2.1).1 = true := by
  obtain ⟨h1, h2, h3, h4, h5⟩ := h
  rw [lis_eq, h4]
  exact eqTs_self _
/-! ### The loop over the calls -/
abbrev SH := (SK × Bool) × MD
def stepH (s : SH) (c : C3) : SH := ((stkM (cutS c.1 2) s.1.1 c, stkN (cutS c.1 2) s.1.1 s.1.2 c), modM (cutS c.1 2) s.2 c)
def runH (s : SH) (C : List C3) : SH := C.foldl stepH s
def okKc (C : List C3) (m k : Int) : Prop := m ≤ (C.length : Int) ∧ 0 ≤ k ∧ k ≤ m ∧ m ≤ 20 ∧ ∀ c ∈ C, c.2.1.size ≤ 1000000000000000000
def restL (C : List C3) (m k : Int) : List C3 := (C.take m.toNat).drop k.toNat
abbrev kLw : List Shp := [bO, mO, rC, sI, sI]
noncomputable def cLw : SpecC kLw := cut1 kLw [.un] (fun v => bp (relH (skV v.1) v.2.1 ∧ (v.1.2.1.2 = true → v.1.2.1.1 = []) ∧ v.2.2.2.1 = (v.2.2.1.1.length : Int) ∧ okKc v.2.2.1.1 v.2.2.2.1 v.2.2.2.2.1)) (.exit 1)
  (fun _ => ((), ()))
  (fun v => (skP (runH ((skV v.1, v.1.2.1.2), v.2.1) (restL v.2.2.1.1 v.2.2.2.1 v.2.2.2.2.1)).1.1 (runH ((skV v.1, v.1.2.1.2), v.2.1) (restL v.2.2.1.1 v.2.2.2.1 v.2.2.2.2.1)).1.2, (runH ((skV v.1, v.1.2.1.2), v.2.1) (restL v.2.2.1.1 v.2.2.2.1 v.2.2.2.2.1)).2, (), (), (), ()))
def muLw : denA kLw → Nat := fun v => (v.2.2.2.1 - v.2.2.2.2.1).toNat
/-- The same loop, its end given. -/
noncomputable def cLwK (s : SH) : SpecC kLw := cut1 kLw [.un] (fun v => bp ((cLw v).1 = true ∧ runH ((skV v.1, v.1.2.1.2), v.2.1) (restL v.2.2.1.1 v.2.2.2.1 v.2.2.2.2.1) = s)) (.exit 1) (fun _ => ((), ())) (fun _ => (skP s.1.1 s.1.2, s.2, (), (), (), ()))
end Go.Proofs.YtacdahpjmeianaaHo
