/- What is proved: what the checks of records answer, and that the two checksums are one. No condition. -/
import Derived.Test.YtokephobkllfgaaDoorTrb4
namespace Go.Proofs.YtokephobkllfgaaDoorRb
open Go Go.Proofs Go.Proofs.YtokephobkllfgaaDoorEv
set_option maxRecDepth 100000
set_option maxHeartbeats 4000000
set_option linter.unusedVariables false
set_option linter.unusedSimpArgs false
theorem ltr_nil : ∀ l : List Int, ltrL l = [] ↔ l.all lowC = true
  | [] => by simp [ltrL]
  | x :: r => by
    rw [ltrL, List.all_cons]
    cases hb : lowC x with
    | true => rw [cond_true, Bool.true_and]; exact ltr_nil r
    | false => simp
theorem ltr_head : ∀ (l : List Int) (x : Int) (r : List Int), ltrL l = x :: r → lowC x = false
  | [], x, r, h => by simp [ltrL] at h
  | y :: l, x, r, h => by
    rw [ltrL] at h
    cases hb : lowC y with
    | true => rw [hb] at h; exact ltr_head l x r h
    | false => rw [hb] at h; cases h; exact hb
theorem trim_nil (l : List Int) : ltrL (rtrL l) = [] ↔ l.all lowC = true := by
  unfold rtrL
  rw [ltr_nil, List.all_reverse]
  match hb : ltrL l.reverse with
  | [] =>
    have := (ltr_nil l.reverse).1 hb
    rw [List.all_reverse] at this
    rw [this]; simp
  | x :: r =>
    have h1 := ltr_head _ x r hb
    rw [List.all_cons, h1]
    constructor
    · intro h; cases h
    · intro h
      have := (ltr_nil l.reverse).2 (by rw [List.all_reverse]; exact h)
      rw [hb] at this; cases this
theorem str_nil (l : List Int) : strOfNums l = ByteArray.mk #[] ↔ l = [] := by
  constructor
  · intro h
    have : (strOfNums l).size = 0 := by rw [h]; rfl
    rw [show (strOfNums l).size = l.length by simp [strOfNums, ByteArray.size]] at this
    exact List.length_eq_zero_iff.1 this
  · rintro rfl; rfl
theorem rtr_in (s : ByteArray) : ∀ x ∈ rtrL (bytesI s), 0 ≤ x ∧ x ≤ 255 := by
  intro x hx
  unfold rtrL at hx
  exact bytes_in s x (List.mem_reverse.1 (ltrL_sub _ x (List.mem_reverse.1 hx)))
theorem trm_low (k : ByteArray) (h : decide (k = ByteArray.mk #[]) = false) : decide (trmS k = ByteArray.mk #[]) = lowsS k := by
  unfold trmS lowsS
  rw [h, cond_false, ltrS_eq, rtrS_eq, bytes_str (rtr_in k), Bool.eq_iff_iff, decide_eq_true_eq, str_nil]
  exact trim_nil _
theorem not_in {n a b : Int} : (!inS n a b) = (decide (n < a) || decide (n > b)) := by
  unfold inS
  rw [Bool.eq_iff_iff]; simp
theorem c22 (n t : Int) (k x : ByteArray) : b22L n t k x = some (PV.sc (.int .i64 (entE n t k x)), []) := by
  rw [b22]
  unfold entE
  simp only [not_in]
  cases decide (n < 1) with
  | true => rfl
  | false => cases decide (n > 500) with
    | true => rfl
    | false => cases decide (t < 0) with
      | true => rfl
      | false => cases decide (t > 200000) with
        | true => rfl
        | false => cases decide ((x.size : Int) > 120) with
          | true => rfl
          | false => cases h2 : decide ((k.size : Int) > 8) with
            | true => rfl
            | false => cases h3 : decide (k = ByteArray.mk #[]) with
              | true => rfl
              | false =>
                have h2 := of_decide_eq_false h2
                rw [trm_low k h3]
                simp only [cond_false, Bool.or_false, Bool.false_or]
                refine guard_split (bp_mk ⟨by omega, by trivial⟩) ?_
                cases lowsS k <;> rfl
theorem c21a (n t : Int) (k x : ByteArray) (m i e : Int) (h : okLo k m i) : b21aL n t k x m i e = pickA (cLo ((n, t, k, x), m, i, e, ())).2 := by
  obtain ⟨h1, h2, h3, h4⟩ := h
  show _ = cond (((bytesI k).drop i.toNat).all lowC) (some (Xt.exit 0, [PV.sc (.int .i64 e)], [Blk.fix false [PV.sc (.int .i64 n), PV.sc (.int .i64 t), PV.sc (.string k), PV.sc (.string x)]])) (some (Xt.ret, [PV.sc (.int .i64 6)], [Blk.fix false [PV.sc (.int .i64 n), PV.sc (.int .i64 t), PV.sc (.string k), PV.sc (.string x)]]))
  rw [b21a]
  refine cond_split (fun h => ?_) (fun h => ?_)
  · have h := of_decide_eq_true h
    obtain ⟨c, hc, hb⟩ := bytes_get k i.toNat (by omega)
    rw [hc, drop_cons hb, List.all_cons]
    simp only [bindO]
    rw [IntWalk.i64_in (i + 1) (by omega), show (i + 1).toNat = i.toNat + 1 by omega]
    have el : lowC (c.toNat : Int) = (decide ((c.toNat : Int) ≥ 97) && decide ((c.toNat : Int) ≤ 122)) := rfl
    rw [el]
    refine guard_split (decide_eq_true h2) ?_
    cases decide ((c.toNat : Int) ≥ 97) with
    | false => rfl
    | true =>
      simp only [cond_true]
      refine guard_split (decide_eq_true h2) ?_
      cases decide ((c.toNat : Int) ≤ 122) with
      | false => rfl
      | true =>
        simp only [Bool.not_true, cond_false, Bool.true_and]
        exact guard_split (decide_eq_true (show (m - (i + 1)).toNat < (m - i).toNat by omega)) (guard_split (bp_mk ⟨h1, by omega, by omega, h4⟩) rfl)
  · have h := of_decide_eq_false h
    rw [List.drop_eq_nil_of_le (by rw [bytes_len]; omega)]; rfl
theorem in21 : CutOK Tryd.prog Tryd.f21.ntmps (codeAt 0 (bodyF Tryd.f21)) [1, 29, 30, 2] [2] (entC kLo cLo) :=
  loop_cutW (kill := killA 0 kLo) R2_ok mixed muLo (by kernel_rfl) (noCuts_ok _) fun v h => c21a v.1.1 v.1.2.1 v.1.2.2.1 v.1.2.2.2 v.2.1 v.2.2.1 v.2.2.2.1 (bp_true.1 h)
theorem c21 (n t : Int) (k x : ByteArray) : b21L n t k x = some (PV.sc (.int .i64 (entE n t k x)), []) := by
  rw [b21]
  unfold entE
  cases inS n 1 500 with
  | false => rfl
  | true => cases inS t 0 200000 with
    | false => rfl
    | true => cases decide ((x.size : Int) > 120) with
      | true => rfl
      | false => cases h2 : decide ((k.size : Int) > 8) with
        | true => rfl
        | false => cases h3 : decide (k = ByteArray.mk #[]) with
          | true => rfl
          | false =>
            have h2 := of_decide_eq_false h2
            rw [show Int.toNat 0 = 0 from rfl, List.drop_zero]
            simp only [Bool.not_true, cond_false, Bool.or_false, Bool.false_or]
            refine guard_split (bp_mk ⟨rfl, by omega, by omega, by omega⟩) ?_
            show cond (lowsS k) _ _ = _
            cases lowsS k <;> rfl
theorem R3_ok : TableOK Tryd.prog R3 :=
  ext_ok (entV_ok Tryd.call22 (liftV R2_ok mixed Tryd.func22 (show Tryd.f22.body = some (bodyF Tryd.f22) from rfl) (noCuts_ok _) (by decide) fun v _ => c22 v.1.1 v.1.2.1 v.1.2.2.1 v.1.2.2.2)) <|
  ext_ok (entV_ok Tryd.call21 (liftV R2_ok mixed Tryd.func21 (show Tryd.f21.body = some (bodyF Tryd.f21) from rfl) (cut_cons (by kernel_rfl) in21 (noCuts_ok _)) (by decide) fun v _ => c21 v.1.1 v.1.2.1 v.1.2.2.1 v.1.2.2.2)) R2_ok
/-! ### The two sums -/
theorem sumI_app : ∀ (l m : List Int), sumI (l ++ m) = sumI l + sumI m
  | [], m => by rw [List.nil_append, sumI, Int.zero_add]
  | x :: r, m => by rw [List.cons_append, sumI, sumI, sumI_app r m]; omega
theorem sum_beg : ∀ (l p : List Int) (a b B : Int), (∀ x ∈ p ++ l, 0 ≤ x) → 0 ≤ B → a = (1 + sumI p) % 251 → b = B % 241 → 0 ≤ sumI p →
    (sumQ a b l).1 = (1 + sumI (p ++ l)) % 251 ∧ (sumQ a b l).2 = (B + begS (p ++ l) (p.length + 1) l.length) % 241
  | [], p, a, b, B, h, hB, ha, hb, hp => by
    rw [List.append_nil]
    exact ⟨ha, by rw [List.length_nil, begS, Int.add_zero]; exact hb⟩
  | x :: r, p, a, b, B, h, hB, ha, hb, hp => by
    have hx : 0 ≤ x := h x (by simp)
    have e1 : sumI (p ++ [x]) = sumI p + x := by rw [sumI_app, sumI, sumI, Int.add_zero]
    have t1 : (a + x).tmod 251 = (1 + sumI (p ++ [x])) % 251 := by rw [tme (by omega), e1]; omega
    have t2 : (b + (a + x).tmod 251).tmod 241 = (B + (1 + sumI (p ++ [x])) % 251) % 241 := by rw [t1, tme (by omega)]; omega
    have ea : p ++ x :: r = p ++ [x] ++ r := by simp
    rw [sumQ, t2, t1, List.length_cons, begS]
    have tk : (p ++ x :: r).take (p.length + 1) = p ++ [x] := by
      rw [ea, List.take_left' (by simp)]
    have t3 : (1 + sumI (p ++ [x])).tmod 251 = (1 + sumI (p ++ [x])) % 251 := tme (by omega)
    rw [tk, t3]
    have ih := sum_beg r (p ++ [x]) ((1 + sumI (p ++ [x])) % 251) ((B + (1 + sumI (p ++ [x])) % 251) % 241) (B + (1 + sumI (p ++ [x])) % 251) (by rw [← ea]; exact h) (by omega) rfl rfl (by omega)
    rw [← ea, show (p ++ [x]).length + 1 = p.length + 1 + 1 by simp] at ih
    rw [ih.1, ih.2, Int.add_assoc]
    exact ⟨rfl, rfl⟩
theorem sum_eq (s : ByteArray) : sumA s = sumB s := by
  unfold sumA sumB
  have h := sum_beg (bytesI s) [] 1 0 0 (fun x hx => (bytes_in s x hx).1) (by omega) (by decide) (by decide) (by decide)
  rw [List.nil_append, bytes_len, List.length_nil, Int.zero_add] at h
  have h1 := begS_in s s.size 1
  have h2 := sumI_in (bytesI s) (bytes_in s)
  have e1 : (begS (bytesI s) 1 s.size).tmod 241 = begS (bytesI s) 1 s.size % 241 := tme h1.1
  have e2 : (1 + sumI (bytesI s)).tmod 251 = (1 + sumI (bytesI s)) % 251 := tme (by omega)
  rw [h.1, h.2, e1, e2, Int.mul_comm]
end Go.Proofs.YtokephobkllfgaaDoorRb
