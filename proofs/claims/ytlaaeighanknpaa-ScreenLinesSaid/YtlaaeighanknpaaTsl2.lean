/- What is proved: the law ScreenLines says true. No condition. -/
import Derived.Test.YtlaaeighanknpaaTsl1
namespace Go.Proofs.YtlaaeighanknpaaSl
open Go Go.Proofs Go.Proofs.YtlaaeighanknpaaEv
set_option maxRecDepth 100000
set_option linter.unusedSimpArgs false
set_option linter.unusedVariables false
noncomputable abbrev r7aL (a0 : Int) (a1 : Int) (a2 : Int) (a3 : Int) (a4 : List (Int × Int)) (a5 : Bool) (a6 : Int) (a7 : Int) := evRound Try.prog T3 noCuts 130 (loopOf (codeAt 2 (bodyF Try.f7))) kLw muLw (killA 0 kLw) [2, 3, 100, 101, 102] [4] cLw (((a0, a1), ()), (((a2, a3), ()), ((a4, a5), (a6, (a7, ())))))
theorem r7a (a0 : Int) (a1 : Int) (a2 : Int) (a3 : Int) (a4 : List (Int × Int)) (a5 : Bool) (a6 : Int) (a7 : Int) : r7aL a0 a1 a2 a3 a4 a5 a6 a7 = (bif decide (a7 < a6) then
  guardB (decide (0 ≤ a7) && decide (a7 < ↑a4.length))
    (bindO a4[0 + a7.toNat]? fun x =>
      guardB
        (fineS a0 a1 a2 a3 &&
          decide (-900000000000 ≤ x.fst ∧ x.fst ≤ 900000000000 ∧ -900000000000 ≤ x.snd ∧ x.snd ≤ 900000000000))
        (bif !onS a0 a1 a2 a3 x.fst x.snd then
          some
            (Xt.ret, [PV.sc (Value.bool false)],
              [Blk.fix true [PV.sc (Value.int IntKind.i64 a0), PV.sc (Value.int IntKind.i64 a1)],
                Blk.fix true [PV.sc (Value.int IntKind.i64 a2), PV.sc (Value.int IntKind.i64 a3)],
                Blk.row false ((Kd.int IntKind.i64).pair (Kd.int IntKind.i64)) a4])
        else
          guardB (decide (half (IntKind.i64.wrap (x.fst - a0))))
            (guardB (decide (half (IntKind.i64.wrap (x.snd - a1))))
              (bif max (absS (IntKind.i64.wrap (x.fst - a0))) (absS (IntKind.i64.wrap (x.snd - a1))) != a7 then
                some
                  (Xt.ret, [PV.sc (Value.bool false)],
                    [Blk.fix true [PV.sc (Value.int IntKind.i64 a0), PV.sc (Value.int IntKind.i64 a1)],
                      Blk.fix true [PV.sc (Value.int IntKind.i64 a2), PV.sc (Value.int IntKind.i64 a3)],
                      Blk.row false ((Kd.int IntKind.i64).pair (Kd.int IntKind.i64)) a4])
              else
                guardB
                  (decide
                    (muLw
                        (((a0, a1), PUnit.unit), ((a2, a3), PUnit.unit), (List.take a4.length a4, a5), a6,
                          IntKind.i64.wrap (a7 + 1), PUnit.unit) <
                      muLw (((a0, a1), ()), ((a2, a3), ()), (a4, a5), a6, a7, ())))
                  (guardB
                    (bif decide (0 + a4.length ≤ a4.length) then
                      preLw a0 a1 a2 a3 a6 (IntKind.i64.wrap (a7 + 1)) (List.take a4.length a4)
                    else false)
                    (bif isLw a0 a1 a2 a3 (IntKind.i64.wrap (a7 + 1)) (List.take a4.length a4) then
                      some
                        (Xt.exit 2, [PV.undef],
                          [Blk.fix true [PV.sc (Value.int IntKind.i64 a0), PV.sc (Value.int IntKind.i64 a1)],
                            Blk.fix true [PV.sc (Value.int IntKind.i64 a2), PV.sc (Value.int IntKind.i64 a3)],
                            Blk.row false ((Kd.int IntKind.i64).pair (Kd.int IntKind.i64)) a4])
                    else
                      some
                        (Xt.ret, [PV.sc (Value.bool false)],
                          [Blk.fix true [PV.sc (Value.int IntKind.i64 a0), PV.sc (Value.int IntKind.i64 a1)],
                            Blk.fix true [PV.sc (Value.int IntKind.i64 a2), PV.sc (Value.int IntKind.i64 a3)],
                            Blk.row false ((Kd.int IntKind.i64).pair (Kd.int IntKind.i64)) a4])))))))
else
  some
    (Xt.exit 2, [PV.undef],
      [Blk.fix true [PV.sc (Value.int IntKind.i64 a0), PV.sc (Value.int IntKind.i64 a1)],
        Blk.fix true [PV.sc (Value.int IntKind.i64 a2), PV.sc (Value.int IntKind.i64 a3)],
        Blk.row false ((Kd.int IntKind.i64).pair (Kd.int IntKind.i64)) a4])) := by kernel_rfl
noncomputable abbrev r7L (a0 : Int) (a1 : Int) (a2 : Int) (a3 : Int) := evFuncV Try.prog T3 (addCut 2 [2, 3, 100, 101, 102] [4] (entC kLw cLw) noCuts) Try.f7 (killA 0 [sC, sC]) (showA 0 [sC, sC] ((a0, a1), ((a2, a3), ()))).1 (showA 0 [sC, sC] ((a0, a1), ((a2, a3), ()))).2
theorem r7 (a0 : Int) (a1 : Int) (a2 : Int) (a3 : Int) : r7L a0 a1 a2 a3 = (bif fineS a0 a1 a2 a3 then
  bif !inS a0 (-2000) 2000 then some (PV.sc (Value.bool false), [])
  else
    bif !inS a1 (-2000) 2000 then some (PV.sc (Value.bool false), [])
    else
      bif !inS a2 (-2000) 2000 then some (PV.sc (Value.bool false), [])
      else
        bif !inS a3 (-2000) 2000 then some (PV.sc (Value.bool false), [])
        else
          guardB (decide (half (IntKind.i64.wrap (a2 - a0))))
            (guardB (decide (half (IntKind.i64.wrap (a3 - a1))))
              (bif
                  (↑(lineS a0 a1 a2 a3).length : Int) !=
                    IntKind.i64.wrap
                      (max (absS (IntKind.i64.wrap (a2 - a0))) (absS (IntKind.i64.wrap (a3 - a1))) + 1) then
                some (PV.sc (Value.bool false), [])
              else
                guardB (decide (0 < (↑(lineS a0 a1 a2 a3).length : Int)))
                  (bif !(a0 == a0 && (a1 == a1 && true)) then some (PV.sc (Value.bool false), [])
                  else
                    guardB
                      (decide (0 ≤ max (absS (IntKind.i64.wrap (a2 - a0))) (absS (IntKind.i64.wrap (a3 - a1)))) &&
                        decide
                          (max (absS (IntKind.i64.wrap (a2 - a0))) (absS (IntKind.i64.wrap (a3 - a1))) <
                            (↑(lineS a0 a1 a2 a3).length : Int)))
                      (bindO
                        (lineS a0 a1 a2
                            a3)[0 +
                            (max (absS (IntKind.i64.wrap (a2 - a0))) (absS (IntKind.i64.wrap (a3 - a1)))).toNat]?
                        fun x =>
                        bif !(x.fst == a2 && (x.snd == a3 && true)) then some (PV.sc (Value.bool false), [])
                        else
                          guardB
                            (bif decide (0 + (lineS a0 a1 a2 a3).length ≤ (lineS a0 a1 a2 a3).length) then
                              preLw a0 a1 a2 a3 (↑(lineS a0 a1 a2 a3).length : Int) 0
                                (List.take (lineS a0 a1 a2 a3).length (lineS a0 a1 a2 a3))
                            else false)
                            (bif isLw a0 a1 a2 a3 0 (List.take (lineS a0 a1 a2 a3).length (lineS a0 a1 a2 a3)) then
                              some (PV.sc (Value.bool true), [])
                            else some (PV.sc (Value.bool false), []))))))
else
  bif !inS a0 (-2000) 2000 then some (PV.sc (Value.bool true), [])
  else
    bif !inS a1 (-2000) 2000 then some (PV.sc (Value.bool true), [])
    else
      bif !inS a2 (-2000) 2000 then some (PV.sc (Value.bool true), [])
      else
        bif !inS a3 (-2000) 2000 then some (PV.sc (Value.bool true), [])
        else
          guardB (decide (half (IntKind.i64.wrap (a2 - a0))))
            (guardB (decide (half (IntKind.i64.wrap (a3 - a1)))) (some (PV.sc (Value.bool false), [])))) := by kernel_rfl
theorem drop_cons {α : Type} {l : List α} {k : Nat} {x : α} (h : l[k]? = some x) : l.drop k = x :: l.drop (k + 1) := by
  obtain ⟨hk, rfl⟩ := List.getElem?_eq_some_iff.1 h
  exact List.drop_eq_getElem_cons hk
theorem q7a (ax ay bx b_y : Int) (l : List (Int × Int)) (nl : Bool) (n k : Int) (h : preLw ax ay bx b_y n k l = true) : r7aL ax ay bx b_y l nl n k = pickA (cLw (((ax, ay), ()), ((bx, b_y), ()), (l, nl), n, k, ())).2 := by
  have h0 := h
  unfold preLw at h
  simp only [Bool.and_eq_true, decide_eq_true_eq] at h
  obtain ⟨⟨hf, h1, h2, h3, h3b⟩, h4⟩ := h
  obtain ⟨g1, g2, g3, g4⟩ := fine_iff hf
  show _ = cond (isLw ax ay bx b_y k l) (some (Xt.exit 2, [PV.undef], [Blk.fix true [.sc (.int .i64 ax), .sc (.int .i64 ay)], Blk.fix true [.sc (.int .i64 bx), .sc (.int .i64 b_y)], Blk.row false kC l])) (some (Xt.ret, [PV.sc (.bool false)], [Blk.fix true [.sc (.int .i64 ax), .sc (.int .i64 ay)], Blk.fix true [.sc (.int .i64 bx), .sc (.int .i64 b_y)], Blk.row false kC l]))
  rw [r7a]
  refine cond_split (fun h => ?_) (fun h => ?_)
  · have h := of_decide_eq_true h
    have hlt : k.toNat < l.length := by omega
    obtain ⟨c, hc⟩ : ∃ c, l[k.toNat]? = some c := ⟨l[k.toNat], List.getElem?_eq_getElem hlt⟩
    have hcb := List.all_eq_true.1 h4 c (List.mem_of_getElem? hc)
    have hcb' := of_decide_eq_true hcb
    have hd : isLw ax ay bx b_y k l = (onS ax ay bx b_y c.1 c.2 && (max (absS (c.1 - ax)) (absS (c.2 - ay)) == k) && isLw ax ay bx b_y (k + 1) l) := by
      unfold isLw
      rw [drop_cons hc, show (k + 1).toNat = k.toNat + 1 by omega]; rfl
    rw [hd]
    refine guard_split (by simp; omega) ?_
    rw [Nat.zero_add, hc]
    simp only [bindO, List.take_length]
    rw [IntWalk.i64_in (c.1 - ax) (by omega), IntWalk.i64_in (c.2 - ay) (by omega), IntWalk.i64_in (k + 1) (by omega)]
    refine guard_split (by rw [hf]; exact hcb) (cond_split (fun h5 => ?_) (fun h5 => ?_))
    · have h5 : onS ax ay bx b_y c.1 c.2 = false := by simpa using h5
      rw [h5]; rfl
    · have h5 : onS ax ay bx b_y c.1 c.2 = true := by simpa using h5
      rw [h5]
      refine guard_split (decide_eq_true (by unfold half; omega)) (guard_split (decide_eq_true (by unfold half; omega)) (cond_split (fun h6 => ?_) (fun h6 => ?_)))
      · have h6 : (max (absS (c.1 - ax)) (absS (c.2 - ay)) == k) = false := by simpa using h6
        rw [h6]; rfl
      · have h6 : (max (absS (c.1 - ax)) (absS (c.2 - ay)) == k) = true := by simpa using h6
        rw [h6]
        refine guard_split ?_ (guard_split ?_ ?_)
        · refine decide_eq_true ?_
          show (n - (k + 1)).toNat < (n - k).toNat
          omega
        · rw [show decide (0 + l.length ≤ l.length) = true by simp]
          show preLw ax ay bx b_y n (k + 1) l = true
          unfold preLw
          simp only [Bool.and_eq_true, decide_eq_true_eq]
          exact ⟨⟨hf, by omega⟩, h4⟩
        · rfl
  · have h := of_decide_eq_false h
    have : isLw ax ay bx b_y k l = true := by
      unfold isLw
      rw [List.drop_eq_nil_of_le (by omega)]; rfl
    rw [this]; rfl

/-! ### The cells of a line -/
theorem side (k x n : Int) (h1 : 1 ≤ n) (h2 : -n ≤ x) (h3 : x ≤ n) (h4 : 0 ≤ k) : -k ≤ (2 * k * x + n) / (2 * n) ∧ (2 * k * x + n) / (2 * n) ≤ k ∧ (x = n → (2 * k * x + n) / (2 * n) = k) ∧ (x = -n → (2 * k * x + n) / (2 * n) = -k) := by
  have m1 : k * x ≤ k * n := Int.mul_le_mul_of_nonneg_left h3 h4
  have m2 : k * (-n) ≤ k * x := Int.mul_le_mul_of_nonneg_left h2 h4
  have e1 : 2 * k * x = 2 * (k * x) := by rw [Int.mul_assoc]
  have e2 : k * (-n) = -(k * n) := Int.mul_neg k n
  rw [e1]
  refine ⟨?_, ?_, fun h => ?_, fun h => ?_⟩
  · refine (Int.le_ediv_iff_mul_le (by omega)).2 ?_
    have : -k * (2 * n) = -(2 * (k * n)) := by rw [Int.neg_mul, Int.mul_left_comm]
    omega
  · have : (2 * (k * x) + n) / (2 * n) < k + 1 := by
      refine Int.ediv_lt_of_lt_mul (by omega) ?_
      have : (k + 1) * (2 * n) = 2 * (k * n) + 2 * n := by rw [Int.add_mul, Int.mul_left_comm]; omega
      omega
    omega
  · subst h
    rw [show 2 * (k * x) + x = x + k * (2 * x) by rw [Int.mul_left_comm]; omega, Int.add_mul_ediv_right _ _ (by omega), Int.ediv_eq_zero_of_lt (by omega) (by omega)]; omega
  · subst h
    rw [show 2 * (k * -n) + n = n + (-k) * (2 * n) by rw [Int.mul_neg, Int.neg_mul, Int.mul_left_comm]; omega, Int.add_mul_ediv_right _ _ (by omega), Int.ediv_eq_zero_of_lt (by omega) (by omega)]; omega
theorem abs_le {x k : Int} (h1 : -k ≤ x) (h2 : x ≤ k) : absS x ≤ k := by unfold absS; split <;> omega
theorem abs_eq {x k : Int} (h : 0 ≤ k) (h1 : x = k ∨ x = -k) : absS x = k := by unfold absS; split <;> omega
theorem pt_ok (ax ay bx b_y k : Int) (h1 : 1 ≤ max (absS (bx - ax)) (absS (b_y - ay))) (hk : 0 ≤ k) (hk2 : k ≤ max (absS (bx - ax)) (absS (b_y - ay))) :
    onS ax ay bx b_y (ptS ax ay (bx - ax) (b_y - ay) (max (absS (bx - ax)) (absS (b_y - ay))) k).1 (ptS ax ay (bx - ax) (b_y - ay) (max (absS (bx - ax)) (absS (b_y - ay))) k).2 = true ∧
    max (absS ((ptS ax ay (bx - ax) (b_y - ay) (max (absS (bx - ax)) (absS (b_y - ay))) k).1 - ax)) (absS ((ptS ax ay (bx - ax) (b_y - ay) (max (absS (bx - ax)) (absS (b_y - ay))) k).2 - ay)) = k := by
  unfold onS
  generalize bx - ax = x at *
  generalize b_y - ay = y at *
  have hx : absS x ≤ max (absS x) (absS y) := by omega
  have hy : absS y ≤ max (absS x) (absS y) := by omega
  have hm : (absS x = max (absS x) (absS y) ∧ absS y ≤ absS x) ∨ (absS y = max (absS x) (absS y) ∧ absS x < absS y) := by omega
  generalize max (absS x) (absS y) = n at *
  have bx' : -n ≤ x ∧ x ≤ n := by unfold absS at hx; split at hx <;> omega
  have by' : -n ≤ y ∧ y ≤ n := by unfold absS at hy; split at hy <;> omega
  have sx := side k x n h1 bx'.1 bx'.2 hk
  have sy := side k y n h1 by'.1 by'.2 hk
  have ex : (ptS ax ay x y n k).1 - ax = (2 * k * x + n) / (2 * n) := by unfold ptS; simp only []; omega
  have ey : (ptS ax ay x y n k).2 - ay = (2 * k * y + n) / (2 * n) := by unfold ptS; simp only []; omega
  rw [ex, ey, if_neg (by omega)]
  have lx := abs_le sx.1 sx.2.1
  have ly := abs_le sy.1 sy.2.1
  rcases hm with ⟨e, hle⟩ | ⟨e, hlt⟩
  · have hxn : x = n ∨ x = -n := by unfold absS at e; split at e <;> omega
    have e1 : absS ((2 * k * x + n) / (2 * n)) = k := abs_eq hk (hxn.imp sx.2.2.1 sx.2.2.2)
    refine ⟨?_, by omega⟩
    simp only [if_neg (show ¬ absS y > absS x by omega)]
    rw [e1]
    exact decide_eq_true ⟨hk2, rfl⟩
  · have hyn : y = n ∨ y = -n := by unfold absS at e; split at e <;> omega
    have e1 : absS ((2 * k * y + n) / (2 * n)) = k := abs_eq hk (hyn.imp sy.2.2.1 sy.2.2.2)
    refine ⟨?_, by omega⟩
    simp only [if_pos (show absS y > absS x by omega)]
    rw [e1]
    exact decide_eq_true ⟨hk2, rfl⟩
theorem chk_go (ax ay bx b_y : Int) : ∀ (m : Nat) (k : Int), 1 ≤ k → m = (max (absS (bx - ax)) (absS (b_y - ay)) + 1 - k).toNat → chk ax ay bx b_y k (goL ax ay (bx - ax) (b_y - ay) (max (absS (bx - ax)) (absS (b_y - ay))) k) = true := by
  intro m
  induction m with
  | zero => intro k h1 h2; rw [goL_end _ _ _ _ _ _ (by omega)]; rfl
  | succ m ih =>
    intro k h1 h2
    rw [goL_step _ _ _ _ _ _ (by omega)]
    obtain ⟨p1, p2⟩ := pt_ok ax ay bx b_y k (by omega) (by omega) (by omega)
    unfold chk
    rw [p1, p2, ih (k + 1) (by omega) (by omega)]
    simp
theorem chk_line (ax ay bx b_y : Int) : chk ax ay bx b_y 0 (lineS ax ay bx b_y) = true := by
  unfold lineS chk
  rw [show (0 : Int) + 1 = 1 from rfl, chk_go ax ay bx b_y _ 1 (by omega) rfl]
  have a0 : absS 0 = 0 := rfl
  have e0 : max (absS (ax - ax)) (absS (ay - ay)) = 0 := by rw [Int.sub_self, Int.sub_self, a0]; rfl
  simp only []
  rw [e0]
  have : onS ax ay bx b_y ax ay = true := by
    unfold onS
    by_cases h : max (absS (bx - ax)) (absS (b_y - ay)) = 0
    · rw [if_pos h]; simp
    · rw [if_neg h]
      simp only [Int.sub_self, a0, ite_self]
      refine decide_eq_true ⟨?_, ?_⟩
      · unfold absS at *; split at * <;> omega
      · have hp : 1 ≤ max (absS (bx - ax)) (absS (b_y - ay)) := by unfold absS at *; split at * <;> omega
        unfold ptS
        simp only [Int.mul_zero, Int.zero_mul, Int.zero_add]
        rw [Int.ediv_eq_zero_of_lt (by omega) (by omega)]
        simp
  rw [this]; rfl
theorem pt_in (ax ay bx b_y k : Int) (hf : fineS ax ay bx b_y = true) (h1 : 1 ≤ k) (hk2 : k ≤ max (absS (bx - ax)) (absS (b_y - ay))) : -900000000000 ≤ (ptS ax ay (bx - ax) (b_y - ay) (max (absS (bx - ax)) (absS (b_y - ay))) k).1 ∧ (ptS ax ay (bx - ax) (b_y - ay) (max (absS (bx - ax)) (absS (b_y - ay))) k).1 ≤ 900000000000 ∧ -900000000000 ≤ (ptS ax ay (bx - ax) (b_y - ay) (max (absS (bx - ax)) (absS (b_y - ay))) k).2 ∧ (ptS ax ay (bx - ax) (b_y - ay) (max (absS (bx - ax)) (absS (b_y - ay))) k).2 ≤ 900000000000 := by
  obtain ⟨h1, h2, h3, h4⟩ := fine_iff hf
  have a1 := abs_bd (bx - ax) (by omega)
  have a2 := abs_bd (b_y - ay) (by omega)
  have p2 := (pt_ok ax ay bx b_y k (by omega) (by omega) hk2).2
  generalize ptS ax ay (bx - ax) (b_y - ay) (max (absS (bx - ax)) (absS (b_y - ay))) k = p at *
  have q1 : absS (p.1 - ax) ≤ k := by omega
  have q2 : absS (p.2 - ay) ≤ k := by omega
  unfold absS at q1 q2
  split at q1 <;> split at q2 <;> omega
theorem line_in (ax ay bx b_y : Int) (hf : fineS ax ay bx b_y = true) : inAll (lineS ax ay bx b_y) = true := by
  obtain ⟨h1, h2, h3, h4⟩ := fine_iff hf
  unfold inAll
  rw [List.all_eq_true]
  intro c hc
  unfold lineS at hc
  rcases List.mem_cons.1 hc with rfl | hc
  · exact decide_eq_true (by simp only []; omega)
  · unfold goL at hc
    obtain ⟨i, hi, rfl⟩ := List.mem_map.1 hc
    have := List.mem_range.1 hi
    exact decide_eq_true (pt_in ax ay bx b_y (1 + i) hf (by omega) (by omega))
theorem line_len (ax ay bx b_y : Int) (h : 0 ≤ max (absS (bx - ax)) (absS (b_y - ay))) : ((lineS ax ay bx b_y).length : Int) = max (absS (bx - ax)) (absS (b_y - ay)) + 1 := by
  unfold lineS goL
  simp only [List.length_cons, List.length_map, List.length_range]
  omega
theorem line_last (ax ay bx b_y : Int) (h : 0 ≤ max (absS (bx - ax)) (absS (b_y - ay))) : (lineS ax ay bx b_y)[(max (absS (bx - ax)) (absS (b_y - ay))).toNat]? = some (bx, b_y) := by
  unfold lineS goL
  by_cases h0 : max (absS (bx - ax)) (absS (b_y - ay)) = 0
  · rw [h0]
    have : bx = ax ∧ b_y = ay := by unfold absS at h0; split at h0 <;> split at h0 <;> omega
    obtain ⟨rfl, rfl⟩ := this
    rfl
  · obtain ⟨m, hm⟩ : ∃ m : Nat, (max (absS (bx - ax)) (absS (b_y - ay))) = (m : Int) + 1 := ⟨(max (absS (bx - ax)) (absS (b_y - ay))).toNat - 1, by omega⟩
    rw [hm, show ((m : Int) + 1).toNat = m + 1 by omega, List.getElem?_cons_succ, List.getElem?_map, List.getElem?_range (by omega)]
    simp only [Option.map_some, Option.some.injEq]
    unfold ptS
    have e : ∀ x : Int, (2 * (1 + (m : Int)) * x + (m + 1)) / (2 * (m + 1)) = x := by
      intro x
      rw [show 2 * (1 + (m : Int)) * x + (m + 1) = (m + 1) + x * (2 * (m + 1)) by rw [Int.add_comm 1 (m : Int), Int.mul_comm x]; omega, Int.add_mul_ediv_right _ _ (by omega), Int.ediv_eq_zero_of_lt (by omega) (by omega)]; omega
    rw [e, e]
    simp only [Prod.mk.injEq]; omega
theorem lawOK' (ax ay bx b_y : Int) : r7L ax ay bx b_y = some (PV.sc (.bool true), []) := by
  rw [r7]
  cases hf : fineS ax ay bx b_y with
  | true =>
    obtain ⟨h1, h2, h3, h4⟩ := fine_iff hf
    have a1 := abs_bd (bx - ax) (by omega)
    have a2 := abs_bd (b_y - ay) (by omega)
    have hl := line_len ax ay bx b_y (by omega)
    have i1 : ∀ a, small a → inS a (-2000) 2000 = true := fun a h => decide_eq_true h
    rw [i1 ax h1, i1 ay h2, i1 bx h3, i1 b_y h4]
    rw [IntWalk.i64_in (bx - ax) (by omega), IntWalk.i64_in (b_y - ay) (by omega), IntWalk.i64_in (max (absS (bx - ax)) (absS (b_y - ay)) + 1) (by omega), hl]
    simp only [cond_true, Bool.not_true, cond_false, bne_self_eq_false, beq_self_eq_true, Bool.and_true, List.take_length, Nat.zero_add, line_last ax ay bx b_y (by omega), bindO]
    refine guard_split (decide_eq_true (by unfold half; omega)) (guard_split (decide_eq_true (by unfold half; omega)) (guard_split (decide_eq_true (by omega)) (guard_split (by simp; omega) (guard_split ?_ ?_))))
    · rw [show decide ((lineS ax ay bx b_y).length ≤ (lineS ax ay bx b_y).length) = true by simp]
      show preLw _ _ _ _ _ _ _ = true
      unfold preLw
      rw [hf, line_in ax ay bx b_y hf]
      simp only [Bool.true_and, Bool.and_true, decide_eq_true_eq]
      omega
    · rw [show isLw ax ay bx b_y 0 (lineS ax ay bx b_y) = true from chk_line ax ay bx b_y]; rfl
  | false =>
    have hn := of_decide_eq_false hf
    simp only [cond_false]
    iterate 4 (refine cond_split (fun h => rfl) (fun h => ?_))
    exfalso
    unfold inS at *
    simp only [Bool.not_eq_false', decide_eq_true_eq] at *
    exact hn ⟨by assumption, by assumption, by assumption, by assumption⟩
theorem lawAt (v : denA [sC, sC]) : CallOK Try.prog 7 (showA 0 [sC, sC] v).1 (showA 0 [sC, sC] v).2 (.sc (.bool true)) [] :=
  evFuncV_sound T3_ok mixed Try.func7 (show Try.f7.body = some (bodyF Try.f7) from rfl) (cut_cons (by kernel_rfl) (loop_cutW T3_ok mixed muLw (by kernel_rfl) (noCuts_ok _) fun v h => q7a v.1.1.1 v.1.1.2 v.2.1.1.1 v.2.1.1.2 v.2.2.1.1 v.2.2.1.2 v.2.2.2.1 v.2.2.2.2.1 h) (noCuts_ok _)) (lawOK' v.1.1 v.1.2 v.2.1.1 v.2.1.2) (by rw [showA_len]; decide)
theorem lawOK (v : dens [⟨true, (Kd.pair (Kd.int .i64) (Kd.int .i64))⟩, ⟨true, (Kd.pair (Kd.int .i64) (Kd.int .i64))⟩]) (_ : (both (gInt .i64) (gInt .i64)) v.1 ∧ (both (gInt .i64) (gInt .i64)) v.2.1 ∧ True) : CallOK Try.prog 7 (showL [⟨true, (Kd.pair (Kd.int .i64) (Kd.int .i64))⟩, ⟨true, (Kd.pair (Kd.int .i64) (Kd.int .i64))⟩] v) [] (.sc (.bool true)) [] := lawAt (v.1, v.2.1, ())
end Go.Proofs.YtlaaeighanknpaaSl
