/- What is proved: what Trim, the numerals and the checks of records answer. No condition. -/
import Derived.Test.YtokephobkllfgaaDoorTrb3
import Derived.Lib.ItoaLen
namespace Go.Proofs.YtokephobkllfgaaDoorRb
open Go Go.Proofs Go.Proofs.YtokephobkllfgaaDoorEv
set_option maxRecDepth 100000
set_option maxHeartbeats 4000000
set_option linter.unusedVariables false
set_option linter.unusedSimpArgs false
noncomputable abbrev b40L (s : ByteArray) := (evFuncV Tryd.prog R1 noCuts Tryd.f40 (killA 0 [sS, sS]) (showA 0 [sS, sS] (s, (azS, ()))).1
  (showA 0 [sS, sS] (s, (azS, ()))).2)
theorem b40 (s : ByteArray) : b40L s = (bif decide (s = ByteArray.mk #[]) then some (PV.sc (Value.string s), [])
else
  guardB (bp (azS = azS))
    (guardB
      (bp
        (okTr s
          (splice
            [false, false, false, false, false, false, false, false, false, false, false, false, false, false, false,
              false, false, false, false, false, false, false, false, false, false, false, false, false, false, false,
              false, false, false, false, false, false, false, false, false, false, false, false, false, false, false,
              false, false, false, false, false, false, false, false, false, false, false, false, false, false, false,
              false, false, false, false, false, false, false, false, false, false, false, false, false, false, false,
              false, false, false, false, false, false, false, false, false, false, false, false, false, false, false,
              false, false, false, false, false, false, false, false, false, false, false, false, false, false, false,
              false, false, false, false, false, false, false, false, false, false, false, false, false, false, false,
              false, false, false, false, false, false, false, false, false, false, false, false, false, false, false,
              false, false, false, false, false, false, false, false, false, false, false, false, false, false, false,
              false, false, false, false, false, false, false, false, false, false, false, false, false, false, false,
              false, false, false, false, false, false, false, false, false, false, false, false, false, false, false,
              false, false, false, false, false, false, false, false, false, false, false, false, false, false, false,
              false, false, false, false, false, false, false, false, false, false, false, false, false, false, false,
              false, false, false, false, false, false, false, false, false, false, false, false, false, false, false,
              false, false, false, false, false, false, false, false, false, false, false, false, false, false, false,
              false, false, false, false, false, false, false, false, false, false, false, false, false, false, false,
              false]
            0 azT)))
      (guardB
        (bp
          (okTr (rtrS s)
            (splice
              [false, false, false, false, false, false, false, false, false, false, false, false, false, false, false,
                false, false, false, false, false, false, false, false, false, false, false, false, false, false, false,
                false, false, false, false, false, false, false, false, false, false, false, false, false, false, false,
                false, false, false, false, false, false, false, false, false, false, false, false, false, false, false,
                false, false, false, false, false, false, false, false, false, false, false, false, false, false, false,
                false, false, false, false, false, false, false, false, false, false, false, false, false, false, false,
                false, false, false, false, false, false, false, false, false, false, false, false, false, false, false,
                false, false, false, false, false, false, false, false, false, false, false, false, false, false, false,
                false, false, false, false, false, false, false, false, false, false, false, false, false, false, false,
                false, false, false, false, false, false, false, false, false, false, false, false, false, false, false,
                false, false, false, false, false, false, false, false, false, false, false, false, false, false, false,
                false, false, false, false, false, false, false, false, false, false, false, false, false, false, false,
                false, false, false, false, false, false, false, false, false, false, false, false, false, false, false,
                false, false, false, false, false, false, false, false, false, false, false, false, false, false, false,
                false, false, false, false, false, false, false, false, false, false, false, false, false, false, false,
                false, false, false, false, false, false, false, false, false, false, false, false, false, false, false,
                false, false, false, false, false, false, false, false, false, false, false, false, false, false, false,
                false]
              0 azT)))
        (some (PV.sc (Value.string (ltrS (rtrS s))), []))))) := by kernel_rfl
noncomputable abbrev b41aL (a0 : Int) (a1 : ByteArray) := evRound Tryd.prog R1 noCuts 21 (loopOf (codeAt 0 (bodyF Tryd.f41))) kIt muIt (killA 0 kIt) [0, 3] [3] cI2 (a0, (a1, ()))
theorem b41a (a0 : Int) (a1 : ByteArray) : b41aL a0 a1 = (bif decide (a0 > 0) then
  guardB
    (decide (0 ≤ a0.tmod 10) && decide (a0.tmod 10 ≤ IntKind.i64.wrap (a0.tmod 10 + 1)) &&
      decide (IntKind.i64.wrap (a0.tmod 10 + 1) ≤ 10))
    (guardB
      ((((ByteArray.mk #[48, 49, 50, 51, 52, 53, 54, 55, 56, 57]).extract (a0.tmod 10).toNat
                (IntKind.i64.wrap (a0.tmod 10 + 1)).toNat).size +
            a1.size).ble
        9223372036854775807)
      (guardB
        (decide
          (muIt
              (IntKind.i64.wrap (a0.tdiv 10),
                (ByteArray.mk #[48, 49, 50, 51, 52, 53, 54, 55, 56, 57]).extract (a0.tmod 10).toNat
                    (IntKind.i64.wrap (a0.tmod 10 + 1)).toNat ++
                  a1,
                ()) <
            muIt (a0, a1, ())))
        (guardB
          (bp
            (okI (IntKind.i64.wrap (a0.tdiv 10))
              ((ByteArray.mk #[48, 49, 50, 51, 52, 53, 54, 55, 56, 57]).extract (a0.tmod 10).toNat
                  (IntKind.i64.wrap (a0.tmod 10 + 1)).toNat ++
                a1)))
          (some
            (Xt.exit 0,
              [PV.sc
                  (Value.string
                    (itoW (IntKind.i64.wrap (a0.tdiv 10))
                      ((ByteArray.mk #[48, 49, 50, 51, 52, 53, 54, 55, 56, 57]).extract (a0.tmod 10).toNat
                          (IntKind.i64.wrap (a0.tmod 10 + 1)).toNat ++
                        a1)))],
              [])))))
else
  bif decide (a1 = ByteArray.mk #[]) then
    guardB
      (decide (0 ≤ a0.tmod 10) && decide (a0.tmod 10 ≤ IntKind.i64.wrap (a0.tmod 10 + 1)) &&
        decide (IntKind.i64.wrap (a0.tmod 10 + 1) ≤ 10))
      (guardB
        ((((ByteArray.mk #[48, 49, 50, 51, 52, 53, 54, 55, 56, 57]).extract (a0.tmod 10).toNat
                  (IntKind.i64.wrap (a0.tmod 10 + 1)).toNat).size +
              a1.size).ble
          9223372036854775807)
        (guardB
          (decide
            (muIt
                (IntKind.i64.wrap (a0.tdiv 10),
                  (ByteArray.mk #[48, 49, 50, 51, 52, 53, 54, 55, 56, 57]).extract (a0.tmod 10).toNat
                      (IntKind.i64.wrap (a0.tmod 10 + 1)).toNat ++
                    a1,
                  ()) <
              muIt (a0, a1, ())))
          (guardB
            (bp
              (okI (IntKind.i64.wrap (a0.tdiv 10))
                ((ByteArray.mk #[48, 49, 50, 51, 52, 53, 54, 55, 56, 57]).extract (a0.tmod 10).toNat
                    (IntKind.i64.wrap (a0.tmod 10 + 1)).toNat ++
                  a1)))
            (some
              (Xt.exit 0,
                [PV.sc
                    (Value.string
                      (itoW (IntKind.i64.wrap (a0.tdiv 10))
                        ((ByteArray.mk #[48, 49, 50, 51, 52, 53, 54, 55, 56, 57]).extract (a0.tmod 10).toNat
                            (IntKind.i64.wrap (a0.tmod 10 + 1)).toNat ++
                          a1)))],
                [])))))
  else some (Xt.exit 0, [PV.sc (Value.string a1)], [])) := by kernel_rfl
noncomputable abbrev b41L (a0 : Int) := evFuncV Tryd.prog R1 (addCut 0 [0, 3] [3] (entC kIt cI2) noCuts) Tryd.f41 (killA 0 [sI]) (showA 0 [sI] (a0, ())).1 (showA 0 [sI] (a0, ())).2
theorem b41 (a0 : Int) : b41L a0 = (guardB (bp (okI a0 (ByteArray.mk #[]))) (some (PV.sc (Value.string (itoW a0 (ByteArray.mk #[]))), []))) := by kernel_rfl
noncomputable abbrev b22L (a0 : Int) (a1 : Int) (a2 : ByteArray) (a3 : ByteArray) := evFuncV Tryd.prog R2 noCuts Tryd.f22 (killA 0 [sE]) (showA 0 [sE] ((a0, (a1, (a2, a3))), ())).1 (showA 0 [sE] ((a0, (a1, (a2, a3))), ())).2
theorem b22 (a0 : Int) (a1 : Int) (a2 : ByteArray) (a3 : ByteArray) : b22L a0 a1 a2 a3 = (bif decide (a0 < 1) then some (PV.sc (Value.int IntKind.i64 4), [])
else
  bif decide (a0 > 500) then some (PV.sc (Value.int IntKind.i64 4), [])
  else
    bif decide (a1 < 0) then some (PV.sc (Value.int IntKind.i64 4), [])
    else
      bif decide (a1 > 200000) then some (PV.sc (Value.int IntKind.i64 4), [])
      else
        bif decide ((↑a3.size : Int) > 120) then some (PV.sc (Value.int IntKind.i64 2), [])
        else
          bif decide ((↑a2.size : Int) > 8) then some (PV.sc (Value.int IntKind.i64 2), [])
          else
            bif decide (a2 = ByteArray.mk #[]) then some (PV.sc (Value.int IntKind.i64 6), [])
            else
              guardB
                (bp
                  (a2.size ≤ 1000 ∧
                    ByteArray.mk
                        #[97, 98, 99, 100, 101, 102, 103, 104, 105, 106, 107, 108, 109, 110, 111, 112, 113, 114, 115,
                          116, 117, 118, 119, 120, 121, 122] =
                      azS))
                (bif !decide (trmS a2 = ByteArray.mk #[]) then some (PV.sc (Value.int IntKind.i64 6), [])
                else some (PV.sc (Value.int IntKind.i64 0), []))) := by kernel_rfl
noncomputable abbrev b21aL (a0 : Int) (a1 : Int) (a2 : ByteArray) (a3 : ByteArray) (a4 : Int) (a5 : Int) (a6 : Int) := evRound Tryd.prog R2 noCuts 47 (loopOf (codeAt 0 (bodyF Tryd.f21))) kLo muLo (killA 0 kLo) [1, 29, 30, 2] [2] cLo ((a0, (a1, (a2, a3))), (a4, (a5, (a6, ()))))
theorem b21a (a0 : Int) (a1 : Int) (a2 : ByteArray) (a3 : ByteArray) (a4 : Int) (a5 : Int) (a6 : Int) : b21aL a0 a1 a2 a3 a4 a5 a6 = (bif decide (a5 < a4) then
  guardB (decide (0 ≤ a5))
    (bindO a2[a5.toNat]? fun x =>
      bif decide ((↑x.toNat : Int) ≥ 97) then
        guardB (decide (0 ≤ a5))
          (bindO a2[a5.toNat]? fun x =>
            bif !decide ((↑x.toNat : Int) ≤ 122) then
              some
                (Xt.ret, [PV.sc (Value.int IntKind.i64 6)],
                  [Blk.fix false
                      [PV.sc (Value.int IntKind.i64 a0), PV.sc (Value.int IntKind.i64 a1), PV.sc (Value.string a2),
                        PV.sc (Value.string a3)]])
            else
              guardB
                (decide
                  (muLo ((a0, a1, a2, a3), a4, IntKind.i64.wrap (a5 + 1), a6, ()) <
                    muLo ((a0, a1, a2, a3), a4, a5, a6, ())))
                (guardB (bp (okLo a2 a4 (IntKind.i64.wrap (a5 + 1))))
                  (bif (List.drop (IntKind.i64.wrap (a5 + 1)).toNat (bytesI a2)).all lowC then
                    some
                      (Xt.exit 0, [PV.sc (Value.int IntKind.i64 a6)],
                        [Blk.fix false
                            [PV.sc (Value.int IntKind.i64 a0), PV.sc (Value.int IntKind.i64 a1),
                              PV.sc (Value.string a2), PV.sc (Value.string a3)]])
                  else
                    some
                      (Xt.ret, [PV.sc (Value.int IntKind.i64 6)],
                        [Blk.fix false
                            [PV.sc (Value.int IntKind.i64 a0), PV.sc (Value.int IntKind.i64 a1),
                              PV.sc (Value.string a2), PV.sc (Value.string a3)]]))))
      else
        some
          (Xt.ret, [PV.sc (Value.int IntKind.i64 6)],
            [Blk.fix false
                [PV.sc (Value.int IntKind.i64 a0), PV.sc (Value.int IntKind.i64 a1), PV.sc (Value.string a2),
                  PV.sc (Value.string a3)]]))
else
  some
    (Xt.exit 0, [PV.sc (Value.int IntKind.i64 a6)],
      [Blk.fix false
          [PV.sc (Value.int IntKind.i64 a0), PV.sc (Value.int IntKind.i64 a1), PV.sc (Value.string a2),
            PV.sc (Value.string a3)]])) := by kernel_rfl
noncomputable abbrev b21L (a0 : Int) (a1 : Int) (a2 : ByteArray) (a3 : ByteArray) := evFuncV Tryd.prog R2 (addCut 0 [1, 29, 30, 2] [2] (entC kLo cLo) noCuts) Tryd.f21 (killA 0 [sE]) (showA 0 [sE] ((a0, (a1, (a2, a3))), ())).1 (showA 0 [sE] ((a0, (a1, (a2, a3))), ())).2
theorem b21 (a0 : Int) (a1 : Int) (a2 : ByteArray) (a3 : ByteArray) : b21L a0 a1 a2 a3 = (bif !inS a0 1 500 then some (PV.sc (Value.int IntKind.i64 4), [])
else
  bif !inS a1 0 200000 then some (PV.sc (Value.int IntKind.i64 4), [])
  else
    bif decide ((↑a3.size : Int) > 120) then some (PV.sc (Value.int IntKind.i64 2), [])
    else
      bif decide ((↑a2.size : Int) > 8) then some (PV.sc (Value.int IntKind.i64 2), [])
      else
        bif decide (a2 = ByteArray.mk #[]) then some (PV.sc (Value.int IntKind.i64 6), [])
        else
          guardB (bp (okLo a2 (↑a2.size : Int) 0))
            (bif (List.drop (Int.toNat 0) (bytesI a2)).all lowC then some (PV.sc (Value.int IntKind.i64 0), [])
            else some (PV.sc (Value.int IntKind.i64 6), []))) := by kernel_rfl
theorem spl (l : List Bool) (h : l.length = 256) : splice l 0 azT = azT := by
  unfold splice
  rw [List.take_zero, az_len, List.drop_eq_nil_of_le (by omega), List.append_nil, List.nil_append]
theorem take256 : azT.take 256 = azT := List.take_of_length_le (by rw [az_len]; omega)
theorem c59 : b59L azS = some (PV.tup [PV.arr .bool 256 azT, PV.sc (.bool true)], []) := by
  rw [b59, take256, spl azT az_len, take256, az_len]
  exact guard_split (bp_mk ⟨rfl, by omega, by omega, by decide +kernel⟩) (guard_split (by decide) (guard_split (by decide) (guard_split (by decide) rfl)))
theorem R1_ok : TableOK Tryd.prog R1 := by
  refine ext_ok (entV_ok Tryd.call59 (liftV (kill := killA 0 [sS]) (T0_ok _) mixed Tryd.func59 (show Tryd.f59.body = some (bodyF Tryd.f59) from rfl) (cut_cons (by kernel_rfl) in59 (noCuts_ok _)) (by decide) ?_)) <|
    ext_ok (entV_ok Tryd.call60 (liftV (kill := killA 0 kTr) R0_ok mixed Tryd.func60 (show Tryd.f60.body = some (bodyF Tryd.f60) from rfl) (cut_cons (by kernel_rfl) in60 (noCuts_ok _)) (by decide) fun v h => (b60 v.1 v.2.1).trans (guard_split h rfl))) <|
    ext_ok (entV_ok Tryd.call61 (liftV (kill := killA 0 kTr) R0_ok mixed Tryd.func61 (show Tryd.f61.body = some (bodyF Tryd.f61) from rfl) (cut_cons (by kernel_rfl) in61 (noCuts_ok _)) (by decide) fun v h => (b61 v.1 v.2.1).trans (guard_split h rfl))) R0_ok
  rintro ⟨s, ⟨⟩⟩ h
  have h : s = azS := bp_true.1 h
  subst h
  exact c59
theorem rtr_len (s : ByteArray) : (rtrS s).size ≤ s.size := by
  have : ∀ l : List Int, (ltrL l).length ≤ l.length := by
    intro l
    induction l with
    | nil => exact Nat.le_refl _
    | cons x r ih =>
      rw [ltrL]
      cases lowC x
      · exact Nat.le_refl _
      · exact Nat.le_succ_of_le ih
  rw [rtrS_eq]
  have h1 := this (bytesI s).reverse
  rw [List.length_reverse, bytes_len] at h1
  show (strOfNums (ltrL (bytesI s).reverse).reverse).size ≤ _
  rw [show (strOfNums (ltrL (bytesI s).reverse).reverse).size = (ltrL (bytesI s).reverse).reverse.length by simp [strOfNums, ByteArray.size], List.length_reverse]
  exact h1
theorem c40 (s : ByteArray) (h : s.size ≤ 1000) : b40L s = some (PV.sc (.string (trmS s)), []) := by
  have hr := rtr_len s
  rw [b40]
  unfold trmS
  cases decide (s = ByteArray.mk #[]) with
  | true => rfl
  | false =>
    simp only [cond_false]
    rw [spl _ (by decide +kernel)]
    refine guard_split (bp_mk (by trivial)) (guard_split (bp_mk ⟨h, rfl⟩) (guard_split (bp_mk ⟨by omega, rfl⟩) rfl))
/-! ### Numerals -/
theorem dig_eq (n : Int) (h0 : 0 ≤ n) (h1 : n < 10) : digS n = ⟨#[UInt8.ofNat (48 + n.toNat)]⟩ := by
  have : n = 0 ∨ n = 1 ∨ n = 2 ∨ n = 3 ∨ n = 4 ∨ n = 5 ∨ n = 6 ∨ n = 7 ∨ n = 8 ∨ n = 9 := by omega
  rcases this with rfl | rfl | rfl | rfl | rfl | rfl | rfl | rfl | rfl | rfl <;> decide +kernel
theorem dig_size (n : Int) (h0 : 0 ≤ n) (h1 : n < 10) : (digS n).size = 1 := by rw [dig_eq n h0 h1]; rfl
theorem app_ne {a s : ByteArray} (h : a.size = 1) : ¬ (a ++ s = ByteArray.mk #[]) := fun e => by
  have : (a ++ s).size = 0 := by rw [e]; rfl
  rw [ByteArray.size_append] at this; omega
theorem itoR_more : ∀ (d : Nat) (n : Int) (s : ByteArray), 0 ≤ n → n < 10 ^ d → ¬ s = ByteArray.mk #[] → itoR (d + 1) n s = itoR d n s
  | 0, n, s, h0, h1, hs => by
    rw [Int.pow_zero] at h1
    rw [itoR, itoR, decide_eq_false (show ¬ n > 0 by omega), decide_eq_false hs]; rfl
  | d + 1, n, s, h0, h1, hs => by
    rw [Int.pow_succ] at h1
    show (bif decide (n > 0) || decide (s = ByteArray.mk #[]) then itoR (d + 1) (n.tdiv 10) (digS (n.tmod 10) ++ s) else s) = (bif decide (n > 0) || decide (s = ByteArray.mk #[]) then itoR d (n.tdiv 10) (digS (n.tmod 10) ++ s) else s)
    have t1 : n.tdiv 10 = n / 10 := Int.tdiv_eq_ediv_of_nonneg h0
    have t2 : n.tmod 10 = n % 10 := Int.tmod_eq_emod_of_nonneg h0
    rw [t1, t2, itoR_more d (n / 10) _ (by omega) (by omega) (app_ne (dig_size _ (by omega) (by omega)))]
theorem itoW_eq (n : Int) (s : ByteArray) : itoW n s = itoR 8 n s := Classical.choose_spec (⟨_, rfl⟩ : ∃ t, t = itoR 8 n s)
theorem itoW_step (n : Int) (s : ByteArray) (h0 : 0 ≤ n) (h1 : n < 10000000) (h : n > 0 ∨ s = ByteArray.mk #[]) : itoW n s = itoW (n.tdiv 10) (digS (n.tmod 10) ++ s) := by
  have t1 : n.tdiv 10 = n / 10 := Int.tdiv_eq_ediv_of_nonneg h0
  have t2 : n.tmod 10 = n % 10 := Int.tmod_eq_emod_of_nonneg h0
  rw [itoW_eq, itoW_eq, t1, t2, itoR_more 7 (n / 10) _ (by omega) (by show n / 10 < 10000000; omega) (app_ne (dig_size _ (by omega) (by omega))), itoR, t1, t2]
  have : (decide (n > 0) || decide (s = ByteArray.mk #[])) = true := by
    rw [Bool.or_eq_true, decide_eq_true_eq, decide_eq_true_eq]; exact h
  rw [this]; rfl
theorem itoW_stop (n : Int) (s : ByteArray) (h : ¬ n > 0) (hs : ¬ s = ByteArray.mk #[]) : itoW n s = s := by
  rw [itoW_eq, itoR, decide_eq_false h, decide_eq_false hs]; rfl
theorem itoR_dec : ∀ (d : Nat) (n : Nat) (s : ByteArray), 1 ≤ n → n < 10 ^ d → itoR d (n : Int) s = ⟨(Lib.decDigits n).toArray⟩ ++ s
  | 0, n, s, h0, h1 => by rw [Nat.pow_zero] at h1; omega
  | d + 1, n, s, h0, h1 => by
    rw [Nat.pow_succ] at h1
    have t1 : (n : Int).tdiv 10 = ((n / 10 : Nat) : Int) := by rw [Int.tdiv_eq_ediv_of_nonneg (by omega)]; omega
    have t2 : (n : Int).tmod 10 = ((n % 10 : Nat) : Int) := by rw [Int.tmod_eq_emod_of_nonneg (by omega)]; omega
    rw [itoR, decide_eq_true (show (n : Int) > 0 by omega), t1, t2]
    simp only [Bool.true_or, cond_true]
    have hd := dig_eq ((n % 10 : Nat) : Int) (by omega) (by omega)
    by_cases hn : n < 10
    · rw [show n / 10 = 0 by omega, show n % 10 = n by omega]
      have hz := dig_eq (n : Int) (by omega) (by omega)
      have hne := app_ne (a := digS (n : Int)) (s := s) (dig_size _ (by omega) (by omega))
      have e : itoR d ((0 : Nat) : Int) (digS (n : Int) ++ s) = digS (n : Int) ++ s := by
        cases d with
        | zero => rfl
        | succ d => rw [itoR, decide_eq_false (show ¬ ((0 : Nat) : Int) > 0 by omega), decide_eq_false hne]; rfl
      rw [e, hz, Lib.decDigits_one hn, Int.toNat_natCast]
    · rw [itoR_dec d (n / 10) _ (by omega) (by omega), hd, Int.toNat_natCast, Lib.decDigits.eq_def n, dif_neg hn, ← ByteArray.append_assoc]
      congr 1
      all_goals (apply ByteArray.ext; rw [ByteArray.data_append]; simp)
theorem ito_eq (n : Int) (h0 : 0 ≤ n) (h1 : n < 10000000) : itoW n (ByteArray.mk #[]) = itoS n := by
  obtain ⟨n, rfl⟩ := Int.eq_ofNat_of_zero_le h0
  unfold itoS
  rw [Lib.itoa_nonneg]
  by_cases hn : n = 0
  · subst hn
    rw [itoW_eq, Lib.decDigits_one (by omega)]
    decide +kernel
  · rw [itoW_eq, itoR_dec 8 n _ (by omega) (by omega)]
    exact ByteArray.append_empty
theorem ito_size (n : Int) (h0 : -9223372036854775808 ≤ n) (h1 : n ≤ 9223372036854775807) : (itoS n).size ≤ 21 := by
  have := Lib.itoa_length_le n h0 h1
  unfold itoS
  show (Lib.itoa n).toArray.size ≤ 21
  simpa using this
theorem muI_step (n : Int) (s : ByteArray) (h0 : 0 ≤ n) (h : n > 0 ∨ s = ByteArray.mk #[]) : muI (n / 10) (digS (n % 10) ++ s) < muI n s := by
  unfold muI
  rw [decide_eq_false (app_ne (dig_size _ (by omega) (by omega))), cond_false]
  rcases h with h | h
  · have : 0 ≤ (bif decide (s = ByteArray.mk #[]) then 1 else 0) := Nat.zero_le _
    omega
  · rw [decide_eq_true h, cond_true]; omega
theorem c41a (n : Int) (s : ByteArray) (h : okI n s) : b41aL n s = pickA (cI2 (n, s, ())).2 := by
  obtain ⟨h0, h1, h2⟩ := h
  show _ = some (Xt.exit 0, [PV.sc (.string (itoW n s))], [])
  have t1 : n.tdiv 10 = n / 10 := Int.tdiv_eq_ediv_of_nonneg h0
  have t2 : n.tmod 10 = n % 10 := Int.tmod_eq_emod_of_nonneg h0
  have go : (n > 0 ∨ s = ByteArray.mk #[]) → guardB (decide (0 ≤ n % 10) && decide (n % 10 ≤ n % 10 + 1) && decide (n % 10 + 1 ≤ 10)) (guardB (((digS (n % 10)).size + s.size).ble 9223372036854775807) (guardB (decide (muIt (n / 10, digS (n % 10) ++ s, ()) < muIt (n, s, ()))) (guardB (bp (okI (n / 10) (digS (n % 10) ++ s))) (some (Xt.exit 0, [PV.sc (.string (itoW (n / 10) (digS (n % 10) ++ s)))], ([] : List Blk)))))) = some (Xt.exit 0, [PV.sc (.string (itoW n s))], []) := by
    intro hc
    have hm := muI_step n s h0 hc
    have hz := dig_size (n % 10) (by omega) (by omega)
    rw [itoW_step n s h0 h1 hc, t1, t2]
    refine guard_split (by simp; omega) (guard_split (Nat.ble_eq_true_of_le (by omega)) (guard_split (decide_eq_true hm) (guard_split (bp_mk ⟨by omega, by omega, ?_⟩) rfl)))
    rw [ByteArray.size_append]; omega
  rw [b41a, t1, t2, IntWalk.i64_in (n % 10 + 1) (by omega), IntWalk.i64_in (n / 10) (by omega)]
  refine cond_split (fun h => ?_) (fun h => ?_)
  · exact go (Or.inl (of_decide_eq_true h))
  · have h := of_decide_eq_false h
    refine cond_split (fun hs => ?_) (fun hs => ?_)
    · exact go (Or.inr (of_decide_eq_true hs))
    · rw [itoW_stop n s h (of_decide_eq_false hs)]
theorem in41 : CutOK Tryd.prog Tryd.f41.ntmps (codeAt 0 (bodyF Tryd.f41)) [0, 3] [3] (entC kIt cI2) :=
  loop_cutW (kill := killA 0 kIt) R1_ok mixed muIt (by kernel_rfl) (noCuts_ok _) fun v h => c41a v.1 v.2.1 (bp_true.1 h)
theorem c41 (n : Int) (h0 : 0 ≤ n) (h1 : n < 10000000) : b41L n = some (PV.sc (.string (itoW n (ByteArray.mk #[]))), []) := by
  rw [b41]
  refine guard_split (bp_mk ⟨h0, h1, ?_⟩) rfl
  unfold muI
  show 0 + _ ≤ _
  have : (bif decide (ByteArray.mk #[] = ByteArray.mk #[]) then 1 else 0) ≤ 1 := by cases decide (ByteArray.mk #[] = ByteArray.mk #[]) <;> decide
  omega
theorem R2_ok : TableOK Tryd.prog R2 := by
  refine ext_ok (entV_ok Tryd.call40 (liftV (kill := killA 0 [sS, sS]) R1_ok mixed Tryd.func40 (show Tryd.f40.body = some (bodyF Tryd.f40) from rfl) (noCuts_ok _) (by decide) ?_)) <|
    ext_ok (entV_ok Tryd.call41 (liftV R1_ok mixed Tryd.func41 (show Tryd.f41.body = some (bodyF Tryd.f41) from rfl) (cut_cons (by kernel_rfl) in41 (noCuts_ok _)) (by decide) fun v h => c41 v.1 (bp_true.1 h).1 (bp_true.1 h).2)) R1_ok
  rintro ⟨s, z, ⟨⟩⟩ h
  obtain ⟨h1, h2⟩ := bp_true.1 h
  have h2 : z = azS := h2
  subst h2
  exact c40 s h1
end Go.Proofs.YtokephobkllfgaaDoorRb
