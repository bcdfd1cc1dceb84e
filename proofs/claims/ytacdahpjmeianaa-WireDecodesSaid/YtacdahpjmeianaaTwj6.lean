/- What is proved: what Decode answers, in plain functions of the bytes. No condition. -/
import Derived.Test.YtacdahpjmeianaaTwj5
namespace Go.Proofs.YtacdahpjmeianaaWi
open Go Go.Proofs Go.Proofs.YtacdahpjmeianaaEv Go.Proofs.YtacdahpjmeianaaFl
set_option maxRecDepth 100000
set_option maxHeartbeats 4000000
set_option linter.unusedVariables false
set_option linter.unusedSimpArgs false
def swP : List Int → Bool
  | [] => true
  | [x] => x == 83
  | x :: y :: _ => x == 83 && y == 87
noncomputable def rI (s : ByteArray) : Int := getN s 2 1
noncomputable def tI (s : ByteArray) : Int := getN s 3 4
noncomputable def mI (s : ByteArray) : Int := getN s 7 2
noncomputable def nI (s : ByteArray) : Int := 9 + mI s * 16
noncomputable def decE0 (s : ByteArray) : Int :=
  bif !swP (bytesI s) then 3 else bif decide ((s.size : Int) < 9) then 8 else bif decide (tI s > 200000) || decide (mI s > 32) then 3
  else bif decide ((s.size : Int) < nI s + 2) then 8 else bif getN s (nI s) 2 != sum2 ((bytesI s).take (nI s).toNat) then 13
  else bif plsO s (rI s) (tI s) 0 (mI s).toNat then 0 else 3
noncomputable def decE (s : ByteArray) : Int := Classical.choose (⟨_, rfl⟩ : ∃ n, n = decE0 s)
theorem decE_eq (s : ByteArray) : decE s = decE0 s := Classical.choose_spec (⟨_, rfl⟩ : ∃ n, n = decE0 s)
noncomputable def decL (s : ByteArray) : List P6 := plsT s (rI s) (tI s) 0 (mI s).toNat
noncomputable def decF (s : ByteArray) : Bool := flagD s (rI s) (tI s) (mI s) 0 true
theorem bytes_ext (s : ByteArray) (a b : Nat) : bytesI (s.extract a b) = ((bytesI s).drop a).take (b - a) := by
  unfold bytesI
  rw [ByteArray.data_extract, Array.toList_extract, List.extract_eq_take_drop, List.map_take, List.map_drop]
theorem bytes_inj {a b : ByteArray} (h : bytesI a = bytesI b) : a = b := by
  apply ByteArray.ext
  apply Array.ext'
  unfold bytesI at h
  have : ∀ (l m : List UInt8), l.map (fun b => (b.toNat : Int)) = m.map (fun b => (b.toNat : Int)) → l = m := by
    intro l
    induction l with
    | nil => intro m h; cases m with
      | nil => rfl
      | cons y m => simp at h
    | cons x l ih => intro m h; cases m with
      | nil => simp at h
      | cons y m =>
        simp only [List.map_cons, List.cons.injEq] at h
        have : x.toNat = y.toNat := by omega
        rw [UInt8.toNat_inj.1 this, ih m h.2]
  exact this _ _ h
theorem sw2 (s : ByteArray) (h : 2 ≤ s.size) : decide (s.extract (Int.toNat 0) (Int.toNat 2) = ByteArray.mk #[83, 87]) = swP (bytesI s) := by
  have hl := bytes_len s
  have e := bytes_ext s 0 2
  rw [show Int.toNat 0 = 0 from rfl, show Int.toNat 2 = 2 from rfl]
  match hb : bytesI s, hl with
  | [], hl => simp at hl; omega
  | [x], hl => simp at hl; omega
  | x :: y :: r, hl =>
    rw [hb] at e
    simp only [List.drop_zero, Nat.sub_zero, List.take_succ_cons, List.take_zero] at e
    show _ = (x == 83 && y == 87)
    have e2 : bytesI (ByteArray.mk #[83, 87]) = [83, 87] := by decide
    rw [Bool.eq_iff_iff, decide_eq_true_eq, Bool.and_eq_true, beq_iff_eq, beq_iff_eq]
    constructor
    · intro h2
      rw [h2, e2] at e
      simp at e; omega
    · rintro ⟨rfl, rfl⟩
      exact bytes_inj (by rw [e, e2])
theorem ext_size (s : ByteArray) (a b : Nat) (h : b ≤ s.size) : (s.extract a b).size = b - a := by
  rw [ByteArray.size_extract]; omega
abbrev rZ (c : Int) : Option (PV × List Blk) := some (PV.tup [PV.agg [PV.sc (.int .i64 0), PV.sc (.int .i64 0), PV.sc (.slice none 0 0)], PV.sc (.int .i64 0), PV.sc (.int .i64 c)], [])
noncomputable abbrev rY (s : ByteArray) : Option (PV × List Blk) := some (PV.tup [PV.agg [PV.sc (.int .i64 (rI s)), PV.sc (.int .i64 (tI s)), PV.sl 0 0 6 (decL s).length (decL s).length false (decF s)], PV.sc (.int .i64 (nI s + 2)), PV.sc (.int .i64 0)], [Blk.row true kP (decL s)])
theorem p66 (s : ByteArray) (h : s.size ≤ 140737488355328) : j66L s = cond (decE s != 0) (rZ (decE s)) (rY s) := by
  have hl := bytes_len s
  rw [decE_eq]
  unfold decE0
  rw [j66]
  refine cond_split (fun h9 => ?_) (fun h9 => ?_)
  · rw [h9]
    have h9 := of_decide_eq_true h9
    refine cond_split (fun h2 => ?_) (fun h2 => ?_)
    · have h2 := of_decide_eq_true h2
      refine guard_split (decide_eq_true (by omega)) ?_
      rw [sw2 s (by omega)]
      cases swP (bytesI s) with
      | false => rfl
      | true =>
        rw [show ((s.size : Int) == 1) = false by simp; omega]
        rfl
    · have h2 := of_decide_eq_false h2
      refine cond_split (fun h1 => ?_) (fun h1 => ?_)
      · have h1 : (s.size : Int) = 1 := by simpa using h1
        obtain ⟨x, hx, hc⟩ := bytes_get s 0 (by omega)
        rw [show Int.toNat 0 = 0 from rfl, hx]
        have e : bytesI s = [(x.toNat : Int)] := by
          match hb : bytesI s, hl, hc with
          | [], hl, hc => simp at hl; omega
          | [y], hl, hc => simp at hc; rw [hc]
          | y :: z :: r, hl, hc => simp at hl; omega
        rw [e]
        show cond ((x.toNat : Int) != 83) _ _ = cond (cond (!((x.toNat : Int) == 83)) 3 8 != 0) (rZ (cond (!((x.toNat : Int) == 83)) 3 8)) _
        rw [show ((x.toNat : Int) != 83) = !((x.toNat : Int) == 83) from rfl]
        cases ((x.toNat : Int) == 83) <;> rfl
      · have h1 : (s.size : Int) ≠ 1 := by simpa using h1
        have e : bytesI s = [] := List.length_eq_zero_iff.1 (by omega)
        rw [e]; rfl
  · rw [h9]
    have h9 := of_decide_eq_false h9
    refine guard_split (decide_eq_true (by omega)) ?_
    rw [sw2 s (by omega)]
    have g1 : okG s 2 1 := ⟨h, by omega, by omega, by omega, by omega⟩
    have g2 : okG s 3 4 := ⟨h, by omega, by omega, by omega, by omega⟩
    have g3 : okG s 7 2 := ⟨h, by omega, by omega, by omega, by omega⟩
    have i1 := getN1 g1
    have i2 := getN4 g2
    have i3 := getN2 g3
    cases hs : swP (bytesI s) with
    | false =>
      simp only [Bool.not_false, cond_true]
      rw [decide_eq_true (show (s.size : Int) ≥ 2 by omega)]
      simp only [cond_true]
      exact guard_split rfl rfl
    | true =>
      simp only [Bool.not_true, cond_false]
      rw [IntWalk.i64_in (getN s 3 4) (by omega), IntWalk.i64_in (getN s 7 2) (by omega), IntWalk.i64_in (getN s 2 1) (by omega), IntWalk.i64_in (getN s 7 2 * 16) (by omega), IntWalk.i64_in (9 + getN s 7 2 * 16) (by omega), IntWalk.i64_in (9 + getN s 7 2 * 16 + 2) (by omega), Int.sub_zero]
      change guardB _ (guardB _ (guardB _ (cond (decide (tI s > 200000)) _ (cond (decide (mI s > 32)) _ (cond (decide ((s.size : Int) < nI s + 2)) _ _))))) = _
      refine guard_split (bp_mk g1) (guard_split (bp_mk g2) (guard_split (bp_mk g3) ?_))
      cases decide (tI s > 200000) with
      | true => rfl
      | false => cases hm : decide (mI s > 32) with
        | true => rfl
        | false => cases hz : decide ((s.size : Int) < nI s + 2) with
          | true => rfl
          | false =>
            have hm : ¬ mI s > 32 := of_decide_eq_false hm
            have hz : ¬ (s.size : Int) < nI s + 2 := of_decide_eq_false hz
            have hm0 : 0 ≤ mI s := i3.1
            have hn : nI s = 9 + mI s * 16 := rfl
            simp only [cond_false, Bool.or_false]
            have g4 : okG s (nI s) 2 := ⟨h, by omega, by omega, by omega, by omega⟩
            have i4 := getN2 g4
            have ez : (s.extract (Int.toNat 0) (nI s).toNat).size = (nI s).toNat := ext_size s 0 _ (by omega)
            change guardB (bp (okG s (nI s) 2)) (guardB (decide (0 ≤ nI s) && decide (nI s ≤ (s.size : Int))) (guardB (decide ((s.extract (Int.toNat 0) (nI s).toNat).size ≤ 4000)) (cond (IntKind.i64.wrap (getN s (nI s) 2) != sum2 (bytesI (s.extract (Int.toNat 0) (nI s).toNat))) _ (guardB (bp (okDe s [] (mI s) 0 0 0)) (cond (plsO s (rI s) (tI s) 0 (Int.toNat (mI s))) _ _))))) = _
            rw [IntWalk.i64_in (getN s (nI s) 2) (by omega), bytes_ext, show Int.toNat 0 = 0 from rfl, List.drop_zero, Nat.sub_zero]
            refine guard_split (bp_mk g4) (guard_split (by simp; omega) (guard_split (decide_eq_true (by rw [show Int.toNat 0 = 0 from rfl] at ez; omega)) ?_))
            cases (getN s (nI s) 2 != sum2 ((bytesI s).take (nI s).toNat)) with
            | true => rfl
            | false =>
              simp only [cond_false]
              refine guard_split (bp_mk ⟨h, by omega, by omega, by omega, by omega, by simp, rfl, rfl⟩) ?_
              cases plsO s (rI s) (tI s) 0 (mI s).toNat with
              | false => rfl
              | true =>
                simp only [cond_true]
                show _ = rY s
                unfold rY decL decF
                have ep : (postDe (s, (0, 0, (), ()), 0, 0, (getN s 2 1, getN s 3 4, ([], true), ()), getN s 7 2, 0, ())).snd.snd.snd.snd.fst.snd.snd.fst.fst = plsT s (rI s) (tI s) 0 (mI s).toNat := by
                  show ([] : List P6) ++ plsT s (rI s) (tI s) 0 (Int.toNat (mI s - 0)) = _
                  rw [Int.sub_zero, List.nil_append]
                rw [ep]
                rfl
end Go.Proofs.YtacdahpjmeianaaWi
