/- What is proved: Decode returns what the reference returns (WireDecodes). No condition. -/
import Derived.Test.YtacdahpjmeianaaTwk0
namespace Go.Proofs.YtacdahpjmeianaaWi
open Go Go.Proofs Go.Proofs.YtacdahpjmeianaaEv Go.Proofs.YtacdahpjmeianaaFl
set_option maxRecDepth 100000
set_option maxHeartbeats 4000000
set_option linter.unusedVariables false
set_option linter.unusedSimpArgs false
noncomputable abbrev j117aL (a0 : List (Int × Int × Int × Int × Int × Int)) (a1 : Bool) (a2 : List (Int × Int × Int × Int × Int × Int)) (a3 : Bool) (a4 : Int) (a5 : Int) (a6 : Bool) := evRound Try.prog J3 noCuts 26 (loopOf (codeAt 0 (bodyF Try.f117))) kSp muSp (killA 0 kSp) [0, 1, 12, 13, 4] [4] cSp ((a0, a1), ((a2, a3), (a4, (a5, (a6, ())))))
theorem j117a (a0 : List (Int × Int × Int × Int × Int × Int)) (a1 : Bool) (a2 : List (Int × Int × Int × Int × Int × Int)) (a3 : Bool) (a4 : Int) (a5 : Int) (a6 : Bool) : j117aL a0 a1 a2 a3 a4 a5 a6 = (bif decide (a5 < a4) then
  guardB (decide (0 ≤ a5) && decide (a5 < (↑a0.length : Int)))
    (bindO a0[0 + a5.toNat]? fun x =>
      guardB (decide (0 ≤ a5) && decide (a5 < (↑a2.length : Int)))
        (bindO a2[0 + a5.toNat]? fun x_1 =>
          bif
              !(x.fst == x_1.fst &&
                  (x.snd.fst == x_1.snd.fst &&
                    (x.snd.snd.fst == x_1.snd.snd.fst &&
                      (x.snd.snd.snd.fst == x_1.snd.snd.snd.fst &&
                        (x.snd.snd.snd.snd.fst == x_1.snd.snd.snd.snd.fst &&
                          (x.snd.snd.snd.snd.snd == x_1.snd.snd.snd.snd.snd && true)))))) then
            some
              (Xt.ret, [PV.sc (Value.bool false)],
                [Blk.row false
                    ((Kd.int IntKind.i64).pair
                      ((Kd.int IntKind.i64).pair
                        ((Kd.int IntKind.i64).pair
                          ((Kd.int IntKind.i64).pair ((Kd.int IntKind.i64).pair (Kd.int IntKind.i64))))))
                    a0,
                  Blk.row false
                    ((Kd.int IntKind.i64).pair
                      ((Kd.int IntKind.i64).pair
                        ((Kd.int IntKind.i64).pair
                          ((Kd.int IntKind.i64).pair ((Kd.int IntKind.i64).pair (Kd.int IntKind.i64))))))
                    a2])
          else
            guardB
              (decide
                (muSp
                    ((List.take a0.length a0, a1), (List.take a2.length a2, a3), a4, IntKind.i64.wrap (a5 + 1), a6,
                      ()) <
                  muSp ((a0, a1), (a2, a3), a4, a5, a6, ())))
              (guardB
                (bif decide (0 + a0.length ≤ a0.length) then
                  bif decide (0 + a2.length ≤ a2.length) then
                    decide
                      ((List.take a0.length a0).length = (List.take a2.length a2).length ∧
                        a4 = (↑(List.take a0.length a0).length : Int) ∧
                          0 ≤ IntKind.i64.wrap (a5 + 1) ∧ IntKind.i64.wrap (a5 + 1) ≤ a4 ∧ a4 ≤ 1000)
                  else false
                else false)
                (bif
                    sameL (List.drop (IntKind.i64.wrap (a5 + 1)).toNat (List.take a0.length a0))
                      (List.drop (IntKind.i64.wrap (a5 + 1)).toNat (List.take a2.length a2)) then
                  some
                    (Xt.exit 0, [PV.sc (Value.bool a6)],
                      [Blk.row false
                          ((Kd.int IntKind.i64).pair
                            ((Kd.int IntKind.i64).pair
                              ((Kd.int IntKind.i64).pair
                                ((Kd.int IntKind.i64).pair ((Kd.int IntKind.i64).pair (Kd.int IntKind.i64))))))
                          a0,
                        Blk.row false
                          ((Kd.int IntKind.i64).pair
                            ((Kd.int IntKind.i64).pair
                              ((Kd.int IntKind.i64).pair
                                ((Kd.int IntKind.i64).pair ((Kd.int IntKind.i64).pair (Kd.int IntKind.i64))))))
                          a2])
                else
                  some
                    (Xt.ret, [PV.sc (Value.bool false)],
                      [Blk.row false
                          ((Kd.int IntKind.i64).pair
                            ((Kd.int IntKind.i64).pair
                              ((Kd.int IntKind.i64).pair
                                ((Kd.int IntKind.i64).pair ((Kd.int IntKind.i64).pair (Kd.int IntKind.i64))))))
                          a0,
                        Blk.row false
                          ((Kd.int IntKind.i64).pair
                            ((Kd.int IntKind.i64).pair
                              ((Kd.int IntKind.i64).pair
                                ((Kd.int IntKind.i64).pair ((Kd.int IntKind.i64).pair (Kd.int IntKind.i64))))))
                          a2])))))
else
  some
    (Xt.exit 0, [PV.sc (Value.bool a6)],
      [Blk.row false
          ((Kd.int IntKind.i64).pair
            ((Kd.int IntKind.i64).pair
              ((Kd.int IntKind.i64).pair ((Kd.int IntKind.i64).pair ((Kd.int IntKind.i64).pair (Kd.int IntKind.i64))))))
          a0,
        Blk.row false
          ((Kd.int IntKind.i64).pair
            ((Kd.int IntKind.i64).pair
              ((Kd.int IntKind.i64).pair ((Kd.int IntKind.i64).pair ((Kd.int IntKind.i64).pair (Kd.int IntKind.i64))))))
          a2])) := by kernel_rfl
noncomputable abbrev j117L (a0 : List (Int × Int × Int × Int × Int × Int)) (a1 : Bool) (a2 : List (Int × Int × Int × Int × Int × Int)) (a3 : Bool) := evFuncV Try.prog J3 (addCut 0 [0, 1, 12, 13, 4] [4] (entC kSp cSp) noCuts) Try.f117 (killA 0 [rP, rP]) (showA 0 [rP, rP] ((a0, a1), ((a2, a3), ()))).1 (showA 0 [rP, rP] ((a0, a1), ((a2, a3), ()))).2
theorem j117 (a0 : List (Int × Int × Int × Int × Int × Int)) (a1 : Bool) (a2 : List (Int × Int × Int × Int × Int × Int)) (a3 : Bool) : j117L a0 a1 a2 a3 = (bif (↑a0.length : Int) != (↑a2.length : Int) then
  some
    (PV.sc (Value.bool false),
      [Blk.row false
          ((Kd.int IntKind.i64).pair
            ((Kd.int IntKind.i64).pair
              ((Kd.int IntKind.i64).pair ((Kd.int IntKind.i64).pair ((Kd.int IntKind.i64).pair (Kd.int IntKind.i64))))))
          a0,
        Blk.row false
          ((Kd.int IntKind.i64).pair
            ((Kd.int IntKind.i64).pair
              ((Kd.int IntKind.i64).pair ((Kd.int IntKind.i64).pair ((Kd.int IntKind.i64).pair (Kd.int IntKind.i64))))))
          a2])
else
  guardB
    (bif decide (0 + a0.length ≤ a0.length) then
      bif decide (0 + a2.length ≤ a2.length) then
        decide
          ((List.take a0.length a0).length = (List.take a2.length a2).length ∧
            (↑a0.length : Int) = (↑(List.take a0.length a0).length : Int) ∧
              (0 : Int) ≤ 0 ∧ 0 ≤ (↑a0.length : Int) ∧ (↑a0.length : Int) ≤ 1000)
      else false
    else false)
    (bif
        sameL (List.drop (Int.toNat 0) (List.take a0.length a0)) (List.drop (Int.toNat 0) (List.take a2.length a2)) then
      some
        (PV.sc (Value.bool true),
          [Blk.row false
              ((Kd.int IntKind.i64).pair
                ((Kd.int IntKind.i64).pair
                  ((Kd.int IntKind.i64).pair
                    ((Kd.int IntKind.i64).pair ((Kd.int IntKind.i64).pair (Kd.int IntKind.i64))))))
              a0,
            Blk.row false
              ((Kd.int IntKind.i64).pair
                ((Kd.int IntKind.i64).pair
                  ((Kd.int IntKind.i64).pair
                    ((Kd.int IntKind.i64).pair ((Kd.int IntKind.i64).pair (Kd.int IntKind.i64))))))
              a2])
    else
      some
        (PV.sc (Value.bool false),
          [Blk.row false
              ((Kd.int IntKind.i64).pair
                ((Kd.int IntKind.i64).pair
                  ((Kd.int IntKind.i64).pair
                    ((Kd.int IntKind.i64).pair ((Kd.int IntKind.i64).pair (Kd.int IntKind.i64))))))
              a0,
            Blk.row false
              ((Kd.int IntKind.i64).pair
                ((Kd.int IntKind.i64).pair
                  ((Kd.int IntKind.i64).pair
                    ((Kd.int IntKind.i64).pair ((Kd.int IntKind.i64).pair (Kd.int IntKind.i64))))))
              a2]))) := by kernel_rfl
noncomputable abbrev k69L (a0 : Int) (a1 : Int) (a2 : List (Int × Int × Int × Int × Int × Int)) (a3 : Bool) (a4 : Int) (a5 : Int) (a6 : List (Int × Int × Int × Int × Int × Int)) (a7 : Bool) := evFuncV Try.prog J4 noCuts Try.f69 (killA 0 [aF, aF]) (showA 0 [aF, aF] ((a0, (a1, ((a2, a3), ()))), ((a4, (a5, ((a6, a7), ()))), ()))).1 (showA 0 [aF, aF] ((a0, (a1, ((a2, a3), ()))), ((a4, (a5, ((a6, a7), ()))), ()))).2
theorem k69 (a0 : Int) (a1 : Int) (a2 : List (Int × Int × Int × Int × Int × Int)) (a3 : Bool) (a4 : Int) (a5 : Int) (a6 : List (Int × Int × Int × Int × Int × Int)) (a7 : Bool) : k69L a0 a1 a2 a3 a4 a5 a6 a7 = (bif a0 == a4 then
  bif a1 == a5 then
    guardB
      (bif decide (0 + a2.length ≤ a2.length) then
        bif decide (0 + a6.length ≤ a6.length) then decide ((List.take a2.length a2).length ≤ 1000) else false
      else false)
      (some
        (PV.sc (Value.bool (sameP (List.take a2.length a2) (List.take a6.length a6))),
          [Blk.row false
              ((Kd.int IntKind.i64).pair
                ((Kd.int IntKind.i64).pair
                  ((Kd.int IntKind.i64).pair
                    ((Kd.int IntKind.i64).pair ((Kd.int IntKind.i64).pair (Kd.int IntKind.i64))))))
              a2,
            Blk.row false
              ((Kd.int IntKind.i64).pair
                ((Kd.int IntKind.i64).pair
                  ((Kd.int IntKind.i64).pair
                    ((Kd.int IntKind.i64).pair ((Kd.int IntKind.i64).pair (Kd.int IntKind.i64))))))
              a6]))
  else
    some
      (PV.sc (Value.bool false),
        [Blk.row false
            ((Kd.int IntKind.i64).pair
              ((Kd.int IntKind.i64).pair
                ((Kd.int IntKind.i64).pair
                  ((Kd.int IntKind.i64).pair ((Kd.int IntKind.i64).pair (Kd.int IntKind.i64))))))
            a2,
          Blk.row false
            ((Kd.int IntKind.i64).pair
              ((Kd.int IntKind.i64).pair
                ((Kd.int IntKind.i64).pair
                  ((Kd.int IntKind.i64).pair ((Kd.int IntKind.i64).pair (Kd.int IntKind.i64))))))
            a6])
else
  some
    (PV.sc (Value.bool false),
      [Blk.row false
          ((Kd.int IntKind.i64).pair
            ((Kd.int IntKind.i64).pair
              ((Kd.int IntKind.i64).pair ((Kd.int IntKind.i64).pair ((Kd.int IntKind.i64).pair (Kd.int IntKind.i64))))))
          a2,
        Blk.row false
          ((Kd.int IntKind.i64).pair
            ((Kd.int IntKind.i64).pair
              ((Kd.int IntKind.i64).pair ((Kd.int IntKind.i64).pair ((Kd.int IntKind.i64).pair (Kd.int IntKind.i64))))))
          a6])) := by kernel_rfl
noncomputable abbrev k12L (a0 : ByteArray) := evFuncV Try.prog J5 noCuts Try.f12 (killA 0 [sS]) (showA 0 [sS] (a0, ())).1 (showA 0 [sS] (a0, ())).2
theorem k12 (a0 : ByteArray) : k12L a0 = (guardB (bp ((0 : Int) ≤ 7 ∧ (7 : Int) < 18446744073709551616 ∧ (0 : Int) ≤ 7 ∧ 7 ≤ (↑8 : Int) ∧ 8 ≤ 8))
  (guardB (bp ((0 : Int) ≤ 7 ∧ (7 : Int) < 18446744073709551616 ∧ (0 : Int) ≤ 7 ∧ 7 ≤ (↑8 : Int) ∧ 8 ≤ 8))
    (guardB (bp ((0 : Int) ≤ 44977 ∧ (44977 : Int) < 18446744073709551616 ∧ (0 : Int) ≤ 2 ∧ 2 ≤ (↑8 : Int) ∧ 8 ≤ 8))
      (guardB (bp ((ByteArray.mk #[83, 87] ++ bytS 7 7 ++ bytS 44977 2).size ≤ 140737488355328))
        (bif decE (ByteArray.mk #[83, 87] ++ bytS 7 7 ++ bytS 44977 2) != 0 then
          bif decE (ByteArray.mk #[83, 87] ++ bytS 7 7 ++ bytS 44977 2) != 8 then some (PV.sc (Value.bool false), [])
          else
            guardB (bp (a0.size ≤ 140737488355328))
              (bif decE a0 != 0 then
                guardB (bp (a0.size ≤ 140737488355328))
                  (bif decE a0 != 0 then
                    bif decE a0 == decE a0 then some (PV.sc (Value.bool true), [])
                    else some (PV.sc (Value.bool false), [])
                  else
                    bif decE a0 == 0 then
                      bif 0 == nI a0 + 2 then
                        guardB (bif decide (0 + (decL a0).length ≤ (decL a0).length) then true else false)
                          (some
                            (PV.sc
                                (Value.bool
                                  (0 == rI a0 && (0 == tI a0 && sameP [] (List.take (decL a0).length (decL a0))))),
                              []))
                      else some (PV.sc (Value.bool false), [])
                    else some (PV.sc (Value.bool false), []))
              else
                guardB (bp (a0.size ≤ 140737488355328))
                  (bif decE a0 != 0 then
                    bif 0 == decE a0 then
                      bif nI a0 + 2 == 0 then
                        guardB
                          (bif decide (0 + (decL a0).length ≤ (decL a0).length) then
                            decide ((List.take (decL a0).length (decL a0)).length ≤ 1000)
                          else false)
                          (some
                            (PV.sc
                                (Value.bool
                                  (rI a0 == 0 && (tI a0 == 0 && sameP (List.take (decL a0).length (decL a0)) []))),
                              []))
                      else some (PV.sc (Value.bool false), [])
                    else some (PV.sc (Value.bool false), [])
                  else
                    bif nI a0 + 2 == nI a0 + 2 then
                      guardB
                        (bif decide (0 + (decL a0).length ≤ (decL a0).length) then
                          bif decide (0 + (decL a0).length ≤ (decL a0).length) then
                            decide ((List.take (decL a0).length (decL a0)).length ≤ 1000)
                          else false
                        else false)
                        (some
                          (PV.sc
                              (Value.bool
                                (rI a0 == rI a0 &&
                                  (tI a0 == tI a0 &&
                                    sameP (List.take (decL a0).length (decL a0))
                                      (List.take (decL a0).length (decL a0))))),
                            []))
                    else some (PV.sc (Value.bool false), [])))
        else some (PV.sc (Value.bool false), [])))))) := by kernel_rfl
theorem p117a (l : List P6) (ln : Bool) (m : List P6) (mn : Bool) (n i : Int) (b : Bool) (h : l.length = m.length ∧ n = (l.length : Int) ∧ 0 ≤ i ∧ i ≤ n ∧ n ≤ 1000) : j117aL l ln m mn n i b = pickA (cSp ((l, ln), (m, mn), n, i, b, ())).2 := by
  obtain ⟨h1, h2, h3, h4, h5⟩ := h
  show _ = cond (sameL (l.drop i.toNat) (m.drop i.toNat)) (some (Xt.exit 0, [PV.sc (.bool b)], [Blk.row false kP l, Blk.row false kP m])) (some (Xt.ret, [PV.sc (.bool false)], [Blk.row false kP l, Blk.row false kP m]))
  rw [j117a]
  refine cond_split (fun h => ?_) (fun h => ?_)
  · have h := of_decide_eq_true h
    obtain ⟨x, hx⟩ := get_ex (l := l) (k := i.toNat) (by omega)
    obtain ⟨y, hy⟩ := get_ex (l := m) (k := i.toNat) (by omega)
    rw [Nat.zero_add, hx, hy, drop_cons hx, drop_cons hy]
    simp only [bindO, List.take_length, Nat.zero_add, len_true, cond_true]
    rw [IntWalk.i64_in (i + 1) (by omega), show (i + 1).toNat = i.toNat + 1 by omega, sameL]
    obtain ⟨x1, x2, x3, x4, x5, x6⟩ := x
    obtain ⟨y1, y2, y3, y4, y5, y6⟩ := y
    have e : (x1 == y1 && (x2 == y2 && (x3 == y3 && (x4 == y4 && (x5 == y5 && (x6 == y6 && true)))))) = decide ((x1, x2, x3, x4, x5, x6) = (y1, y2, y3, y4, y5, y6)) := by
      rw [Bool.eq_iff_iff]; simp
    refine guard_split (by simp; omega) (guard_split (by simp; omega) ?_)
    show cond (!(x1 == y1 && (x2 == y2 && (x3 == y3 && (x4 == y4 && (x5 == y5 && (x6 == y6 && true))))))) _ _ = _
    rw [e]
    cases decide ((x1, x2, x3, x4, x5, x6) = (y1, y2, y3, y4, y5, y6)) with
    | false => rfl
    | true =>
      simp only [Bool.not_true, cond_false, Bool.true_and]
      refine guard_split (decide_eq_true (show (n - (i + 1)).toNat < (n - i).toNat by omega)) (guard_split (decide_eq_true ⟨h1, h2, by omega, by omega, h5⟩) ?_)
      rfl
  · have h := of_decide_eq_false h
    rw [List.drop_eq_nil_of_le (by omega)]; rfl
theorem in117 : CutOK Try.prog Try.f117.ntmps (codeAt 0 (bodyF Try.f117)) [0, 1, 12, 13, 4] [4] (entC kSp cSp) :=
  loop_cutW (kill := killA 0 kSp) J3_ok mixed muSp (by kernel_rfl) (noCuts_ok _) fun v h => p117a v.1.1 v.1.2 v.2.1.1 v.2.1.2 v.2.2.1 v.2.2.2.1 v.2.2.2.2.1 (of_decide_eq_true h)
theorem p117 (l : List P6) (ln : Bool) (m : List P6) (mn : Bool) (h : l.length ≤ 1000) : j117L l ln m mn = some (PV.sc (.bool (sameP l m)), [Blk.row false kP l, Blk.row false kP m]) := by
  rw [j117]
  unfold sameP
  simp only [List.take_length, Nat.zero_add, len_true, cond_true, Int.toNat_zero, List.drop_zero]
  cases hb : ((l.length : Int) != (m.length : Int)) with
  | true => rfl
  | false =>
    have hb : (l.length : Int) = (m.length : Int) := by simpa using hb
    simp only [cond_false]
    refine guard_split (decide_eq_true ⟨by omega, by trivial, by omega, by omega, by omega⟩) ?_
    cases sameL l m <;> rfl
theorem J4_ok : TableOK Try.prog J4 :=
  ext_ok (entV_ok Try.call66 (liftV (kill := killA 0 [sS]) J3_ok mixed Try.func66 (show Try.f66.body = some (bodyF Try.f66) from rfl) (cut_cons (by kernel_rfl) in66 (noCuts_ok _)) (by decide) fun v h => p66 v.1 (bp_true.1 h))) <|
  ext_ok (entV_ok Try.call68 (liftV (kill := killA 0 [sS]) J3_ok mixed Try.func68 (show Try.f68.body = some (bodyF Try.f68) from rfl) (cut_cons (by kernel_rfl) in68 (noCuts_ok _)) (by decide) fun v h => p68 v.1 (bp_true.1 h))) <|
  ext_ok (entV_ok Try.call117 (liftV J3_ok mixed Try.func117 (show Try.f117.body = some (bodyF Try.f117) from rfl) (cut_cons (by kernel_rfl) in117 (noCuts_ok _)) (by decide) fun v h => p117 v.1.1 v.1.2 v.2.1.1 v.2.1.2 (of_decide_eq_true h))) J3_ok
theorem p69 (r t : Int) (l : List P6) (ln : Bool) (r' t' : Int) (m : List P6) (mn : Bool) (h : l.length ≤ 1000) : k69L r t l ln r' t' m mn = some (PV.sc (.bool ((r == r') && ((t == t') && sameP l m))), [Blk.row false kP l, Blk.row false kP m]) := by
  rw [k69]
  simp only [List.take_length, Nat.zero_add, len_true, cond_true]
  cases (r == r') with
  | false => rfl
  | true => cases (t == t') with
    | false => rfl
    | true => exact guard_split (decide_eq_true h) rfl
theorem J5_ok : TableOK Try.prog J5 :=
  ext_ok (entV_ok Try.call69 (liftV J4_ok mixed Try.func69 (show Try.f69.body = some (bodyF Try.f69) from rfl) (noCuts_ok _) (by decide) fun v h => p69 v.1.1 v.1.2.1 v.1.2.2.1.1 v.1.2.2.1.2 v.2.1.1 v.2.1.2.1 v.2.1.2.2.1.1 v.2.1.2.2.1.2 (of_decide_eq_true h))) J4_ok
theorem plsT_len (s : ByteArray) (r t : Int) : ∀ (c : Nat) (i : Int), (plsT s r t i c).length ≤ c
  | 0, i => by rw [plsT]; simp
  | c + 1, i => by
    rw [plsT]
    cases plO s (9 + i * 16) r t with
    | false => simp
    | true => have := plsT_len s r t c (i + 1); simp only [cond_true, List.length_cons]; omega
theorem dec_len (s : ByteArray) (h : decE s = 0) : (decL s).length ≤ 1000 := by
  rw [decE_eq] at h
  unfold decE0 at h
  cases h1 : swP (bytesI s) with
  | false => rw [h1] at h; cases h
  | true => cases h2 : decide ((s.size : Int) < 9) with
    | true => rw [h1, h2] at h; cases h
    | false => cases h3 : (decide (tI s > 200000) || decide (mI s > 32)) with
      | true => rw [h1, h2, h3] at h; cases h
      | false =>
        rw [Bool.or_eq_false_iff] at h3
        have hm : ¬ mI s > 32 := of_decide_eq_false h3.2
        have := plsT_len s (rI s) (tI s) (mI s).toNat 0
        unfold decL
        omega
theorem sameL_self : ∀ l : List P6, sameL l l = true
  | [] => rfl
  | x :: r => by rw [sameL, sameL_self r]; simp
theorem sameP_self (l : List P6) : sameP l l = true := by unfold sameP; rw [bne_self_eq_false, sameL_self]; rfl
theorem s0_bytes : bytesI (ByteArray.mk #[83, 87] ++ bytS 7 7 ++ bytS 44977 2) = [83, 87, 0, 0, 0, 0, 0, 0, 7, 175, 177] := by
  rw [bytes_app, bytes_app]
  have e1 : bytesI (bytS 7 7) = [0, 0, 0, 0, 0, 0, 7] := by decide +kernel
  have e2 : bytesI (bytS 44977 2) = [175, 177] := by decide +kernel
  rw [e1, e2]; decide +kernel
theorem s0_err : decE (ByteArray.mk #[83, 87] ++ bytS 7 7 ++ bytS 44977 2) = 8 := by
  have hb := s0_bytes
  have hl := bytes_len (ByteArray.mk #[83, 87] ++ bytS 7 7 ++ bytS 44977 2)
  rw [decE_eq]
  generalize ByteArray.mk #[83, 87] ++ bytS 7 7 ++ bytS 44977 2 = s at *
  rw [hb] at hl
  have hz : s.size = 11 := hl.symm
  have ht : tI s = 0 := by
    show getN s ((3 : Nat) : Int) ((4 : Nat) : Int) = 0
    rw [getN_seg, show seg s 3 4 = [0, 0, 0, 0] by show ((bytesI s).drop 3).take 4 = _; rw [hb]; rfl]; rfl
  have hm : mI s = 7 + 0 * 256 := by
    show getN s ((7 : Nat) : Int) ((2 : Nat) : Int) = _
    rw [getN_seg, show seg s 7 2 = [0, 7] by show ((bytesI s).drop 7).take 2 = _; rw [hb]; rfl]; rfl
  unfold decE0
  have hn : nI s = 121 := by unfold nI; rw [hm]; rfl
  rw [hb, hz, ht, hm, hn]; rfl
theorem law_at (s : ByteArray) (h : s.size ≤ 140737488355328) : k12L s = some (PV.sc (.bool true), []) := by
  have hz : (ByteArray.mk #[83, 87] ++ bytS 7 7 ++ bytS 44977 2).size ≤ 140737488355328 := by
    rw [← bytes_len, s0_bytes]; show 11 ≤ _; omega
  rw [k12, s0_err]
  refine guard_split (bp_mk ⟨by omega, by omega, by omega, by decide, by omega⟩) (guard_split (bp_mk ⟨by omega, by omega, by omega, by decide, by omega⟩) (guard_split (bp_mk ⟨by omega, by omega, by omega, by decide, by omega⟩) (guard_split (bp_mk hz) ?_)))
  show guardB _ _ = _
  refine guard_split (bp_mk h) ?_
  cases hb : (decE s != 0) with
  | true =>
    simp only [cond_true]
    refine guard_split (bp_mk h) ?_
    rw [beq_self_eq_true]; rfl
  | false =>
    have he : decE s = 0 := by simpa using hb
    have hl := dec_len s he
    simp only [cond_false]
    refine guard_split (bp_mk h) ?_
    rw [beq_self_eq_true, beq_self_eq_true, beq_self_eq_true]
    simp only [cond_true, List.take_length, Nat.zero_add, len_true, sameP_self, Bool.and_self]
    exact guard_split (decide_eq_true hl) rfl
theorem lawOK (v : denA [(.s (.v ⟨false, Kd.str⟩))]) (h : gStr v.1 ∧ True) : ∃ H', CallOK Try.prog 12 (showA 0 [(.s (.v ⟨false, Kd.str⟩))] v).1 (showA 0 [(.s (.v ⟨false, Kd.str⟩))] v).2 (.sc (.bool true)) H' := by
  obtain ⟨s, ⟨⟩⟩ := v
  obtain ⟨h1, _⟩ := h
  have h1 : s.size ≤ 140737488351232 := h1
  exact ⟨_, evFuncV_sound J5_ok mixed Try.func12 (show Try.f12.body = some (bodyF Try.f12) from rfl) (noCuts_ok _) (law_at s (by omega)) (by rw [showA_len]; decide)⟩
end Go.Proofs.YtacdahpjmeianaaWi
