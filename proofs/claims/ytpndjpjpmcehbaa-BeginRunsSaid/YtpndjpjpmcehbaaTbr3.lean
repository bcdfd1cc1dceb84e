/- What is proved: the reference's confirming is what the plain functions say; the law BeginRuns answers true on every input that can be read. No condition. -/
import Derived.Test.YtpndjpjpmcehbaaTbr2
import Derived.Test.YtpndjpjpmcehbaaEvZd
namespace Go.Proofs.YtpndjpjpmcehbaaBr
open Go Go.Proofs Go.Proofs.YtpndjpjpmcehbaaEv
set_option maxRecDepth 100000
set_option linter.unusedSimpArgs false
set_option linter.unusedVariables false
noncomputable abbrev b80lL (a0 : List Bool) (a1 : Bool) (a2 : Int) (a3 : Int) (a4 : List Bool) (a5 : Bool) (a6 : Int) (a7 : Int) := evRound Try.prog T0 noCuts 27 (loopOf (codeAt 0 (bodyF Try.f80))) k80c mu80 (killA 0 k80c) [0, 1, 4, 7, 8, 9] [4] c80 ((a0, a1), (a2, (a3, ((a4, a5), (a6, (a7, ()))))))
theorem b80l (a0 : List Bool) (a1 : Bool) (a2 : Int) (a3 : Int) (a4 : List Bool) (a5 : Bool) (a6 : Int) (a7 : Int) : b80lL a0 a1 a2 a3 a4 a5 a6 a7 = (bif decide (a7 < a6) then
  guardB (decide (0 ≤ a7) && decide (a7 < (↑a4.length : Int)))
    (bindO a4[0 + a7.toNat]? fun x =>
      bif x then
        bif decide (a7 ≥ IntKind.i64.wrap ((↑a0.length : Int) - a2)) then
          guardB
            (decide
              (mu80
                  ((List.take a0.length a0, a1), a2, IntKind.i64.wrap (a3 + 1), (List.take a4.length a4, a5), a6,
                    IntKind.i64.wrap (a7 + 1), PUnit.unit) <
                mu80 ((a0, a1), a2, a3, (a4, a5), a6, a7, ())))
            (guardB
              (bif decide (0 + a0.length ≤ a0.length) then
                bif decide (0 + a4.length ≤ a4.length) then
                  pre80 (List.take a0.length a0) a2 (IntKind.i64.wrap (a3 + 1)) (List.take a4.length a4) a6
                    (IntKind.i64.wrap (a7 + 1))
                else false
              else false)
              (some
                (Xt.exit 0,
                  [PV.sc
                      (Value.int IntKind.i64
                        (IntKind.i64.wrap (a3 + 1) +
                          (↑(cnt
                                (List.drop
                                  (max (IntKind.i64.wrap (a7 + 1)).toNat ((List.take a0.length a0).length - a2.toNat))
                                  (List.take a0.length a0))) : Int)))],
                  [Blk.row false Kd.bool a0, Blk.fix false [PV.sc (Value.int IntKind.i64 a2)],
                    Blk.row false Kd.bool a4])))
        else
          guardB
            (decide
              (mu80
                  ((List.take a0.length a0, a1), a2, a3, (List.take a4.length a4, a5), a6, IntKind.i64.wrap (a7 + 1),
                    PUnit.unit) <
                mu80 ((a0, a1), a2, a3, (a4, a5), a6, a7, ())))
            (guardB
              (bif decide (0 + a0.length ≤ a0.length) then
                bif decide (0 + a4.length ≤ a4.length) then
                  pre80 (List.take a0.length a0) a2 a3 (List.take a4.length a4) a6 (IntKind.i64.wrap (a7 + 1))
                else false
              else false)
              (some
                (Xt.exit 0,
                  [PV.sc
                      (Value.int IntKind.i64
                        (a3 +
                          (↑(cnt
                                (List.drop
                                  (max (IntKind.i64.wrap (a7 + 1)).toNat ((List.take a0.length a0).length - a2.toNat))
                                  (List.take a0.length a0))) : Int)))],
                  [Blk.row false Kd.bool a0, Blk.fix false [PV.sc (Value.int IntKind.i64 a2)],
                    Blk.row false Kd.bool a4])))
      else
        guardB
          (decide
            (mu80
                ((List.take a0.length a0, a1), a2, a3, (List.take a4.length a4, a5), a6, IntKind.i64.wrap (a7 + 1),
                  PUnit.unit) <
              mu80 ((a0, a1), a2, a3, (a4, a5), a6, a7, ())))
          (guardB
            (bif decide (0 + a0.length ≤ a0.length) then
              bif decide (0 + a4.length ≤ a4.length) then
                pre80 (List.take a0.length a0) a2 a3 (List.take a4.length a4) a6 (IntKind.i64.wrap (a7 + 1))
              else false
            else false)
            (some
              (Xt.exit 0,
                [PV.sc
                    (Value.int IntKind.i64
                      (a3 +
                        (↑(cnt
                              (List.drop
                                (max (IntKind.i64.wrap (a7 + 1)).toNat ((List.take a0.length a0).length - a2.toNat))
                                (List.take a0.length a0))) : Int)))],
                [Blk.row false Kd.bool a0, Blk.fix false [PV.sc (Value.int IntKind.i64 a2)],
                  Blk.row false Kd.bool a4]))))
else
  some
    (Xt.exit 0, [PV.sc (Value.int IntKind.i64 a3)],
      [Blk.row false Kd.bool a0, Blk.fix false [PV.sc (Value.int IntKind.i64 a2)], Blk.row false Kd.bool a4])) := by kernel_rfl
noncomputable abbrev b80L (a0 : List Bool) (a1 : Bool) (a2 : Int) := evFuncV Try.prog T0 (addCut 0 [0, 1, 4, 7, 8, 9] [4] (entC k80c c80) noCuts) Try.f80 (killA 0 k80) (showA 0 k80 ((a0, a1), (a2, ()))).1 (showA 0 k80 ((a0, a1), (a2, ()))).2
theorem b80 (a0 : List Bool) (a1 : Bool) (a2 : Int) : b80L a0 a1 a2 = (guardB
  (bif decide (0 + a0.length ≤ a0.length) then
    bif decide (0 + a0.length ≤ a0.length) then
      pre80 (List.take a0.length a0) a2 0 (List.take a0.length a0) (↑a0.length : Int) 0
    else false
  else false)
  (some
    (PV.sc
        (Value.int IntKind.i64
          (0 +
            (↑(cnt
                  (List.drop (max (Int.toNat 0) ((List.take a0.length a0).length - a2.toNat))
                    (List.take a0.length a0))) : Int))),
      [Blk.row false Kd.bool a0, Blk.fix false [PV.sc (Value.int IntKind.i64 a2)]]))) := by kernel_rfl
noncomputable abbrev b36blL (a0 : List Bool) (a1 : Bool) (a2 : Int) (a3 : Int) := evRound Try.prog T5 noCuts 57 (loopOf (codeAt 2 (bodyF Try.f36))) k36b mu36b (killA 0 k36b) [0, 9, 10] [9] c36b ((a0, a1), (a2, (a3, ())))
theorem b36bl (a0 : List Bool) (a1 : Bool) (a2 : Int) (a3 : Int) : b36blL a0 a1 a2 a3 = (bif decide (a3 < (↑a0.length : Int)) then
  guardB (decide (0 ≤ a3) && decide (a3 < (↑a0.length : Int)))
    (bindO a0[0 + a3.toNat]? fun x =>
      bif x then
        guardB
          (decide
            (mu36b ((List.take a0.length a0, a1), IntKind.i64.wrap (a2 + 1), IntKind.i64.wrap (a3 + 1), PUnit.unit) <
              mu36b ((a0, a1), a2, a3, ())))
          (guardB
            (bif decide (0 + a0.length ≤ a0.length) then
              pre36b (List.take a0.length a0) (IntKind.i64.wrap (a2 + 1)) (IntKind.i64.wrap (a3 + 1))
            else false)
            (some
              (Xt.exit 2,
                [PV.sc
                    (Value.int IntKind.i64
                      (IntKind.i64.wrap (a2 + 1) +
                        (↑(cnt (List.drop (IntKind.i64.wrap (a3 + 1)).toNat (List.take a0.length a0))) : Int)))],
                [Blk.row false Kd.bool a0])))
      else
        guardB
          (decide
            (mu36b ((List.take a0.length a0, a1), a2, IntKind.i64.wrap (a3 + 1), PUnit.unit) <
              mu36b ((a0, a1), a2, a3, ())))
          (guardB
            (bif decide (0 + a0.length ≤ a0.length) then pre36b (List.take a0.length a0) a2 (IntKind.i64.wrap (a3 + 1))
            else false)
            (some
              (Xt.exit 2,
                [PV.sc
                    (Value.int IntKind.i64
                      (a2 + (↑(cnt (List.drop (IntKind.i64.wrap (a3 + 1)).toNat (List.take a0.length a0))) : Int)))],
                [Blk.row false Kd.bool a0]))))
else some (Xt.exit 2, [PV.sc (Value.int IntKind.i64 a2)], [Blk.row false Kd.bool a0])) := by kernel_rfl
noncomputable abbrev b36alL (a0 : List Bool) (a1 : Bool) (a2 : Int) (a3 : Int) (a4 : Int) (a5 : List Bool) (a6 : Bool) (a7 : Int) (a8 : Int) := evRound Try.prog T5 (addCut 2 [0, 9, 10] [9] (entC k36b c36b) noCuts) 57 (loopOf (codeAt 0 (bodyF Try.f36))) k36a mu36a (killA 0 k36a) [0, 1, 5, 7, 8, 25, 26] [6] c36a ((a0, a1), (a2, (a3, ((a4, ()), ((a5, a6), (a7, (a8, ())))))))
theorem b36al (a0 : List Bool) (a1 : Bool) (a2 : Int) (a3 : Int) (a4 : Int) (a5 : List Bool) (a6 : Bool) (a7 : Int) (a8 : Int) : b36alL a0 a1 a2 a3 a4 a5 a6 a7 a8 = (bif decide (a8 < a7) then
  guardB
    (decide (0 + a5.length ≤ a5.length) && true && decide ((a5.length + 1) * 1 ≤ 140737488355328) &&
      decide (a5.length + 1 ≤ 4611686018427387904))
    (guardB
      (bif decide (0 + a0.length ≤ a0.length) then
        pre36b (List.take a0.length a0) 0 (IntKind.i64.wrap ((↑(a5.length + 1) : Int) - a3))
      else false)
      (bif
          decide
            (0 +
                (↑(cnt (List.drop (IntKind.i64.wrap ((↑(a5.length + 1) : Int) - a3)).toNat (List.take a0.length a0))) : Int) >
              0) then
        guardB
          (bif decide (0 + (a5.length + 1) ≤ (List.take a5.length a5 ++ [true]).length) then
            pre80f (List.take (a5.length + 1) (List.take a5.length a5 ++ [true])) a4
          else false)
          (bif
              decide
                ((↑(last (List.take (a5.length + 1) (List.take a5.length a5 ++ [true])) a4.toNat) : Int) ≥ a2) then
            some
              (Xt.ret, [PV.sc (Value.int IntKind.i64 0)],
                [Blk.row false Kd.bool a0, Blk.fix false [PV.sc (Value.int IntKind.i64 a3)],
                  Blk.fix false [PV.sc (Value.int IntKind.i64 a4)], Blk.dead])
          else
            guardB
              (decide
                (mu36a
                    ((List.take a0.length a0, a1), a2, a3, (a4, PUnit.unit), (List.take a5.length a5 ++ [true], false),
                      a7, IntKind.i64.wrap (a8 + 1), PUnit.unit) <
                  mu36a ((a0, a1), a2, a3, (a4, ()), (a5, a6), a7, a8, ())))
              (guardB
                (bif decide (0 + a0.length ≤ a0.length) then
                  bif decide (a5.length + 1 = (List.take a5.length a5 ++ [true]).length) then
                    pre36a (List.take a0.length a0) a2 a3 a4 (List.take a5.length a5 ++ [true]) a7
                      (IntKind.i64.wrap (a8 + 1))
                  else false
                else false)
                (bif
                    !soonK (fun j => last (List.take a0.length a0) (a3.toNat - j)) a2
                        (Int.toNat (a7 - IntKind.i64.wrap (a8 + 1))) ((IntKind.i64.wrap (a8 + 1)).toNat + 1) then
                  some
                    (Xt.exit 0, [PV.undef],
                      [Blk.row false Kd.bool a0, Blk.fix false [PV.sc (Value.int IntKind.i64 a3)],
                        Blk.fix false [PV.sc (Value.int IntKind.i64 a4)], Blk.dead])
                else
                  some
                    (Xt.ret, [PV.sc (Value.int IntKind.i64 0)],
                      [Blk.row false Kd.bool a0, Blk.fix false [PV.sc (Value.int IntKind.i64 a3)],
                        Blk.fix false [PV.sc (Value.int IntKind.i64 a4)], Blk.dead]))))
      else
        guardB
          (decide
            (mu36a
                ((List.take a0.length a0, a1), a2, a3, (a4, PUnit.unit), (List.take a5.length a5 ++ [true], false), a7,
                  IntKind.i64.wrap (a8 + 1), PUnit.unit) <
              mu36a ((a0, a1), a2, a3, (a4, ()), (a5, a6), a7, a8, ())))
          (guardB
            (bif decide (0 + a0.length ≤ a0.length) then
              bif decide (a5.length + 1 = (List.take a5.length a5 ++ [true]).length) then
                pre36a (List.take a0.length a0) a2 a3 a4 (List.take a5.length a5 ++ [true]) a7
                  (IntKind.i64.wrap (a8 + 1))
              else false
            else false)
            (bif
                !soonK (fun j => last (List.take a0.length a0) (a3.toNat - j)) a2
                    (Int.toNat (a7 - IntKind.i64.wrap (a8 + 1))) ((IntKind.i64.wrap (a8 + 1)).toNat + 1) then
              some
                (Xt.exit 0, [PV.undef],
                  [Blk.row false Kd.bool a0, Blk.fix false [PV.sc (Value.int IntKind.i64 a3)],
                    Blk.fix false [PV.sc (Value.int IntKind.i64 a4)], Blk.dead])
            else
              some
                (Xt.ret, [PV.sc (Value.int IntKind.i64 0)],
                  [Blk.row false Kd.bool a0, Blk.fix false [PV.sc (Value.int IntKind.i64 a3)],
                    Blk.fix false [PV.sc (Value.int IntKind.i64 a4)], Blk.dead])))))
else
  some
    (Xt.exit 0, [PV.undef],
      [Blk.row false Kd.bool a0, Blk.fix false [PV.sc (Value.int IntKind.i64 a3)],
        Blk.fix false [PV.sc (Value.int IntKind.i64 a4)], Blk.dead])) := by kernel_rfl
noncomputable abbrev b36L (a0 : List Bool) (a1 : Bool) (a2 : Int) (a3 : Int) := evFuncV Try.prog T5 (addCut 0 [0, 1, 5, 7, 8, 25, 26] [6] (entC k36a c36a) noCuts) Try.f36 (killA 0 k36) (showA 0 k36 ((a0, a1), (a2, (a3, ())))).1 (showA 0 k36 ((a0, a1), (a2, (a3, ())))).2
theorem b36 (a0 : List Bool) (a1 : Bool) (a2 : Int) (a3 : Int) : b36L a0 a1 a2 a3 = (guardB (bif decide (0 + a0.length ≤ a0.length) then pre80f (List.take a0.length a0) a3 else false)
  (bif decide ((↑(last (List.take a0.length a0) a3.toNat) : Int) ≥ a2) then
    some (PV.sc (Value.int IntKind.i64 1), [Blk.row false Kd.bool a0])
  else
    bif decide ((↑a0.length : Int) < a3) then some (PV.sc (Value.int IntKind.i64 0), [Blk.row false Kd.bool a0])
    else
      guardB
        (decide (0 + a0.length ≤ a0.length) && decide ((0 + a0.length) * 1 ≤ 140737488355328) &&
          decide (0 + a0.length ≤ 4611686018427387904))
        (bif decide (1 ≤ a0.length) then
          guardB
            (bif decide (0 + a0.length ≤ a0.length) then
              bif decide (0 + a0.length = (List.take a0.length a0).length) then
                pre36a (List.take a0.length a0) a2 a3 a3 (List.take a0.length a0) (IntKind.i64.wrap (a3 - 1)) 0
              else false
            else false)
            (bif
                !soonK (fun j => last (List.take a0.length a0) (a3.toNat - j)) a2
                    (Int.toNat (IntKind.i64.wrap (a3 - 1) - 0)) (Int.toNat 0 + 1) then
              some (PV.sc (Value.int IntKind.i64 2), [Blk.row false Kd.bool a0])
            else some (PV.sc (Value.int IntKind.i64 0), [Blk.row false Kd.bool a0]))
        else
          guardB
            (bif decide (0 + a0.length ≤ a0.length) then
              bif decide (0 + a0.length = (List.take a0.length a0).length) then
                pre36a (List.take a0.length a0) a2 a3 a3 (List.take a0.length a0) (IntKind.i64.wrap (a3 - 1)) 0
              else false
            else false)
            (bif
                !soonK (fun j => last (List.take a0.length a0) (a3.toNat - j)) a2
                    (Int.toNat (IntKind.i64.wrap (a3 - 1) - 0)) (Int.toNat 0 + 1) then
              some (PV.sc (Value.int IntKind.i64 2), [Blk.row false Kd.bool a0])
            else some (PV.sc (Value.int IntKind.i64 0), [Blk.row false Kd.bool a0]))))) := by kernel_rfl
noncomputable abbrev b28L (a0 : Int) (a1 : Int) (a2 : Int) := evFuncV Try.prog T0 noCuts Try.f28 (killA 0 [sI, sI, sI]) (showA 0 [sI, sI, sI] (a0, (a1, (a2, ())))).1 (showA 0 [sI, sI, sI] (a0, (a1, (a2, ())))).2
theorem b28 (a0 : Int) (a1 : Int) (a2 : Int) : b28L a0 a1 a2 = (bif decide (a0 ≥ a1) then some (PV.sc (Value.bool (decide (a0 ≤ a2))), []) else some (PV.sc (Value.bool false), [])) := by kernel_rfl
noncomputable abbrev b6lL (a0 : List Bool) (a1 : Bool) (a2 : Int) (a3 : Int) (a4 : Int) (a5 : Int) (a6 : Int) (a7 : Int) := evRound Try.prog TF noCuts 105 (loopOf (codeAt 0 (bodyF Try.f6))) k6 mu6 (killA 0 k6) [0, 1, 2, 10, 11, 12, 13] [6] c6 ((a0, a1), (a2, (a3, (a4, (a5, (a6, (a7, ())))))))
theorem b6l (a0 : List Bool) (a1 : Bool) (a2 : Int) (a3 : Int) (a4 : Int) (a5 : Int) (a6 : Int) (a7 : Int) : b6lL a0 a1 a2 a3 a4 a5 a6 a7 = (bif decide (a7 ≤ (↑a0.length : Int)) then
  guardB (decide (0 ≤ a7) && decide (a7 ≤ (↑a0.length : Int)))
    (guardB (bif decide (0 + (a7.toNat - 0) ≤ a0.length) then pre36 (List.take (a7.toNat - 0) a0) a2 a3 else false)
      (bif whatL (List.take (a7.toNat - 0) a0) a2 a3.toNat != 0 then
        bif a6 == 0 then
          bif a4 == a7 then
            some
              (Xt.ret, [PV.sc (Value.bool (a5 == whatL (List.take (a7.toNat - 0) a0) a2 a3.toNat))],
                [Blk.row false Kd.bool a0])
          else some (Xt.ret, [PV.sc (Value.bool false)], [Blk.row false Kd.bool a0])
        else some (Xt.ret, [PV.sc (Value.bool false)], [Blk.row false Kd.bool a0])
      else
        guardB
          (decide
            (mu6 ((List.take a0.length a0, a1), a2, a3, a4, a5, a6, IntKind.i64.wrap (a7 + 1), PUnit.unit) <
              mu6 ((a0, a1), a2, a3, a4, a5, a6, a7, ())))
          (guardB
            (bif decide (0 + a0.length ≤ a0.length) then
              pre6 (List.take a0.length a0) a2 a3 a4 a5 a6 (IntKind.i64.wrap (a7 + 1))
            else false)
            (bif (outK (List.take a0.length a0) a2 a3 (IntKind.i64.wrap (a7 + 1) - 1)).isNone then
              some (Xt.exit 0, [PV.undef], [Blk.row false Kd.bool a0])
            else some (Xt.ret, [PV.sc (Value.bool true)], [Blk.row false Kd.bool a0])))))
else some (Xt.exit 0, [PV.undef], [Blk.row false Kd.bool a0])) := by kernel_rfl
noncomputable abbrev b6L (a0 : List Bool) (a1 : Bool) (a2 : Int) (a3 : Int) := evFuncV Try.prog TF (addCut 0 [0, 1, 2, 10, 11, 12, 13] [6] (entC k6 c6) noCuts) Try.f6 (killA 0 k34) (showA 0 k34 ((a0, a1), (a2, (a3, ())))).1 (showA 0 k34 ((a0, a1), (a2, (a3, ())))).2
theorem b6 (a0 : List Bool) (a1 : Bool) (a2 : Int) (a3 : Int) : b6L a0 a1 a2 a3 = (bif decide ((↑a0.length : Int) > 16) then
  guardB (decide (16 ≤ (↑a0.length : Int)))
    (guardB (bif decide (16 ≤ a0.length) then preN (List.take 16 a0) else false)
      (bif !decide (1 ≤ a3 ∧ a3 ≤ 16) then
        bif (runS (List.take 16 a0) a2 a3).snd.snd == 4 then
          bif ruleS a2 a3 == 4 then
            bif (runS (List.take 16 a0) a2 a3).fst == 0 then
              some (PV.sc (Value.bool ((runS (List.take 16 a0) a2 a3).snd.fst == 0)), [Blk.row false Kd.bool a0])
            else some (PV.sc (Value.bool false), [Blk.row false Kd.bool a0])
          else some (PV.sc (Value.bool false), [Blk.row false Kd.bool a0])
        else some (PV.sc (Value.bool false), [Blk.row false Kd.bool a0])
      else
        bif !decide (1 ≤ a2 ∧ a2 ≤ a3) then
          bif (runS (List.take 16 a0) a2 a3).snd.snd == 4 then
            bif ruleS a2 a3 == 4 then
              bif (runS (List.take 16 a0) a2 a3).fst == 0 then
                some (PV.sc (Value.bool ((runS (List.take 16 a0) a2 a3).snd.fst == 0)), [Blk.row false Kd.bool a0])
              else some (PV.sc (Value.bool false), [Blk.row false Kd.bool a0])
            else some (PV.sc (Value.bool false), [Blk.row false Kd.bool a0])
          else some (PV.sc (Value.bool false), [Blk.row false Kd.bool a0])
        else
          guardB
            (bif decide (16 ≤ a0.length) then
              pre6 (List.take 16 a0) a2 a3 (runS (List.take 16 a0) a2 a3).fst (runS (List.take 16 a0) a2 a3).snd.fst
                (runS (List.take 16 a0) a2 a3).snd.snd 1
            else false)
            (bif (outK (List.take 16 a0) a2 a3 (1 - 1)).isNone then
              bif (runS (List.take 16 a0) a2 a3).snd.snd == 0 then
                bif (runS (List.take 16 a0) a2 a3).fst == 0 then
                  some (PV.sc (Value.bool ((runS (List.take 16 a0) a2 a3).snd.fst == 0)), [Blk.row false Kd.bool a0])
                else some (PV.sc (Value.bool false), [Blk.row false Kd.bool a0])
              else some (PV.sc (Value.bool false), [Blk.row false Kd.bool a0])
            else some (PV.sc (Value.bool true), [Blk.row false Kd.bool a0]))))
else
  guardB (bif decide (0 + a0.length ≤ a0.length) then preN (List.take a0.length a0) else false)
    (bif !decide (1 ≤ a3 ∧ a3 ≤ 16) then
      bif (runS (List.take a0.length a0) a2 a3).snd.snd == 4 then
        bif ruleS a2 a3 == 4 then
          bif (runS (List.take a0.length a0) a2 a3).fst == 0 then
            some (PV.sc (Value.bool ((runS (List.take a0.length a0) a2 a3).snd.fst == 0)), [Blk.row false Kd.bool a0])
          else some (PV.sc (Value.bool false), [Blk.row false Kd.bool a0])
        else some (PV.sc (Value.bool false), [Blk.row false Kd.bool a0])
      else some (PV.sc (Value.bool false), [Blk.row false Kd.bool a0])
    else
      bif !decide (1 ≤ a2 ∧ a2 ≤ a3) then
        bif (runS (List.take a0.length a0) a2 a3).snd.snd == 4 then
          bif ruleS a2 a3 == 4 then
            bif (runS (List.take a0.length a0) a2 a3).fst == 0 then
              some (PV.sc (Value.bool ((runS (List.take a0.length a0) a2 a3).snd.fst == 0)), [Blk.row false Kd.bool a0])
            else some (PV.sc (Value.bool false), [Blk.row false Kd.bool a0])
          else some (PV.sc (Value.bool false), [Blk.row false Kd.bool a0])
        else some (PV.sc (Value.bool false), [Blk.row false Kd.bool a0])
      else
        guardB
          (bif decide (0 + a0.length ≤ a0.length) then
            pre6 (List.take a0.length a0) a2 a3 (runS (List.take a0.length a0) a2 a3).fst
              (runS (List.take a0.length a0) a2 a3).snd.fst (runS (List.take a0.length a0) a2 a3).snd.snd 1
          else false)
          (bif (outK (List.take a0.length a0) a2 a3 (1 - 1)).isNone then
            bif (runS (List.take a0.length a0) a2 a3).snd.snd == 0 then
              bif (runS (List.take a0.length a0) a2 a3).fst == 0 then
                some
                  (PV.sc (Value.bool ((runS (List.take a0.length a0) a2 a3).snd.fst == 0)), [Blk.row false Kd.bool a0])
              else some (PV.sc (Value.bool false), [Blk.row false Kd.bool a0])
            else some (PV.sc (Value.bool false), [Blk.row false Kd.bool a0])
          else some (PV.sc (Value.bool true), [Blk.row false Kd.bool a0])))) := by kernel_rfl
theorem drop_cons {α : Type} {l : List α} {k : Nat} {x : α} (h : l[k]? = some x) : l.drop k = x :: l.drop (k + 1) := by
  obtain ⟨hk, rfl⟩ := List.getElem?_eq_some_iff.1 h
  exact List.drop_eq_getElem_cons hk
theorem cut_at {P : Program} {N id : Nat} {ins outs : List Nat} {ent : CutEnt} {cuts : Cuts} {c c' : Code} (h1 : oneCode id c = true) (h2 : codeAt id c = c') (h : CutOK P N c' ins outs ent) (hC : CutsOK P N cuts c) : CutsOK P N (addCut id ins outs ent cuts) c :=
  cut_cons h1 (h2 ▸ h) hC
theorem cnt_le (l : List Bool) : cnt l ≤ l.length := List.length_filter_le _ _
theorem len_true {α : Type} (l : List α) : decide (l.length ≤ l.length) = true := by simp
theorem p80l (l : List Bool) (nl : Bool) (f n : Int) (l2 : List Bool) (nl2 : Bool) (m k : Int) (h : pre80 l f n l2 m k = true) : b80lL l nl f n l2 nl2 m k = some (Xt.exit 0, [PV.sc (.int .i64 (n + (cnt (l.drop (max k.toNat (l.length - f.toNat))) : Nat)))], [Blk.row false Kd.bool l, Blk.fix false [PV.sc (.int .i64 f)], Blk.row false Kd.bool l2]) := by
  obtain ⟨rfl, h1, h2, h3, h4, h5, h6, h7, h8⟩ := of_decide_eq_true h
  rw [b80l]
  simp only [List.take_length, Nat.zero_add, len_true, cond_true]
  refine cond_split (fun h => ?_) (fun h => ?_)
  · have h := of_decide_eq_true h
    obtain ⟨b, hb⟩ := get_ex (l := l) (k := k.toNat) (by omega)
    rw [hb]
    refine guard_split (by simp; omega) ?_
    simp only [bindO]
    rw [IntWalk.i64_in (k + 1) (by omega), IntWalk.i64_in (n + 1) (by omega), IntWalk.i64_in ((l.length : Int) - f) (by omega), show (k + 1).toNat = k.toNat + 1 by omega]
    have hmu : ∀ a c : Int, decide (mu80 ((l, nl), f, a, (l, nl2), m, k + 1, PUnit.unit) < mu80 ((l, nl), f, c, (l, nl2), m, k, ())) = true := fun a c => decide_eq_true (show (m - (k + 1)).toNat < (m - k).toNat by omega)
    have hp : ∀ a : Int, n ≤ a → a ≤ n + 1 → pre80 l f a l m (k + 1) = true := fun a a1 a2 => decide_eq_true ⟨rfl, h1, by omega, by omega, h4, by omega, by omega, h7, h8⟩
    cases b with
    | true =>
      simp only [cond_true]
      refine cond_split (fun h => ?_) (fun h => ?_)
      · have h := of_decide_eq_true h
        refine guard_split (hmu _ _) (guard_split (hp _ (by omega) (by omega)) ?_)
        rw [show max k.toNat (l.length - f.toNat) = k.toNat by omega, show max (k.toNat + 1) (l.length - f.toNat) = k.toNat + 1 by omega, drop_cons hb, cnt_cons]
        simp only [cond_true]
        rw [show n + 1 + ((cnt (l.drop (k.toNat + 1)) : Nat) : Int) = n + ((1 + cnt (l.drop (k.toNat + 1)) : Nat) : Int) by push_cast; omega]
      · have h := of_decide_eq_false h
        refine guard_split (hmu _ _) (guard_split (hp _ (by omega) (by omega)) ?_)
        rw [show max (k.toNat + 1) (l.length - f.toNat) = max k.toNat (l.length - f.toNat) by omega]
    | false =>
      refine guard_split (hmu _ _) (guard_split (hp _ (by omega) (by omega)) ?_)
      by_cases hk : k.toNat + 1 ≤ l.length - f.toNat
      · rw [show max (k.toNat + 1) (l.length - f.toNat) = max k.toNat (l.length - f.toNat) by omega]
      · rw [show max k.toNat (l.length - f.toNat) = k.toNat by omega, show max (k.toNat + 1) (l.length - f.toNat) = k.toNat + 1 by omega, drop_cons hb, cnt_cons]
        simp only [cond_false, Nat.zero_add]
  · have h := of_decide_eq_false h
    rw [List.drop_eq_nil_of_le (show l.length ≤ max k.toNat (l.length - f.toNat) by omega)]
    show some (Xt.exit 0, [PV.sc (.int .i64 n)], _) = some (Xt.exit 0, [PV.sc (.int .i64 (n + 0))], _)
    rw [Int.add_zero]
theorem p80 (l : List Bool) (nl : Bool) (f : Int) (h : pre80f l f = true) : b80L l nl f = some (PV.sc (.int .i64 ((last l f.toNat : Nat) : Int)), [Blk.row false Kd.bool l, Blk.fix false [PV.sc (.int .i64 f)]]) := by
  obtain ⟨h1, h2, h3⟩ := of_decide_eq_true h
  rw [b80]
  simp only [List.take_length, Nat.zero_add, len_true, cond_true]
  refine guard_split (decide_eq_true ⟨rfl, rfl, by omega, by omega, by omega, by omega, by omega, h2, h3⟩) ?_
  rw [show max (Int.toNat 0) (l.length - f.toNat) = l.length - f.toNat by simp, Int.zero_add]; rfl
theorem p36b (l : List Bool) (nl : Bool) (n i : Int) (h : pre36b l n i = true) : b36blL l nl n i = some (Xt.exit 2, [PV.sc (.int .i64 (n + (cnt (l.drop i.toNat) : Nat)))], [Blk.row false Kd.bool l]) := by
  obtain ⟨h1, h2, h3, h4, h5⟩ := of_decide_eq_true h
  rw [b36bl]
  simp only [List.take_length, Nat.zero_add, len_true, cond_true]
  refine cond_split (fun h => ?_) (fun h => ?_)
  · have h := of_decide_eq_true h
    obtain ⟨b, hb⟩ := get_ex (l := l) (k := i.toNat) (by omega)
    rw [hb]
    refine guard_split (by simp; omega) ?_
    simp only [bindO]
    rw [IntWalk.i64_in (i + 1) (by omega), IntWalk.i64_in (n + 1) (by omega), show (i + 1).toNat = i.toNat + 1 by omega, drop_cons hb, cnt_cons]
    have hmu : ∀ a c : Int, decide (mu36b ((l, nl), a, i + 1, PUnit.unit) < mu36b ((l, nl), c, i, ())) = true := fun a c => decide_eq_true (show (l.length - (i + 1)).toNat < (l.length - i).toNat by omega)
    have hp : ∀ a : Int, n ≤ a → a ≤ n + 1 → pre36b l a (i + 1) = true := fun a a1 a2 => decide_eq_true (by omega)
    cases b with
    | true =>
      refine guard_split (hmu _ _) (guard_split (hp _ (by omega) (by omega)) ?_)
      simp only [cond_true]
      rw [show n + 1 + ((cnt (l.drop (i.toNat + 1)) : Nat) : Int) = n + ((1 + cnt (l.drop (i.toNat + 1)) : Nat) : Int) by push_cast; omega]
    | false =>
      refine guard_split (hmu _ _) (guard_split (hp _ (by omega) (by omega)) ?_)
      simp only [cond_false, Nat.zero_add]
  · have h := of_decide_eq_false h
    rw [List.drop_eq_nil_of_le (show l.length ≤ i.toNat by omega)]
    show some (Xt.exit 2, [PV.sc (.int .i64 n)], _) = some (Xt.exit 2, [PV.sc (.int .i64 (n + 0))], _)
    rw [Int.add_zero]
theorem last_rep (l : List Bool) : ∀ (j f : Nat), j ≤ f → last (l ++ List.replicate j true) f = last l (f - j) + j
  | 0, f, _ => by rw [List.replicate_zero, List.append_nil, Nat.sub_zero, Nat.add_zero]
  | j + 1, f, h => by
    rw [List.replicate_succ', ← List.append_assoc, show f = (f - 1) + 1 by omega, last_snoc, last_rep l j (f - 1) (by omega), show f - 1 + 1 - (j + 1) = f - 1 - j by omega]
    simp only [cond_true]; omega
theorem p36a (l : List Bool) (nl : Bool) (need f g : Int) (more : List Bool) (nm : Bool) (n k : Int) (h : pre36a l need f g more n k = true) : b36alL l nl need f g more nm n k = cond (!soonK (fun j => last l (f.toNat - j)) need (n - k).toNat (k.toNat + 1))
    (some (Xt.exit 0, [PV.undef], [Blk.row false Kd.bool l, Blk.fix false [PV.sc (.int .i64 f)], Blk.fix false [PV.sc (.int .i64 g)], .dead])) (some (Xt.ret, [PV.sc (.int .i64 0)], [Blk.row false Kd.bool l, Blk.fix false [PV.sc (.int .i64 f)], Blk.fix false [PV.sc (.int .i64 g)], .dead])) := by
  obtain ⟨rfl, h1, h2, h3, h4, h5, h6, h7, h8, h9⟩ := of_decide_eq_true h
  have hm : more.length = l.length + k.toNat := by rw [h9, List.length_append, List.length_replicate]
  rw [b36al]
  simp only [List.take_length, Nat.zero_add, len_true, cond_true]
  refine cond_split (fun h => ?_) (fun h => ?_)
  · have h := of_decide_eq_true h
    rw [show List.take (more.length + 1) (more ++ [true]) = more ++ [true] from List.take_of_length_le (by simp), show decide (more.length + 1 ≤ (more ++ [true]).length) = true by simp, show decide (more.length + 1 = (more ++ [true]).length) = true by simp]
    have hr : more ++ [true] = l ++ List.replicate (k.toNat + 1) true := by rw [h9, List.replicate_succ', List.append_assoc]
    have hl : last (more ++ [true]) f.toNat = last l (f.toNat - (k.toNat + 1)) + (k.toNat + 1) := by rw [hr, last_rep l _ _ (by omega)]
    have hi : IntKind.i64.wrap (((more.length + 1 : Nat) : Int) - f) = ((more.length + 1 : Nat) : Int) - f := IntWalk.i64_in _ (by omega)
    have hd : (((more.length + 1 : Nat) : Int) - f).toNat = l.length - (f.toNat - (k.toNat + 1)) := by omega
    rw [hi, hl, hd, IntWalk.i64_in (k + 1) (by omega), show (k + 1).toNat = k.toNat + 1 by omega, show cnt (l.drop (l.length - (f.toNat - (k.toNat + 1)))) = last l (f.toNat - (k.toNat + 1)) from rfl, Int.zero_add]
    rw [show (n - k).toNat = (n - (k + 1)).toNat + 1 by omega, soonK]
    have hs : decide (((last l (f.toNat - (k.toNat + 1)) + (k.toNat + 1) : Nat) : Int) ≥ need) = decide (((last l (f.toNat - (k.toNat + 1)) : Nat) : Int) + ((k.toNat + 1 : Nat) : Int) ≥ need) := by congr 1
    rw [hs]
    refine guard_split (by simp; omega) (guard_split (decide_eq_true (by omega)) ?_)
    have hmu : ∀ a c : List Bool × Bool, decide (mu36a ((l, nl), need, f, (f, PUnit.unit), a, n, k + 1, PUnit.unit) < mu36a ((l, nl), need, f, (f, ()), c, n, k, ())) = true := fun a c => decide_eq_true (show (n - (k + 1)).toNat < (n - k).toNat by omega)
    have hp : pre36a l need f f (more ++ [true]) n (k + 1) = true := decide_eq_true ⟨rfl, h1, h2, h3, h4, h5, h6, by omega, by omega, by rw [hr, show (k + 1).toNat = k.toNat + 1 by omega]⟩
    have hp2 : pre80f (more ++ [true]) f = true := decide_eq_true ⟨by rw [List.length_append, List.length_singleton]; omega, h2, by omega⟩
    simp only [cond_true]
    rw [hp2, hp]
    simp only [hmu]
    generalize decide (((last l (f.toNat - (k.toNat + 1)) : Nat) : Int) > 0) = b1, decide (((last l (f.toNat - (k.toNat + 1)) : Nat) : Int) + ((k.toNat + 1 : Nat) : Int) ≥ need) = b2, soonK (fun j => last l (f.toNat - j)) need (n - (k + 1)).toNat (k.toNat + 1 + 1) = b3
    cases b1 <;> cases b2 <;> cases b3 <;> rfl
  · have h := of_decide_eq_false h
    rw [show (n - k).toNat = 0 by omega]; rfl
theorem p36 (l : List Bool) (nl : Bool) (need f : Int) (h : pre36 l need f = true) : b36L l nl need f = some (PV.sc (.int .i64 (whatL l need f.toNat)), [Blk.row false Kd.bool l]) := by
  obtain ⟨h1, h2⟩ := of_decide_eq_true h
  obtain ⟨r1, r2, r3, r4⟩ := rule_at h2
  rw [b36]
  simp only [List.take_length, Nat.zero_add, len_true, cond_true]
  refine guard_split (decide_eq_true (by omega)) ?_
  unfold whatL
  rw [show decide ((l.length : Int) < f) = decide (l.length < f.toNat) from decide_eq_decide.mpr (by omega)]
  refine cond_split (fun h => by rw [h]; rfl) (fun h => ?_)
  rw [h]
  simp only [cond_false]
  refine cond_split (fun h => by rw [h]; rfl) (fun h => ?_)
  rw [h]
  have h := of_decide_eq_false h
  simp only [cond_false]
  refine guard_split (by simp; omega) ?_
  rw [decide_eq_true (show 1 ≤ l.length by omega), IntWalk.i64_in (f - 1) (by omega), show Int.toNat 0 = 0 from rfl, show (f - 1 - 0).toNat = f.toNat - 1 by omega]
  simp only [cond_true]
  refine guard_split ?_ ?_
  · show pre36a l need f f l (f - 1) 0 = true
    exact decide_eq_true ⟨rfl, h1, r1, by omega, r3, by omega, rfl, by omega, by omega, by simp⟩
  · generalize soonK (fun j => last l (f.toNat - j)) need (f.toNat - 1) (0 + 1) = b
    cases b <;> rfl
theorem p28 (a b c : Int) : b28L a b c = some (PV.sc (.bool (decide (b ≤ a ∧ a ≤ c))), []) := by
  rw [b28]
  refine cond_split (fun h => ?_) (fun h => ?_)
  · have h := of_decide_eq_true h
    rw [show decide (a ≤ c) = decide (b ≤ a ∧ a ≤ c) from decide_eq_decide.mpr (by omega)]
  · have h := of_decide_eq_false h
    rw [show decide (b ≤ a ∧ a ≤ c) = false from decide_eq_false (by omega)]
theorem p6l (l : List Bool) (nl : Bool) (need f n x e k : Int) (h : pre6 l need f n x e k = true) : b6lL l nl need f n x e k = cond (outK l need f (k - 1)).isNone (some (Xt.exit 0, [PV.undef], [Blk.row false Kd.bool l])) (some (Xt.ret, [PV.sc (.bool true)], [Blk.row false Kd.bool l])) := by
  obtain ⟨h1, h2, rfl, h4, h5, h6⟩ := of_decide_eq_true h
  obtain ⟨r1, r2, r3, r4⟩ := rule_at h2
  rw [b6l]
  simp only [List.take_length, Nat.zero_add, Nat.sub_zero, len_true, cond_true]
  refine cond_split (fun h => ?_) (fun h => ?_)
  · have h := of_decide_eq_true h
    rw [decide_eq_true (show k.toNat ≤ l.length by omega), IntWalk.i64_in (k + 1) (by omega), show k + 1 - 1 = k by omega]
    have hs := out_step (l := l) (need := need) (f := f) (k := k - 1) (by omega) (by omega)
    rw [show (k - 1).toNat + 1 = k.toNat by omega, show k - 1 + 1 = k by omega] at hs
    refine guard_split (by simp; omega) ?_
    simp only [cond_true]
    refine guard_split (decide_eq_true ⟨by rw [List.length_take]; omega, h2⟩) ?_
    by_cases h0 : whatL (l.take k.toNat) need f.toNat = 0
    · rw [h0, decide_eq_true (show (0 : Int) = 0 from rfl)] at hs
      rw [h0, hs]
      simp only [show ((0 : Int) != 0) = false from rfl, cond_false, cond_true]
      refine guard_split ?_ (guard_split ?_ ?_)
      · exact decide_eq_true (show ((l.length : Int) + 1 - (k + 1)).toNat < ((l.length : Int) + 1 - k).toNat by omega)
      · exact decide_eq_true ⟨h1, h2, rfl, by omega, by omega, by rw [show k + 1 - 1 = k by omega, h6, hs]; rfl⟩
      · cases (outK l need f k).isNone <;> rfl
    · rw [decide_eq_false h0] at hs
      rw [hs] at h6 ⊢
      have e1 : n = k := congrArg Prod.fst h6
      have e2 : x = whatL (l.take k.toNat) need f.toNat := congrArg Prod.snd h6
      rw [show (whatL (l.take k.toNat) need f.toNat != 0) = true by simpa using h0, e1, e2]
      simp
  · have h := of_decide_eq_false h
    have : outK l need f (k - 1) = none := by
      unfold outK
      rw [show l.length - (k - 1).toNat = 0 by omega]; rfl
    rw [this]; rfl
theorem run_eq {l : List Bool} {need f : Int} (h : ruleS need f = 0) : runS l need f = (((outK l need f 0).getD (0, 0)).1, ((outK l need f 0).getD (0, 0)).2, 0) := by
  unfold runS
  rw [h, show outK l need f 0 = runK l need f.toNat l.length 0 from rfl]
  simp only [decide_true, cond_true]
  cases runK l need f.toNat l.length 0 <;> rfl
theorem rule_or (need f : Int) : ruleS need f = 0 ∨ (ruleS need f = 4 ∧ (¬ (1 ≤ f ∧ f ≤ 16) ∨ ¬ (1 ≤ need ∧ need ≤ f))) := by
  unfold ruleS
  cases hb : (decide (f < 1) || (decide (f > 16) || (decide (need < 1) || decide (need > f)))) with
  | false => exact Or.inl rfl
  | true => right; refine ⟨rfl, ?_⟩; simp at hb; omega
theorem p6 (l : List Bool) (nl : Bool) (need f : Int) : ∃ H', b6L l nl need f = some (PV.sc (.bool true), H') := by
  refine ⟨[Blk.row false Kd.bool l], ?_⟩
  have key : ∀ m : List Bool, m.length ≤ 16 → (bif !decide (1 ≤ f ∧ f ≤ 16) then
        bif (runS m need f).2.2 == 4 then
          bif ruleS need f == 4 then
            bif (runS m need f).1 == 0 then some (PV.sc (.bool ((runS m need f).2.1 == 0)), [Blk.row false Kd.bool l])
            else some (PV.sc (.bool false), [Blk.row false Kd.bool l])
          else some (PV.sc (.bool false), [Blk.row false Kd.bool l])
        else some (PV.sc (.bool false), [Blk.row false Kd.bool l])
      else
        bif !decide (1 ≤ need ∧ need ≤ f) then
          bif (runS m need f).2.2 == 4 then
            bif ruleS need f == 4 then
              bif (runS m need f).1 == 0 then some (PV.sc (.bool ((runS m need f).2.1 == 0)), [Blk.row false Kd.bool l])
              else some (PV.sc (.bool false), [Blk.row false Kd.bool l])
            else some (PV.sc (.bool false), [Blk.row false Kd.bool l])
          else some (PV.sc (.bool false), [Blk.row false Kd.bool l])
        else
          guardB (pre6 m need f (runS m need f).1 (runS m need f).2.1 (runS m need f).2.2 1)
            (bif (outK m need f (1 - 1)).isNone then
              bif (runS m need f).2.2 == 0 then
                bif (runS m need f).1 == 0 then some (PV.sc (.bool ((runS m need f).2.1 == 0)), [Blk.row false Kd.bool l])
                else some (PV.sc (.bool false), [Blk.row false Kd.bool l])
              else some (PV.sc (.bool false), [Blk.row false Kd.bool l])
            else some (PV.sc (.bool true), [Blk.row false Kd.bool l]))) = some (PV.sc (.bool true), [Blk.row false Kd.bool l]) := by
    intro m hm
    rcases rule_or need f with hr | ⟨hr, hc⟩
    · obtain ⟨r1, r2, r3, r4⟩ := rule_at hr
      rw [decide_eq_true (show 1 ≤ f ∧ f ≤ 16 by omega), decide_eq_true (show 1 ≤ need ∧ need ≤ f by omega), run_eq hr, show (1 : Int) - 1 = 0 from rfl]
      simp only [Bool.not_true, cond_false]
      refine guard_split (decide_eq_true ⟨hm, hr, rfl, by omega, by omega, rfl⟩) ?_
      cases outK m need f 0 <;> rfl
    · have he : runS m need f = (0, 0, 4) := by unfold runS; rw [hr]; rfl
      rw [he, hr]
      rcases Decidable.em (1 ≤ f ∧ f ≤ 16) with h1 | h1
      · rw [decide_eq_true h1, decide_eq_false (show ¬ (1 ≤ need ∧ need ≤ f) from hc.resolve_left (fun h => h h1))]; rfl
      · rw [decide_eq_false h1]; rfl
  rw [b6]
  refine cond_split (fun h => ?_) (fun h => ?_)
  · have h := of_decide_eq_true h
    have hm : (List.take 16 l).length = 16 := by rw [List.length_take]; omega
    have k := key (List.take 16 l) (by omega)
    rw [decide_eq_true (show 16 ≤ l.length by omega)]
    exact guard_split (decide_eq_true (by omega)) (guard_split (decide_eq_true (by omega)) k)
  · have h := of_decide_eq_false h
    have k := key l (by omega)
    simp only [List.take_length, Nat.zero_add, len_true, cond_true]
    exact guard_split (decide_eq_true (by omega)) k
/-! ### Tables -/
theorem T1_ok : TableOK Try.prog T1 := ext_ok (entV_ok Try.call140 (liftV (T0_ok _) mixed Try.func140 (show Try.f140.body = some (bodyF Try.f140) from rfl) (noCuts_ok _) (by decide) fun v h => p140 v.1 h)) (T0_ok _)
theorem T2_ok : TableOK Try.prog T2 := ext_ok (entV_ok Try.call117 (liftV T1_ok mixed Try.func117 (show Try.f117.body = some (bodyF Try.f117) from rfl) (noCuts_ok _) (by decide) fun v h => p117 v.1 h)) T1_ok
theorem in118 : CutOK Try.prog Try.f118.ntmps (codeAt 0 (bodyF Try.f118)) [0, 1, 2, 7] [6] (entC k118c c118) := loop_cutW (kill := killA 0 k118c) T2_ok mixed mu118 (by kernel_rfl) (noCuts_ok _) fun v h => p118l v.1 v.2.1 v.2.2.1 v.2.2.2.1 h
theorem T3_ok : TableOK Try.prog T3 :=
  ext_ok (entV_ok Try.call118 (liftV T2_ok mixed Try.func118 (show Try.f118.body = some (bodyF Try.f118) from rfl) (cut_cons (by kernel_rfl) in118 (noCuts_ok _)) (by decide) fun v h => p118 v.1 v.2.1 v.2.2.1 h))
  (ext_ok (entV_ok Try.call116 (liftV (T0_ok _) mixed Try.func116 (show Try.f116.body = some (bodyF Try.f116) from rfl) (noCuts_ok _) (by decide) fun v h => p116 v.1.1 v.1.2 h))
  (ext_ok (entV_ok Try.call35 (liftV (T0_ok _) mixed Try.func35 (show Try.f35.body = some (bodyF Try.f35) from rfl) (noCuts_ok _) (by decide) fun v h => p35 v.1 v.2.1)) T2_ok))
theorem T4_ok : TableOK Try.prog T4 := ext_ok (entV_ok Try.call79 (liftV T3_ok mixed Try.func79 (show Try.f79.body = some (bodyF Try.f79) from rfl) (noCuts_ok _) (by decide) fun v h => p79 v.1.1 v.1.2 v.2.1 v.2.2.1 v.2.2.2.1 h)) T3_ok
theorem in34 : CutOK Try.prog Try.f34.ntmps (codeAt 0 (bodyF Try.f34)) [1, 2, 10, 25, 26, 27] [6, 7, 8] (entC k34c c34) := loop_cutW (kill := killA 0 k34c) T4_ok mixed mu34 (by kernel_rfl) (noCuts_ok _) fun v h => p34l' v.1 v.2.1 v.2.2.1.1.1 v.2.2.1.1.2 v.2.2.2.1.1 v.2.2.2.1.2 v.2.2.2.2.1 v.2.2.2.2.2.1 h
theorem in80 : CutOK Try.prog Try.f80.ntmps (codeAt 0 (bodyF Try.f80)) [0, 1, 4, 7, 8, 9] [4] (entC k80c c80) := loop_cutW (kill := killA 0 k80c) (T0_ok _) mixed mu80 (by kernel_rfl) (noCuts_ok _) fun v h => p80l v.1.1 v.1.2 v.2.1 v.2.2.1 v.2.2.2.1.1 v.2.2.2.1.2 v.2.2.2.2.1 v.2.2.2.2.2.1 h
theorem T5_ok : TableOK Try.prog T5 := ext_ok (entV_ok Try.call80 (liftV (T0_ok _) mixed Try.func80 (show Try.f80.body = some (bodyF Try.f80) from rfl) (cut_cons (by kernel_rfl) in80 (noCuts_ok _)) (by decide) fun v h => p80 v.1.1 v.1.2 v.2.1 h)) (T0_ok _)
theorem in36b : CutOK Try.prog Try.f36.ntmps (codeAt 2 (bodyF Try.f36)) [0, 9, 10] [9] (entC k36b c36b) := loop_cutW (kill := killA 0 k36b) T5_ok mixed mu36b (by kernel_rfl) (noCuts_ok _) fun v h => p36b v.1.1 v.1.2 v.2.1 v.2.2.1 h
theorem in36a : CutOK Try.prog Try.f36.ntmps (codeAt 0 (bodyF Try.f36)) [0, 1, 5, 7, 8, 25, 26] [6] (entC k36a c36a) := loop_cutW (kill := killA 0 k36a) T5_ok mixed mu36a (by kernel_rfl) (cut_at (by kernel_rfl) (by kernel_rfl) in36b (noCuts_ok _)) fun v h => p36a v.1.1 v.1.2 v.2.1 v.2.2.1 v.2.2.2.1.1 v.2.2.2.2.1.1 v.2.2.2.2.1.2 v.2.2.2.2.2.1 v.2.2.2.2.2.2.1 h
theorem TF_ok : TableOK Try.prog TF :=
  ext_ok (entV_ok Try.call34 (liftV T4_ok mixed Try.func34 (show Try.f34.body = some (bodyF Try.f34) from rfl) (cut_cons (by kernel_rfl) in34 (noCuts_ok _)) (by decide) fun v h => p34 v.1.1 v.1.2 v.2.1 v.2.2.1 h))
  (ext_ok (entV_ok Try.call36 (liftV T5_ok mixed Try.func36 (show Try.f36.body = some (bodyF Try.f36) from rfl) (cut_cons (by kernel_rfl) in36a (noCuts_ok _)) (by decide) fun v h => p36 v.1.1 v.1.2 v.2.1 v.2.2.1 h))
  (ext_ok (entV_ok Try.call28 (liftV (T0_ok _) mixed Try.func28 (show Try.f28.body = some (bodyF Try.f28) from rfl) (noCuts_ok _) (by decide) fun v h => p28 v.1 v.2.1 v.2.2.1))
  (ext_ok (entV_ok Try.call35 (liftV (T0_ok _) mixed Try.func35 (show Try.f35.body = some (bodyF Try.f35) from rfl) (noCuts_ok _) (by decide) fun v h => p35 v.1 v.2.1)) (T0_ok _))))
theorem in6 : CutOK Try.prog Try.f6.ntmps (codeAt 0 (bodyF Try.f6)) [0, 1, 2, 10, 11, 12, 13] [6] (entC k6 c6) := loop_cutW (kill := killA 0 k6) TF_ok mixed mu6 (by kernel_rfl) (noCuts_ok _) fun v h => p6l v.1.1 v.1.2 v.2.1 v.2.2.1 v.2.2.2.1 v.2.2.2.2.1 v.2.2.2.2.2.1 v.2.2.2.2.2.2.1 h
theorem lawOK (v : denA [(.s (.ro Kd.bool)), (.s (.v ⟨false, (Kd.int .i64)⟩)), (.s (.v ⟨false, (Kd.int .i64)⟩))]) (h : (gSlice (k := Kd.bool) 1 gBool) v.1 ∧ (gInt .i64) v.2.1 ∧ (gInt .i64) v.2.2.1 ∧ True) : ∃ H', CallOK Try.prog 6 (showA 0 [(.s (.ro Kd.bool)), (.s (.v ⟨false, (Kd.int .i64)⟩)), (.s (.v ⟨false, (Kd.int .i64)⟩))] v).1 (showA 0 [(.s (.ro Kd.bool)), (.s (.v ⟨false, (Kd.int .i64)⟩)), (.s (.v ⟨false, (Kd.int .i64)⟩))] v).2 (.sc (.bool true)) H' := by
  obtain ⟨H', hH⟩ := p6 v.1.1 v.1.2 v.2.1 v.2.2.1
  exact ⟨H', evFuncV_sound TF_ok mixed Try.func6 (show Try.f6.body = some (bodyF Try.f6) from rfl) (cut_cons (by kernel_rfl) in6 (noCuts_ok _)) hH (by rw [showA_len]; decide)⟩
end Go.Proofs.YtpndjpjpmcehbaaBr
