/- What is proved: the functions that the law ScreenLines reaches answer what their plain functions say. No condition. -/
import Derived.Test.YtlaaeighanknpaaTsl0
namespace Go.Proofs.YtlaaeighanknpaaSl
open Go Go.Proofs Go.Proofs.YtlaaeighanknpaaEv
set_option maxRecDepth 100000
set_option linter.unusedSimpArgs false
set_option linter.unusedVariables false
theorem mixed : Try.prog.follows .mixedOrders = true := by kernel_rfl
noncomputable abbrev r90L (a0 : Int) (a1 : Int) := evFuncV Try.prog T0 noCuts Try.f90 (killA 0 [sI, sI]) (showA 0 [sI, sI] (a0, (a1, ()))).1 (showA 0 [sI, sI] (a0, (a1, ()))).2
theorem r90 (a0 : Int) (a1 : Int) : r90L a0 a1 = (guardB (!decide (a1 = 0))
  (guardB (!decide (a1 = 0))
    (bif decide (a0.tmod a1 < 0) then
      some (PV.sc (Value.int IntKind.i64 (IntKind.i64.wrap (IntKind.i64.wrap (a0.tdiv a1) - 1))), [])
    else some (PV.sc (Value.int IntKind.i64 (IntKind.i64.wrap (a0.tdiv a1))), [])))) := by kernel_rfl
noncomputable abbrev r27L (a0 : Int) := evFuncV Try.prog T0 noCuts Try.f27 (killA 0 [sI]) (showA 0 [sI] (a0, ())).1 (showA 0 [sI] (a0, ())).2
theorem r27 (a0 : Int) : r27L a0 = (bif decide (a0 < 0) then some (PV.sc (Value.int IntKind.i64 (IntKind.i64.wrap (0 - a0))), [])
else some (PV.sc (Value.int IntKind.i64 a0), [])) := by kernel_rfl
noncomputable abbrev r24L (a0 : Int) (a1 : Int) (a2 : Int) := evFuncV Try.prog T0 noCuts Try.f24 (killA 0 [sI, sI, sI]) (showA 0 [sI, sI, sI] (a0, (a1, (a2, ())))).1 (showA 0 [sI, sI, sI] (a0, (a1, (a2, ())))).2
theorem r24 (a0 : Int) (a1 : Int) (a2 : Int) : r24L a0 a1 a2 = (bif decide (a0 ≥ a1) then some (PV.sc (Value.bool (decide (a0 ≤ a2))), []) else some (PV.sc (Value.bool false), [])) := by kernel_rfl
noncomputable abbrev r73aL (a0 : Int) (a1 : Int) (a2 : Int) := evRound Try.prog T0 noCuts 17 (loopOf (codeAt 0 (bodyF Try.f73))) kFl muFl (killA 0 kFl) [0, 1, 5] [5] cFl (a0, (a1, (a2, ())))
theorem r73a (a0 : Int) (a1 : Int) (a2 : Int) : r73aL a0 a1 a2 = (bif decide (IntKind.i64.wrap (a2 * a1) > a0) then
  guardB (decide (muFl (a0, a1, IntKind.i64.wrap (a2 - 1), PUnit.unit) < muFl (a0, a1, a2, ())))
    (guardB (preFl a0 a1 (IntKind.i64.wrap (a2 - 1))) (some (Xt.exit 0, [PV.sc (Value.int IntKind.i64 (a0 / a1))], [])))
else some (Xt.exit 0, [PV.sc (Value.int IntKind.i64 a2)], [])) := by kernel_rfl
noncomputable abbrev r73L (a0 : Int) (a1 : Int) := evFuncV Try.prog T0 (addCut 0 [0, 1, 5] [5] (entC kFl cFl) noCuts) Try.f73 (killA 0 [sI, sI]) (showA 0 [sI, sI] (a0, (a1, ()))).1 (showA 0 [sI, sI] (a0, (a1, ()))).2
theorem r73 (a0 : Int) (a1 : Int) : r73L a0 a1 = (guardB (!decide (a1 = 0))
  (guardB (preFl a0 a1 (IntKind.i64.wrap (a0.tdiv a1))) (some (PV.sc (Value.int IntKind.i64 (a0 / a1)), [])))) := by kernel_rfl
noncomputable abbrev r72aL (a0 : Int) (a1 : Int) (a2 : Int) (a3 : Int) (a4 : Int) (a5 : List (Int × Int)) (a6 : Bool) (a7 : Int) := evRound Try.prog T1 noCuts 63 (loopOf (codeAt 0 (bodyF Try.f72))) kLn muLn (killA 0 kLn) [2, 5, 6, 7, 8, 9] [8] cLn (((a0, a1), ()), (a2, (a3, (a4, ((a5, a6), (a7, ()))))))
theorem r72a (a0 : Int) (a1 : Int) (a2 : Int) (a3 : Int) (a4 : Int) (a5 : List (Int × Int)) (a6 : Bool) (a7 : Int) : r72aL a0 a1 a2 a3 a4 a5 a6 a7 = (bif decide (a7 ≤ a4) then
  guardB
    (decide
      (half (IntKind.i64.wrap (IntKind.i64.wrap (IntKind.i64.wrap (2 * a7) * a2) + a4)) ∧
        0 < IntKind.i64.wrap (2 * a4)))
    (guardB
      (decide
        (half (IntKind.i64.wrap (IntKind.i64.wrap (IntKind.i64.wrap (2 * a7) * a3) + a4)) ∧
          0 < IntKind.i64.wrap (2 * a4)))
      (guardB
        (decide (0 + a5.length ≤ a5.length) && true && decide ((a5.length + 1) * 16 ≤ 140737488355328) &&
          decide (a5.length + 1 ≤ 4611686018427387904))
        (guardB
          (decide
            (muLn
                (((a0, a1), PUnit.unit), a2, a3, a4,
                  (List.take a5.length a5 ++
                      [(IntKind.i64.wrap
                            (a0 +
                              IntKind.i64.wrap (IntKind.i64.wrap (IntKind.i64.wrap (2 * a7) * a2) + a4) /
                                IntKind.i64.wrap (2 * a4)),
                          IntKind.i64.wrap
                            (a1 +
                              IntKind.i64.wrap (IntKind.i64.wrap (IntKind.i64.wrap (2 * a7) * a3) + a4) /
                                IntKind.i64.wrap (2 * a4)))],
                    false),
                  IntKind.i64.wrap (a7 + 1), PUnit.unit) <
              muLn (((a0, a1), ()), a2, a3, a4, (a5, a6), a7, ())))
          (guardB
            (bif
                decide
                  (a5.length + 1 =
                    (List.take a5.length a5 ++
                        [(IntKind.i64.wrap
                              (a0 +
                                IntKind.i64.wrap (IntKind.i64.wrap (IntKind.i64.wrap (2 * a7) * a2) + a4) /
                                  IntKind.i64.wrap (2 * a4)),
                            IntKind.i64.wrap
                              (a1 +
                                IntKind.i64.wrap (IntKind.i64.wrap (IntKind.i64.wrap (2 * a7) * a3) + a4) /
                                  IntKind.i64.wrap (2 * a4)))]).length) then
              preLn a0 a1 a2 a3 a4 (IntKind.i64.wrap (a7 + 1)) false
                (List.take a5.length a5 ++
                    [(IntKind.i64.wrap
                          (a0 +
                            IntKind.i64.wrap (IntKind.i64.wrap (IntKind.i64.wrap (2 * a7) * a2) + a4) /
                              IntKind.i64.wrap (2 * a4)),
                        IntKind.i64.wrap
                          (a1 +
                            IntKind.i64.wrap (IntKind.i64.wrap (IntKind.i64.wrap (2 * a7) * a3) + a4) /
                              IntKind.i64.wrap (2 * a4)))]).length
            else false)
            (some
              (Xt.exit 0,
                [PV.sl 2 0 2
                    (List.take a5.length a5 ++
                          [(IntKind.i64.wrap
                                (a0 +
                                  IntKind.i64.wrap (IntKind.i64.wrap (IntKind.i64.wrap (2 * a7) * a2) + a4) /
                                    IntKind.i64.wrap (2 * a4)),
                              IntKind.i64.wrap
                                (a1 +
                                  IntKind.i64.wrap (IntKind.i64.wrap (IntKind.i64.wrap (2 * a7) * a3) + a4) /
                                    IntKind.i64.wrap (2 * a4)))] ++
                        goL a0 a1 a2 a3 a4 (IntKind.i64.wrap (a7 + 1))).length
                    (List.take a5.length a5 ++
                          [(IntKind.i64.wrap
                                (a0 +
                                  IntKind.i64.wrap (IntKind.i64.wrap (IntKind.i64.wrap (2 * a7) * a2) + a4) /
                                    IntKind.i64.wrap (2 * a4)),
                              IntKind.i64.wrap
                                (a1 +
                                  IntKind.i64.wrap (IntKind.i64.wrap (IntKind.i64.wrap (2 * a7) * a3) + a4) /
                                    IntKind.i64.wrap (2 * a4)))] ++
                        goL a0 a1 a2 a3 a4 (IntKind.i64.wrap (a7 + 1))).length
                    false false],
                [Blk.fix true
                    [PV.sc
                        (Value.int IntKind.i64
                          (same kLn
                                  (((a0, a1), ()), a2, a3, a4,
                                    (List.take a5.length a5 ++
                                        [(IntKind.i64.wrap
                                              (a0 +
                                                IntKind.i64.wrap
                                                    (IntKind.i64.wrap (IntKind.i64.wrap (2 * a7) * a2) + a4) /
                                                  IntKind.i64.wrap (2 * a4)),
                                            IntKind.i64.wrap
                                              (a1 +
                                                IntKind.i64.wrap
                                                    (IntKind.i64.wrap (IntKind.i64.wrap (2 * a7) * a3) + a4) /
                                                  IntKind.i64.wrap (2 * a4)))],
                                      false),
                                    IntKind.i64.wrap (a7 + 1), ())).fst.fst.fst),
                      PV.sc
                        (Value.int IntKind.i64
                          (same kLn
                                  (((a0, a1), ()), a2, a3, a4,
                                    (List.take a5.length a5 ++
                                        [(IntKind.i64.wrap
                                              (a0 +
                                                IntKind.i64.wrap
                                                    (IntKind.i64.wrap (IntKind.i64.wrap (2 * a7) * a2) + a4) /
                                                  IntKind.i64.wrap (2 * a4)),
                                            IntKind.i64.wrap
                                              (a1 +
                                                IntKind.i64.wrap
                                                    (IntKind.i64.wrap (IntKind.i64.wrap (2 * a7) * a3) + a4) /
                                                  IntKind.i64.wrap (2 * a4)))],
                                      false),
                                    IntKind.i64.wrap (a7 + 1), ())).fst.fst.snd)],
                  Blk.dead,
                  Blk.row true ((Kd.int IntKind.i64).pair (Kd.int IntKind.i64))
                    (List.take a5.length a5 ++
                        [(IntKind.i64.wrap
                              (a0 +
                                IntKind.i64.wrap (IntKind.i64.wrap (IntKind.i64.wrap (2 * a7) * a2) + a4) /
                                  IntKind.i64.wrap (2 * a4)),
                            IntKind.i64.wrap
                              (a1 +
                                IntKind.i64.wrap (IntKind.i64.wrap (IntKind.i64.wrap (2 * a7) * a3) + a4) /
                                  IntKind.i64.wrap (2 * a4)))] ++
                      goL a0 a1 a2 a3 a4 (IntKind.i64.wrap (a7 + 1)))]))))))
else
  some
    (Xt.exit 0, [PV.sl 2 0 2 a5.length a5.length false a6],
      [Blk.fix true [PV.sc (Value.int IntKind.i64 a0), PV.sc (Value.int IntKind.i64 a1)], Blk.dead,
        Blk.row true ((Kd.int IntKind.i64).pair (Kd.int IntKind.i64)) a5])) := by kernel_rfl
noncomputable abbrev r72L (a0 : Int) (a1 : Int) (a2 : Int) (a3 : Int) := evFuncV Try.prog T1 (addCut 0 [2, 5, 6, 7, 8, 9] [8] (entC kLn cLn) noCuts) Try.f72 (killA 0 [sC, sC]) (showA 0 [sC, sC] ((a0, a1), ((a2, a3), ()))).1 (showA 0 [sC, sC] ((a0, a1), ((a2, a3), ()))).2
theorem r72 (a0 : Int) (a1 : Int) (a2 : Int) (a3 : Int) : r72L a0 a1 a2 a3 = (guardB
  (preLn a0 a1 (IntKind.i64.wrap (a2 - a0)) (IntKind.i64.wrap (a3 - a1))
    (max
      (max (max (IntKind.i64.wrap (a2 - a0)) (IntKind.i64.wrap (0 - IntKind.i64.wrap (a2 - a0))))
        (IntKind.i64.wrap (a3 - a1)))
      (IntKind.i64.wrap (0 - IntKind.i64.wrap (a3 - a1))))
    1 false [(a0, a1)].length)
  (some
    (PV.sl 0 0 2
        ([(a0, a1)] ++
            goL a0 a1 (IntKind.i64.wrap (a2 - a0)) (IntKind.i64.wrap (a3 - a1))
              (max
                (max (max (IntKind.i64.wrap (a2 - a0)) (IntKind.i64.wrap (0 - IntKind.i64.wrap (a2 - a0))))
                  (IntKind.i64.wrap (a3 - a1)))
                (IntKind.i64.wrap (0 - IntKind.i64.wrap (a3 - a1))))
              1).length
        ([(a0, a1)] ++
            goL a0 a1 (IntKind.i64.wrap (a2 - a0)) (IntKind.i64.wrap (a3 - a1))
              (max
                (max (max (IntKind.i64.wrap (a2 - a0)) (IntKind.i64.wrap (0 - IntKind.i64.wrap (a2 - a0))))
                  (IntKind.i64.wrap (a3 - a1)))
                (IntKind.i64.wrap (0 - IntKind.i64.wrap (a3 - a1))))
              1).length
        false false,
      [Blk.row true ((Kd.int IntKind.i64).pair (Kd.int IntKind.i64))
          ([(a0, a1)] ++
            goL a0 a1 (IntKind.i64.wrap (a2 - a0)) (IntKind.i64.wrap (a3 - a1))
              (max
                (max (max (IntKind.i64.wrap (a2 - a0)) (IntKind.i64.wrap (0 - IntKind.i64.wrap (a2 - a0))))
                  (IntKind.i64.wrap (a3 - a1)))
                (IntKind.i64.wrap (0 - IntKind.i64.wrap (a3 - a1))))
              1)]))) := by kernel_rfl
noncomputable abbrev r26L (a0 : Int) (a1 : Int) (a2 : Int) (a3 : Int) := evFuncV Try.prog T2 noCuts Try.f26 (killA 0 [sC, sC]) (showA 0 [sC, sC] ((a0, a1), ((a2, a3), ()))).1 (showA 0 [sC, sC] ((a0, a1), ((a2, a3), ()))).2
theorem r26 (a0 : Int) (a1 : Int) (a2 : Int) (a3 : Int) : r26L a0 a1 a2 a3 = (bif decide (a0 < -2000) then some (PV.tup [PV.sc (Value.slice none 0 0), PV.sc (Value.int IntKind.i64 4)], [])
else
  bif decide (a0 > 2000) then some (PV.tup [PV.sc (Value.slice none 0 0), PV.sc (Value.int IntKind.i64 4)], [])
  else
    bif decide (a1 < -2000) then some (PV.tup [PV.sc (Value.slice none 0 0), PV.sc (Value.int IntKind.i64 4)], [])
    else
      bif decide (a1 > 2000) then some (PV.tup [PV.sc (Value.slice none 0 0), PV.sc (Value.int IntKind.i64 4)], [])
      else
        bif decide (a2 < -2000) then some (PV.tup [PV.sc (Value.slice none 0 0), PV.sc (Value.int IntKind.i64 4)], [])
        else
          bif decide (a2 > 2000) then some (PV.tup [PV.sc (Value.slice none 0 0), PV.sc (Value.int IntKind.i64 4)], [])
          else
            bif decide (a3 < -2000) then
              some (PV.tup [PV.sc (Value.slice none 0 0), PV.sc (Value.int IntKind.i64 4)], [])
            else
              bif decide (a3 > 2000) then
                some (PV.tup [PV.sc (Value.slice none 0 0), PV.sc (Value.int IntKind.i64 4)], [])
              else
                guardB (fineS a0 a1 a2 a3)
                  (some
                    (PV.tup
                        [PV.sl 0 0 2 (lineS a0 a1 a2 a3).length (lineS a0 a1 a2 a3).length false false,
                          PV.sc (Value.int IntKind.i64 0)],
                      [Blk.row true ((Kd.int IntKind.i64).pair (Kd.int IntKind.i64)) (lineS a0 a1 a2 a3)]))) := by kernel_rfl
noncomputable abbrev r28L (a0 : Int) (a1 : Int) (a2 : Int) (a3 : Int) (a4 : Int) (a5 : Int) := evFuncV Try.prog T2 noCuts Try.f28 (killA 0 [sC, sC, sC]) (showA 0 [sC, sC, sC] ((a0, a1), ((a2, a3), ((a4, a5), ())))).1 (showA 0 [sC, sC, sC] ((a0, a1), ((a2, a3), ((a4, a5), ())))).2
theorem r28 (a0 : Int) (a1 : Int) (a2 : Int) (a3 : Int) (a4 : Int) (a5 : Int) : r28L a0 a1 a2 a3 a4 a5 = (guardB (decide (half (IntKind.i64.wrap (a2 - a0))))
  (guardB (decide (half (IntKind.i64.wrap (a3 - a1))))
    (bif max (absS (IntKind.i64.wrap (a2 - a0))) (absS (IntKind.i64.wrap (a3 - a1))) == 0 then
      some (PV.sc (Value.bool (a4 == a0 && (a5 == a1 && true))), [])
    else
      guardB (decide (half (IntKind.i64.wrap (a4 - a0))))
        (guardB (decide (half (IntKind.i64.wrap (a3 - a1))))
          (guardB (decide (half (IntKind.i64.wrap (a2 - a0))))
            (bif decide (absS (IntKind.i64.wrap (a3 - a1)) > absS (IntKind.i64.wrap (a2 - a0))) then
              guardB (decide (half (IntKind.i64.wrap (a5 - a1))))
                (bif
                    decide
                      (absS (IntKind.i64.wrap (a5 - a1)) ≤
                        max (absS (IntKind.i64.wrap (a2 - a0))) (absS (IntKind.i64.wrap (a3 - a1)))) then
                  guardB
                    (decide
                      (half
                          (IntKind.i64.wrap
                            (IntKind.i64.wrap
                                (IntKind.i64.wrap (2 * absS (IntKind.i64.wrap (a5 - a1))) *
                                  IntKind.i64.wrap (a2 - a0)) +
                              max (absS (IntKind.i64.wrap (a2 - a0))) (absS (IntKind.i64.wrap (a3 - a1))))) ∧
                        0 <
                            IntKind.i64.wrap
                              (2 * max (absS (IntKind.i64.wrap (a2 - a0))) (absS (IntKind.i64.wrap (a3 - a1)))) ∧
                          half
                            (IntKind.i64.wrap
                              (2 * max (absS (IntKind.i64.wrap (a2 - a0))) (absS (IntKind.i64.wrap (a3 - a1)))))))
                    (bif
                        a4 ==
                          IntKind.i64.wrap
                            (a0 +
                              IntKind.i64.wrap
                                  (IntKind.i64.wrap
                                      (IntKind.i64.wrap (2 * absS (IntKind.i64.wrap (a5 - a1))) *
                                        IntKind.i64.wrap (a2 - a0)) +
                                    max (absS (IntKind.i64.wrap (a2 - a0))) (absS (IntKind.i64.wrap (a3 - a1)))) /
                                IntKind.i64.wrap
                                  (2 *
                                    max (absS (IntKind.i64.wrap (a2 - a0))) (absS (IntKind.i64.wrap (a3 - a1))))) then
                      guardB
                        (decide
                          (half
                              (IntKind.i64.wrap
                                (IntKind.i64.wrap
                                    (IntKind.i64.wrap (2 * absS (IntKind.i64.wrap (a5 - a1))) *
                                      IntKind.i64.wrap (a3 - a1)) +
                                  max (absS (IntKind.i64.wrap (a2 - a0))) (absS (IntKind.i64.wrap (a3 - a1))))) ∧
                            0 <
                                IntKind.i64.wrap
                                  (2 * max (absS (IntKind.i64.wrap (a2 - a0))) (absS (IntKind.i64.wrap (a3 - a1)))) ∧
                              half
                                (IntKind.i64.wrap
                                  (2 * max (absS (IntKind.i64.wrap (a2 - a0))) (absS (IntKind.i64.wrap (a3 - a1)))))))
                        (some
                          (PV.sc
                              (Value.bool
                                (a5 ==
                                  IntKind.i64.wrap
                                    (a1 +
                                      IntKind.i64.wrap
                                          (IntKind.i64.wrap
                                              (IntKind.i64.wrap (2 * absS (IntKind.i64.wrap (a5 - a1))) *
                                                IntKind.i64.wrap (a3 - a1)) +
                                            max (absS (IntKind.i64.wrap (a2 - a0)))
                                              (absS (IntKind.i64.wrap (a3 - a1)))) /
                                        IntKind.i64.wrap
                                          (2 *
                                            max (absS (IntKind.i64.wrap (a2 - a0)))
                                              (absS (IntKind.i64.wrap (a3 - a1))))))),
                            []))
                    else some (PV.sc (Value.bool false), []))
                else some (PV.sc (Value.bool false), []))
            else
              bif
                  decide
                    (absS (IntKind.i64.wrap (a4 - a0)) ≤
                      max (absS (IntKind.i64.wrap (a2 - a0))) (absS (IntKind.i64.wrap (a3 - a1)))) then
                guardB
                  (decide
                    (half
                        (IntKind.i64.wrap
                          (IntKind.i64.wrap
                              (IntKind.i64.wrap (2 * absS (IntKind.i64.wrap (a4 - a0))) * IntKind.i64.wrap (a2 - a0)) +
                            max (absS (IntKind.i64.wrap (a2 - a0))) (absS (IntKind.i64.wrap (a3 - a1))))) ∧
                      0 <
                          IntKind.i64.wrap
                            (2 * max (absS (IntKind.i64.wrap (a2 - a0))) (absS (IntKind.i64.wrap (a3 - a1)))) ∧
                        half
                          (IntKind.i64.wrap
                            (2 * max (absS (IntKind.i64.wrap (a2 - a0))) (absS (IntKind.i64.wrap (a3 - a1)))))))
                  (bif
                      a4 ==
                        IntKind.i64.wrap
                          (a0 +
                            IntKind.i64.wrap
                                (IntKind.i64.wrap
                                    (IntKind.i64.wrap (2 * absS (IntKind.i64.wrap (a4 - a0))) *
                                      IntKind.i64.wrap (a2 - a0)) +
                                  max (absS (IntKind.i64.wrap (a2 - a0))) (absS (IntKind.i64.wrap (a3 - a1)))) /
                              IntKind.i64.wrap
                                (2 * max (absS (IntKind.i64.wrap (a2 - a0))) (absS (IntKind.i64.wrap (a3 - a1))))) then
                    guardB
                      (decide
                        (half
                            (IntKind.i64.wrap
                              (IntKind.i64.wrap
                                  (IntKind.i64.wrap (2 * absS (IntKind.i64.wrap (a4 - a0))) *
                                    IntKind.i64.wrap (a3 - a1)) +
                                max (absS (IntKind.i64.wrap (a2 - a0))) (absS (IntKind.i64.wrap (a3 - a1))))) ∧
                          0 <
                              IntKind.i64.wrap
                                (2 * max (absS (IntKind.i64.wrap (a2 - a0))) (absS (IntKind.i64.wrap (a3 - a1)))) ∧
                            half
                              (IntKind.i64.wrap
                                (2 * max (absS (IntKind.i64.wrap (a2 - a0))) (absS (IntKind.i64.wrap (a3 - a1)))))))
                      (some
                        (PV.sc
                            (Value.bool
                              (a5 ==
                                IntKind.i64.wrap
                                  (a1 +
                                    IntKind.i64.wrap
                                        (IntKind.i64.wrap
                                            (IntKind.i64.wrap (2 * absS (IntKind.i64.wrap (a4 - a0))) *
                                              IntKind.i64.wrap (a3 - a1)) +
                                          max (absS (IntKind.i64.wrap (a2 - a0))) (absS (IntKind.i64.wrap (a3 - a1)))) /
                                      IntKind.i64.wrap
                                        (2 *
                                          max (absS (IntKind.i64.wrap (a2 - a0)))
                                            (absS (IntKind.i64.wrap (a3 - a1))))))),
                          []))
                  else some (PV.sc (Value.bool false), []))
              else some (PV.sc (Value.bool false), []))))))) := by kernel_rfl
theorem tdiv_fl (a b : Int) (h : 0 < b) : (a.tmod b < 0 → a.tdiv b - 1 = a / b) ∧ (¬ a.tmod b < 0 → a.tdiv b = a / b) := by
  have e1 := Int.tdiv_eq_ediv (a := a) (b := b)
  have e2 := Int.tmod_eq_emod (a := a) (b := b)
  have e3 := Int.emod_nonneg a (show b ≠ 0 by omega)
  have e4 := Int.emod_lt_of_pos a h
  have e5 := Int.dvd_iff_emod_eq_zero (a := b) (b := a)
  have e6 : b.sign = 1 := Int.sign_eq_one_of_pos h
  have e7 : (b.natAbs : Int) = b := by omega
  constructor
  · intro h2
    by_cases hc : 0 ≤ a ∨ b ∣ a
    · rw [e2, if_pos hc] at h2; omega
    · rw [e1, if_neg hc, e6]; omega
  · intro h2
    by_cases hc : 0 ≤ a ∨ b ∣ a
    · rw [e1, if_pos hc]; omega
    · rw [e2, if_neg hc, e7] at h2; omega
theorem tdiv_bd (a b : Int) (h : 0 < b) (ha : half a) : -1000000000000 ≤ a.tdiv b ∧ a.tdiv b ≤ 1000000000000 := by
  have h1 := Int.natAbs_tdiv_le_natAbs a b
  unfold half at ha
  omega
theorem ediv_bd (a b : Int) (h : 0 < b) (ha : half a) : -1000000000001 ≤ a / b ∧ a / b ≤ 1000000000000 := by
  have h1 := tdiv_fl a b h
  have h2 := tdiv_bd a b h ha
  by_cases hc : a.tmod b < 0
  · have := h1.1 hc; omega
  · have := h1.2 hc; omega
theorem mul_bd (a b A B : Int) (ha : 0 ≤ a) (hA : a ≤ A) (hb : 0 ≤ b) (hB : b ≤ B) : 0 ≤ a * b ∧ a * b ≤ A * B :=
  ⟨Int.mul_nonneg ha hb, Int.mul_le_mul hA hB hb (by omega)⟩
theorem mul_abs (a b A B : Int) (ha : -A ≤ a) (hA : a ≤ A) (hb : -B ≤ b) (hB : b ≤ B) : -(A * B) ≤ a * b ∧ a * b ≤ A * B := by
  have key : ∀ x y : Int, 0 ≤ x → x ≤ A → 0 ≤ y → y ≤ B → 0 ≤ x * y ∧ x * y ≤ A * B := fun x y h1 h2 h3 h4 => mul_bd x y A B h1 h2 h3 h4
  rcases Int.le_total 0 a with h1 | h1 <;> rcases Int.le_total 0 b with h2 | h2
  · have := key a b h1 hA h2 hB; omega
  · have := key a (-b) h1 hA (by omega) (by omega); rw [Int.mul_neg] at this; omega
  · have := key (-a) b (by omega) (by omega) h2 hB; rw [Int.neg_mul] at this; omega
  · have := key (-a) (-b) (by omega) (by omega) (by omega) (by omega); rw [Int.neg_mul_neg] at this; omega
theorem q90 (a b : Int) (h : half a ∧ 0 < b) : r90L a b = some (PV.sc (Value.int .i64 (a / b)), []) := by
  obtain ⟨ha, hb⟩ := h
  have h1 := tdiv_fl a b hb
  have h2 := tdiv_bd a b hb ha
  have hz : (!decide (b = 0)) = true := by simp; omega
  rw [r90]
  refine guard_split hz (guard_split hz (cond_split (fun h => ?_) (fun h => ?_)))
  · simp only [decide_eq_true_eq] at h
    rw [IntWalk.i64_in (a.tdiv b) (by omega), IntWalk.i64_in _ (by omega), h1.1 h]
  · simp only [decide_eq_false_iff_not] at h
    rw [IntWalk.i64_in (a.tdiv b) (by omega), h1.2 h]
theorem q27 (a : Int) (h : half a) : r27L a = some (PV.sc (Value.int .i64 (absS a)), []) := by
  rw [r27]; unfold absS
  refine cond_split (fun h => ?_) (fun h => ?_)
  · simp only [decide_eq_true_eq] at h; rw [if_pos h, IntWalk.i64_in _ (by omega), show 0 - a = -a by omega]
  · simp only [decide_eq_false_iff_not] at h; rw [if_neg h]
theorem q24 (a b c : Int) : r24L a b c = some (PV.sc (Value.bool (inS a b c)), []) := by
  rw [r24]; unfold inS
  refine cond_split (fun h => ?_) (fun h => ?_)
  all_goals (simp only [decide_eq_true_eq, decide_eq_false_iff_not] at h)
  · congr 4; exact decide_eq_decide.mpr (by omega)
  · congr 4; symm; rw [decide_eq_false_iff_not]; omega
theorem q73a (a b q : Int) (h : half a ∧ 0 < b ∧ half b ∧ (q = a.tdiv b ∨ q = a / b)) : r73aL a b q = some (Xt.exit 0, [PV.sc (Value.int .i64 (a / b))], []) := by
  obtain ⟨ha, hb, hB, hq⟩ := h
  have h1 := tdiv_fl a b hb
  have h2 := tdiv_bd a b hb ha
  have h3 := Int.emod_nonneg a (show b ≠ 0 by omega)
  have h4 := Int.emod_lt_of_pos a hb
  have h5 := Int.mul_ediv_add_emod a b
  have h6 := Int.mul_tdiv_add_tmod a b
  have hm := Int.tmod_lt_of_pos a hb
  have hm2 := Int.natAbs_tmod a b
  have hm3 := Int.lt_tmod_of_pos a hb
  have hB2 : q * b = a - a.tmod b ∨ q * b = a - a % b := by
    rcases hq with rfl | rfl
    · left; rw [Int.mul_comm]; omega
    · right; rw [Int.mul_comm]; omega
  have hw : IntKind.i64.wrap (q * b) = q * b := by
    refine IntWalk.i64_in _ ?_
    rcases hB2 with h | h <;> rw [h] <;> omega
  rw [r73a, hw]
  refine cond_split (fun h => ?_) (fun h => ?_)
  · simp only [decide_eq_true_eq] at h
    have hneg : a.tmod b < 0 ∧ q = a.tdiv b := by
      rcases hq with e | e
      · refine ⟨?_, e⟩
        rcases hB2 with h7 | h7
        · omega
        · exfalso; omega
      · exfalso; rw [e, Int.mul_comm] at h; omega
    obtain ⟨g1, rfl⟩ := hneg
    have g2 := h1.1 g1
    have g3 : IntKind.i64.wrap (a.tdiv b - 1) = a / b := by rw [IntWalk.i64_in _ (by omega)]; exact g2
    rw [g3]
    refine guard_split (decide_eq_true ?_) (guard_split (decide_eq_true ⟨ha, hb, hB, Or.inr rfl⟩) rfl)
    show (a / b - a / b).toNat < (a.tdiv b - a / b).toNat
    omega
  · simp only [decide_eq_false_iff_not] at h
    have : q = a / b := by
      rcases hq with e | e
      · by_cases hn : a.tmod b < 0
        · exfalso
          have : a.tdiv b * b = a - a.tmod b := by rw [Int.mul_comm]; omega
          rw [e, this] at h; omega
        · rw [e, h1.2 hn]
      · exact e
    rw [this]
theorem q73 (a b : Int) (h : half a ∧ 0 < b ∧ half b) : r73L a b = some (PV.sc (Value.int .i64 (a / b)), []) := by
  have h2 := tdiv_bd a b h.2.1 h.1
  rw [r73, IntWalk.i64_in (a.tdiv b) (by omega)]
  exact guard_split (by simp; omega) (guard_split (decide_eq_true ⟨h.1, h.2.1, h.2.2, Or.inl rfl⟩) rfl)
theorem goL_step (ax ay x y n k : Int) (h : k ≤ n) : goL ax ay x y n k = ptS ax ay x y n k :: goL ax ay x y n (k + 1) := by
  unfold goL
  obtain ⟨m, hm⟩ : ∃ m : Nat, (n + 1 - k).toNat = m + 1 := ⟨(n + 1 - k).toNat - 1, by omega⟩
  rw [hm, show (n + 1 - (k + 1)).toNat = m by omega, List.range_succ_eq_map, List.map_cons, List.map_map]
  congr 1
  · simp
  · apply List.map_congr_left
    intro i _
    simp only [Function.comp]
    congr 1; push_cast; omega
theorem goL_end (ax ay x y n k : Int) (h : n < k) : goL ax ay x y n k = [] := by
  unfold goL; rw [show (n + 1 - k).toNat = 0 by omega]; rfl
theorem sl_eq {e : Xt} {n s : Nat} {k : Kd} {A B : List k.den} {H : List Blk} (h : A = B) : some (e, [PV.sl n 0 s A.length A.length false false], H ++ [Blk.row true k A]) = some (e, [PV.sl n 0 s B.length B.length false false], H ++ [Blk.row true k B]) := by rw [h]
theorem q72a (ax ay x y n : Int) (l : List (Int × Int)) (nl : Bool) (k : Int) (h : preLn ax ay x y n k nl l.length = true) : r72aL ax ay x y n l nl k = pickA (cLn (((ax, ay), ()), x, y, n, (l, nl), k, ())).2 := by
  unfold preLn at h
  simp only [Bool.and_eq_true, Bool.not_eq_true', decide_eq_true_eq] at h
  obtain ⟨rfl, hl, h1, h2, h3, h4, h5, h6⟩ := h
  show _ = some (Xt.exit 0, [PV.sl 2 0 2 (l ++ goL ax ay x y n k).length (l ++ goL ax ay x y n k).length false false], [Blk.fix true [.sc (.int .i64 ax), .sc (.int .i64 ay)], .dead] ++ [Blk.row true kC (l ++ goL ax ay x y n k)])
  rw [r72a]
  refine cond_split (fun h => ?_) (fun h => ?_)
  · simp only [decide_eq_true_eq] at h
    have b1 := mul_abs (2 * k) x 8000 4000 (by omega) (by omega) (by omega) (by omega)
    have b2 := mul_abs (2 * k) y 8000 4000 (by omega) (by omega) (by omega) (by omega)
    have d1 := ediv_bd (2 * k * x + n) (2 * n) (by omega) (by unfold half; omega)
    have d2 := ediv_bd (2 * k * y + n) (2 * n) (by omega) (by unfold half; omega)
    simp (disch := omega) only [IntWalk.i64_in, List.take_length, Bool.false_and, Bool.and_false]
    refine guard_split (decide_eq_true ⟨by unfold half; omega, by omega⟩) (guard_split (decide_eq_true ⟨by unfold half; omega, by omega⟩) (guard_split (by simp; omega) (guard_split ?_ (guard_split ?_ ?_))))
    · refine decide_eq_true ?_
      show (n + 1 - (k + 1)).toNat < (n + 1 - k).toNat
      omega
    · rw [show (decide (l.length + 1 = (l ++ [(ax + (2 * k * x + n) / (2 * n), ay + (2 * k * y + n) / (2 * n))]).length)) = true by simp]
      unfold preLn
      simp only [cond_true, Bool.not_false, Bool.true_and, decide_eq_true_eq, List.length_append, List.length_cons, List.length_nil]
      omega
    · refine sl_eq (k := kC) (H := [Blk.fix true [.sc (.int .i64 ax), .sc (.int .i64 ay)], .dead]) ?_
      rw [goL_step ax ay x y n k h, List.append_assoc]; rfl
  · simp only [decide_eq_false_iff_not] at h
    refine sl_eq (k := kC) (H := [Blk.fix true [.sc (.int .i64 ax), .sc (.int .i64 ay)], .dead]) ?_
    rw [goL_end _ _ _ _ _ _ (by omega), List.append_nil]
theorem max_abs (x y : Int) : max (max (max x (0 - x)) y) (0 - y) = max (absS x) (absS y) := by unfold absS; split <;> split <;> omega
theorem abs_bd (x : Int) (h : -4000 ≤ x ∧ x ≤ 4000) : 0 ≤ absS x ∧ absS x ≤ 4000 := by unfold absS; split <;> omega
theorem fine_iff {ax ay bx b_y : Int} (h : fineS ax ay bx b_y = true) : small ax ∧ small ay ∧ small bx ∧ small b_y := of_decide_eq_true h
theorem q72 (ax ay bx b_y : Int) (h : fineS ax ay bx b_y = true) : r72L ax ay bx b_y = some (PV.sl 0 0 2 (lineS ax ay bx b_y).length (lineS ax ay bx b_y).length false false, [Blk.row true kC (lineS ax ay bx b_y)]) := by
  obtain ⟨h1, h2, h3, h4⟩ := fine_iff h
  have a1 := abs_bd (bx - ax) (by omega)
  have a2 := abs_bd (b_y - ay) (by omega)
  rw [r72]
  simp (disch := omega) only [IntWalk.i64_in, max_abs]
  refine guard_split ?_ rfl
  unfold preLn
  simp only [Bool.not_false, Bool.true_and, decide_eq_true_eq, List.length_cons, List.length_nil]
  omega
theorem q26 (ax ay bx b_y : Int) : r26L ax ay bx b_y = pickA (s26 ((ax, ay), (bx, b_y), ())).2 := by
  rw [r26]
  unfold s26
  show _ = cond (fineS ax ay bx b_y) (some (PV.tup [PV.sl 0 0 2 (lineS ax ay bx b_y).length (lineS ax ay bx b_y).length false false, PV.sc (.int .i64 0)], [Blk.row true kC (lineS ax ay bx b_y)])) (some (PV.tup [PV.sc (.slice none 0 0), PV.sc (.int .i64 4)], []))
  cases hf : fineS ax ay bx b_y with
  | true =>
    obtain ⟨h1, h2, h3, h4⟩ := fine_iff hf
    iterate 8 (refine cond_split (fun h => absurd (of_decide_eq_true h) (by omega)) (fun _ => ?_))
    rfl
  | false =>
    have hn := of_decide_eq_false hf
    simp only [cond_false]
    repeat' (refine cond_split (fun h => rfl) (fun h => ?_))
    simp only [decide_eq_false_iff_not] at *
    exact absurd (by omega) hn
theorem pt_dec (ax ay x y n k cx cy : Int) : decide ((cx, cy) = ptS ax ay x y n k) = (cx == ax + (2 * k * x + n) / (2 * n) && cy == ay + (2 * k * y + n) / (2 * n)) := by
  unfold ptS
  rw [Bool.eq_iff_iff]
  simp
theorem abs_lt (x : Int) (h : half (x / 2)) : 0 ≤ absS x ∧ absS x ≤ 3000000000000 := by unfold half at h; unfold absS; split <;> omega
theorem q28 (ax ay bx b_y cx cy : Int) (h : (fineS ax ay bx b_y && decide (-900000000000 ≤ cx ∧ cx ≤ 900000000000 ∧ -900000000000 ≤ cy ∧ cy ≤ 900000000000)) = true) : r28L ax ay bx b_y cx cy = some (PV.sc (.bool (onS ax ay bx b_y cx cy)), []) := by
  simp only [Bool.and_eq_true, decide_eq_true_eq] at h
  obtain ⟨hf, hc⟩ := h
  obtain ⟨h1, h2, h3, h4⟩ := fine_iff hf
  have a1 := abs_bd (bx - ax) (by omega)
  have a2 := abs_bd (b_y - ay) (by omega)
  have a3 := abs_lt (cx - ax) (by unfold half; omega)
  have a4 := abs_lt (cy - ay) (by unfold half; omega)
  have tail : ∀ k n : Int, 0 ≤ k → k ≤ n → 1 ≤ n → n ≤ 4000 → ∀ x y : Int, -4000 ≤ x → x ≤ 4000 → -4000 ≤ y → y ≤ 4000 →
      guardB (decide (half (IntKind.i64.wrap (IntKind.i64.wrap (IntKind.i64.wrap (2 * k) * x) + n)) ∧ 0 < IntKind.i64.wrap (2 * n) ∧ half (IntKind.i64.wrap (2 * n))))
        (bif cx == IntKind.i64.wrap (ax + IntKind.i64.wrap (IntKind.i64.wrap (IntKind.i64.wrap (2 * k) * x) + n) / IntKind.i64.wrap (2 * n)) then
          guardB (decide (half (IntKind.i64.wrap (IntKind.i64.wrap (IntKind.i64.wrap (2 * k) * y) + n)) ∧ 0 < IntKind.i64.wrap (2 * n) ∧ half (IntKind.i64.wrap (2 * n))))
            (some (PV.sc (Value.bool (cy == IntKind.i64.wrap (ay + IntKind.i64.wrap (IntKind.i64.wrap (IntKind.i64.wrap (2 * k) * y) + n) / IntKind.i64.wrap (2 * n)))), ([] : List Blk)))
        else some (PV.sc (Value.bool false), [])) = some (PV.sc (.bool (decide ((cx, cy) = ptS ax ay x y n k))), []) := by
    intro k n g1 g2 g3 g4 x y g5 g6 g7 g8
    have b1 := mul_abs (2 * k) x 8000 4000 (by omega) (by omega) (by omega) (by omega)
    have b2 := mul_abs (2 * k) y 8000 4000 (by omega) (by omega) (by omega) (by omega)
    have d1 := ediv_bd (2 * k * x + n) (2 * n) (by omega) (by unfold half; omega)
    have d2 := ediv_bd (2 * k * y + n) (2 * n) (by omega) (by unfold half; omega)
    simp (disch := omega) only [IntWalk.i64_in]
    rw [pt_dec]
    refine guard_split (decide_eq_true ⟨by unfold half; omega, by omega, by unfold half; omega⟩) (cond_split (fun h => ?_) (fun h => ?_))
    · rw [h]
      exact guard_split (decide_eq_true ⟨by unfold half; omega, by omega, by unfold half; omega⟩) rfl
    · rw [h]; rfl
  rw [r28]
  rw [IntWalk.i64_in (bx - ax) (by omega), IntWalk.i64_in (b_y - ay) (by omega), IntWalk.i64_in (cx - ax) (by omega), IntWalk.i64_in (cy - ay) (by omega)]
  have hx : -4000 ≤ bx - ax ∧ bx - ax ≤ 4000 := by omega
  have hy : -4000 ≤ b_y - ay ∧ b_y - ay ≤ 4000 := by omega
  unfold onS
  generalize bx - ax = x at *
  generalize b_y - ay = y at *
  generalize hn : max (absS x) (absS y) = n at *
  refine guard_split (decide_eq_true (by unfold half; omega)) (guard_split (decide_eq_true (by unfold half; omega)) (cond_split (fun h => ?_) (fun h => ?_)))
  · have h : n = 0 := by simpa using h
    rw [if_pos h]
    congr 4
    rw [Bool.eq_iff_iff]; simp
  · have h : n ≠ 0 := by simpa using h
    rw [if_neg h]
    refine guard_split (decide_eq_true (by unfold half; omega)) (guard_split (decide_eq_true (by unfold half; omega)) (guard_split (decide_eq_true (by unfold half; omega)) (cond_split (fun h5 => ?_) (fun h5 => ?_))))
    · have h5 := of_decide_eq_true h5
      simp only [if_pos h5]
      refine guard_split (decide_eq_true (by unfold half; omega)) (cond_split (fun h6 => ?_) (fun h6 => ?_))
      · have h6 := of_decide_eq_true h6
        rw [tail (absS (cy - ay)) n (by omega) h6 (by omega) (by omega) x y (by omega) (by omega) (by omega) (by omega)]
        congr 4
        exact decide_eq_decide.mpr ⟨fun h => ⟨h6, h⟩, fun h => h.2⟩
      · have h6 := of_decide_eq_false h6
        congr 4; symm; exact decide_eq_false (fun h => h6 h.1)
    · have h5 := of_decide_eq_false h5
      simp only [if_neg h5]
      refine cond_split (fun h6 => ?_) (fun h6 => ?_)
      · have h6 := of_decide_eq_true h6
        rw [tail (absS (cx - ax)) n (by omega) h6 (by omega) (by omega) x y (by omega) (by omega) (by omega) (by omega)]
        congr 4
        exact decide_eq_decide.mpr ⟨fun h => ⟨h6, h⟩, fun h => h.2⟩
      · have h6 := of_decide_eq_false h6
        congr 4; symm; exact decide_eq_false (fun h => h6 h.1)
theorem T1_ok : TableOK Try.prog T1 := by
  refine ext_ok (entV_ok Try.call90 (liftV (T0_ok _) mixed Try.func90 rfl (noCuts_ok _) (by decide) fun v h => q90 v.1 v.2.1 (of_decide_eq_true h)))
    (ext_ok (entV_ok Try.call73 (liftV (T0_ok _) mixed Try.func73 (show Try.f73.body = some (bodyF Try.f73) from rfl) (cut_cons (by kernel_rfl) (loop_cutW (T0_ok _) mixed muFl (by kernel_rfl) (noCuts_ok _) fun v h => q73a v.1 v.2.1 v.2.2.1 (of_decide_eq_true h)) (noCuts_ok _)) (by decide) fun v h => q73 v.1 v.2.1 (of_decide_eq_true h)))
    (ext_ok (entV_ok Try.call27 (liftV (T0_ok _) mixed Try.func27 rfl (noCuts_ok _) (by decide) fun v h => q27 v.1 (of_decide_eq_true h)))
    (ext_ok (entV_ok Try.call24 (liftV (T0_ok _) mixed Try.func24 rfl (noCuts_ok _) (by decide) fun v _ => q24 v.1 v.2.1 v.2.2.1)) (T0_ok _))))
theorem T2_ok : TableOK Try.prog T2 :=
  ext_ok (entV_ok Try.call72 (liftV T1_ok mixed Try.func72 (show Try.f72.body = some (bodyF Try.f72) from rfl) (cut_cons (by kernel_rfl) (loop_cutW T1_ok mixed muLn (by kernel_rfl) (noCuts_ok _) fun v h => q72a v.1.1.1 v.1.1.2 v.2.1 v.2.2.1 v.2.2.2.1 v.2.2.2.2.1.1 v.2.2.2.2.1.2 v.2.2.2.2.2.1 h) (noCuts_ok _)) (by decide) fun v h => q72 v.1.1 v.1.2 v.2.1.1 v.2.1.2 h)) T1_ok
theorem T3_ok : TableOK Try.prog T3 :=
  ext_ok (entV_ok Try.call26 (liftV T2_ok mixed Try.func26 rfl (noCuts_ok _) (by decide) fun v _ => q26 v.1.1 v.1.2 v.2.1.1 v.2.1.2))
  (ext_ok (entV_ok Try.call28 (liftV T2_ok mixed Try.func28 rfl (noCuts_ok _) (by decide) fun v h => q28 v.1.1 v.1.2 v.2.1.1 v.2.1.2 v.2.2.1.1 v.2.2.1.2 h)) T2_ok)
end Go.Proofs.YtlaaeighanknpaaSl
