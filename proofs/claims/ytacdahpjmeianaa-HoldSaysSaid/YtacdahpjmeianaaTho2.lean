/- What is proved: a holding stack's and its model's calls answer what their plain functions say. No condition. -/
import Derived.Test.YtacdahpjmeianaaTho1
namespace Go.Proofs.YtacdahpjmeianaaHo
open Go Go.Proofs Go.Proofs.YtacdahpjmeianaaEv
set_option maxRecDepth 100000
set_option maxHeartbeats 4000000
set_option linter.unusedVariables false
set_option linter.unusedSimpArgs false
noncomputable abbrev h43aL (a0 : List (ByteArray × Int × Int)) (a1 : Int) (a2 : Int) := evRound Try.prog H2 noCuts 71 (loopOf (codeAt 0 (bodyF Try.f43))) kTm muTm (killA 0 kTm) [29, 30, 8] [8] cTm (a0, (a1, (a2, ())))
theorem h43a (a0 : List (ByteArray × Int × Int)) (a1 : Int) (a2 : Int) : h43aL a0 a1 a2 = (bif decide (a1 < 32) then
  guardB (decide (0 ≤ a1) && decide (a1 < 32))
    (bindO a0[a1.toNat]? fun x =>
      bif !decide (x.fst = ByteArray.mk #[]) then
        guardB
          (decide (muTm (a0, IntKind.i64.wrap (a1 + 1), IntKind.i64.wrap (a1 + 1), PUnit.unit) < muTm (a0, a1, a2, ())))
          (guardB
            (preA a0 (IntKind.i64.wrap (a1 + 1)) &&
              decide (0 ≤ IntKind.i64.wrap (a1 + 1) ∧ IntKind.i64.wrap (a1 + 1) ≤ IntKind.i64.wrap (a1 + 1)))
            (some
              (Xt.exit 0,
                [PV.sc
                    (Value.int IntKind.i64
                      (topR (IntKind.i64.wrap (a1 + 1)) (IntKind.i64.wrap (a1 + 1))
                        (List.drop (IntKind.i64.wrap (a1 + 1)).toNat a0)))],
                [])))
      else
        guardB (decide (muTm (a0, IntKind.i64.wrap (a1 + 1), a2, PUnit.unit) < muTm (a0, a1, a2, ())))
          (guardB (preA a0 (IntKind.i64.wrap (a1 + 1)) && decide (0 ≤ a2 ∧ a2 ≤ IntKind.i64.wrap (a1 + 1)))
            (some
              (Xt.exit 0,
                [PV.sc
                    (Value.int IntKind.i64
                      (topR (IntKind.i64.wrap (a1 + 1)) a2 (List.drop (IntKind.i64.wrap (a1 + 1)).toNat a0)))],
                []))))
else some (Xt.exit 0, [PV.sc (Value.int IntKind.i64 a2)], [])) := by kernel_rfl
noncomputable abbrev h43L (a0 : Int) (a1 : Int) (a2 : Int) (a3 : List (ByteArray × Int × Int)) (a4 : Int) (a5 : ByteArray) (a6 : Int) := evFuncV Try.prog H2 (addCut 0 [29, 30, 8] [8] (entC kTm cTm) noCuts) Try.f43 (killA 0 kMe) (showA 0 kMe (((a0, (a1, a2)), (a3, a4)), (a5, (a6, ())))).1 (showA 0 kMe (((a0, (a1, a2)), (a3, a4)), (a5, (a6, ())))).2
theorem h43 (a0 : Int) (a1 : Int) (a2 : Int) (a3 : List (ByteArray × Int × Int)) (a4 : Int) (a5 : ByteArray) (a6 : Int) : h43L a0 a1 a2 a3 a4 a5 a6 = (guardB (decide (a5.size ≤ 1000000000000000000))
  (bif !namS a5 then
    some
      (PV.tup [PV.sc (Value.int IntKind.i64 0), PV.sc (Value.int IntKind.i64 6)],
        [Blk.mix true
            [PV.sc (Value.int IntKind.i64 a0), PV.sc (Value.int IntKind.i64 a1), PV.sc (Value.int IntKind.i64 a2)]
            (Kd.str.pair ((Kd.int IntKind.i64).pair (Kd.int IntKind.i64))) 32 a3 [PV.sc (Value.int IntKind.i64 a4)]])
  else
    guardB (decide (a3.length = 32))
      (bif decide (fndM a5 a3 ≥ 0) then
        some
          (PV.tup [PV.sc (Value.int IntKind.i64 0), PV.sc (Value.int IntKind.i64 7)],
            [Blk.mix true
                [PV.sc (Value.int IntKind.i64 a0), PV.sc (Value.int IntKind.i64 a1), PV.sc (Value.int IntKind.i64 a2)]
                (Kd.str.pair ((Kd.int IntKind.i64).pair (Kd.int IntKind.i64))) 32 a3
                [PV.sc (Value.int IntKind.i64 a4)]])
      else
        guardB (decide (a3.length = 32))
          (bif !inS a6 a4 200000 then
            some
              (PV.tup [PV.sc (Value.int IntKind.i64 0), PV.sc (Value.int IntKind.i64 12)],
                [Blk.mix true
                    [PV.sc (Value.int IntKind.i64 a0), PV.sc (Value.int IntKind.i64 a1),
                      PV.sc (Value.int IntKind.i64 a2)]
                    (Kd.str.pair ((Kd.int IntKind.i64).pair (Kd.int IntKind.i64))) 32 a3
                    [PV.sc (Value.int IntKind.i64 a4)]])
          else
            guardB (decide (a3.length = 32))
              (guardB (preA a3 0 && decide (0 ≤ 0 ∧ 0 ≤ 0))
                (guardB (bp (setOK (a0, a1, a2)))
                  (bif decide (topR 0 0 (List.drop (Int.toNat 0) a3) ≥ Int.tdiv (a1 - a0) a2 + 1) then
                    some
                      (PV.tup [PV.sc (Value.int IntKind.i64 0), PV.sc (Value.int IntKind.i64 9)],
                        [Blk.mix true
                            [PV.sc (Value.int IntKind.i64 a0), PV.sc (Value.int IntKind.i64 a1),
                              PV.sc (Value.int IntKind.i64 a2)]
                            (Kd.str.pair ((Kd.int IntKind.i64).pair (Kd.int IntKind.i64))) 32 a3
                            [PV.sc (Value.int IntKind.i64 a4)]])
                  else
                    guardB (decide (a3.length = 32))
                      (guardB
                        (decide (0 ≤ topR 0 0 (List.drop (Int.toNat 0) a3)) &&
                          decide (topR 0 0 (List.drop (Int.toNat 0) a3) < 32))
                        (bindO a3[(topR 0 0 (List.drop (Int.toNat 0) a3)).toNat]? fun x =>
                          some
                            (PV.tup
                                [PV.sc
                                    (Value.int IntKind.i64
                                      (IntKind.i64.wrap
                                        (a0 + IntKind.i64.wrap (topR 0 0 (List.drop (Int.toNat 0) a3) * a2)))),
                                  PV.sc (Value.int IntKind.i64 0)],
                              [Blk.mix true
                                  [PV.sc (Value.int IntKind.i64 a0), PV.sc (Value.int IntKind.i64 a1),
                                    PV.sc (Value.int IntKind.i64 a2)]
                                  (Kd.str.pair ((Kd.int IntKind.i64).pair (Kd.int IntKind.i64))) 32
                                  (a3.set (topR 0 0 (List.drop (Int.toNat 0) a3)).toNat
                                    (a5,
                                      IntKind.i64.wrap
                                        (a0 + IntKind.i64.wrap (topR 0 0 (List.drop (Int.toNat 0) a3) * a2)),
                                      a6))
                                  [PV.sc (Value.int IntKind.i64 a6)]])))))))))) := by kernel_rfl
noncomputable abbrev h45aL (a0 : Int) (a1 : Int) (a2 : Int) (a3 : List (ByteArray × Int × Int)) (a4 : Int) (a5 : Int) (a6 : Int) := evRound Try.prog H2 noCuts 81 (loopOf (codeAt 0 (bodyF Try.f45))) kDm muDm (killA 0 kDm) [0, 6, 7] [6] cDm (((a0, (a1, a2)), (a3, a4)), (a5, (a6, ())))
theorem h45a (a0 : Int) (a1 : Int) (a2 : Int) (a3 : List (ByteArray × Int × Int)) (a4 : Int) (a5 : Int) (a6 : Int) : h45aL a0 a1 a2 a3 a4 a5 a6 = (bif decide (a6 < 32) then
  guardB (decide (0 ≤ a6) && decide (a6 < 32))
    (bindO a3[a6.toNat]? fun x =>
      bif !decide (x.fst = ByteArray.mk #[]) then
        guardB (decide (0 ≤ IntKind.i64.wrap (a6 - 1)) && decide (IntKind.i64.wrap (a6 - 1) < 32))
          (bindO a3[(IntKind.i64.wrap (a6 - 1)).toNat]? fun x =>
            bif decide (x.fst = ByteArray.mk #[]) then
              guardB (decide (0 ≤ a6) && decide (a6 < 32))
                (bindO a3[a6.toNat]? fun x =>
                  guardB (decide (0 ≤ IntKind.i64.wrap (a6 - 1)) && decide (IntKind.i64.wrap (a6 - 1) < 32))
                    (bindO a3[(IntKind.i64.wrap (a6 - 1)).toNat]? fun x_1 =>
                      guardB (decide (0 ≤ a6) && decide (a6 < 32))
                        (bindO (a3.set (IntKind.i64.wrap (a6 - 1)).toNat x)[a6.toNat]? fun x_2 =>
                          guardB (decide (0 ≤ IntKind.i64.wrap (a6 - 1)) && decide (IntKind.i64.wrap (a6 - 1) < 32))
                            (bindO
                              ((a3.set (IntKind.i64.wrap (a6 - 1)).toNat x).set a6.toNat
                                  (ByteArray.mk #[], 0, 0))[(IntKind.i64.wrap (a6 - 1)).toNat]?
                              fun x_3 =>
                              guardB (decide (0 ≤ IntKind.i64.wrap (a6 - 1)) && decide (IntKind.i64.wrap (a6 - 1) < 32))
                                (bindO
                                  ((a3.set (IntKind.i64.wrap (a6 - 1)).toNat x).set a6.toNat
                                      (ByteArray.mk #[], 0, 0))[(IntKind.i64.wrap (a6 - 1)).toNat]?
                                  fun x_4 =>
                                  guardB
                                    (decide
                                      (muDm
                                          (((a0, a1, a2),
                                              ((a3.set (IntKind.i64.wrap (a6 - 1)).toNat x).set a6.toNat
                                                    (ByteArray.mk #[], 0, 0)).set
                                                (IntKind.i64.wrap (a6 - 1)).toNat
                                                (x_4.fst, IntKind.i64.wrap (x_3.snd.fst - a2), x_4.snd.snd),
                                              a4),
                                            IntKind.i64.wrap (a5 + 1), IntKind.i64.wrap (a6 + 1), PUnit.unit) <
                                        muDm (((a0, a1, a2), a3, a4), a5, a6, ())))
                                    (guardB
                                      (bp
                                        (setOK (a0, a1, a2) ∧
                                          (((a3.set (IntKind.i64.wrap (a6 - 1)).toNat x).set a6.toNat
                                                      (ByteArray.mk #[], 0, 0)).set
                                                  (IntKind.i64.wrap (a6 - 1)).toNat
                                                  (x_4.fst, IntKind.i64.wrap (x_3.snd.fst - a2), x_4.snd.snd)).length =
                                              32 ∧
                                            hiB
                                                  (List.drop (IntKind.i64.wrap (a6 + 1)).toNat
                                                    (((a3.set (IntKind.i64.wrap (a6 - 1)).toNat x).set a6.toNat
                                                          (ByteArray.mk #[], 0, 0)).set
                                                      (IntKind.i64.wrap (a6 - 1)).toNat
                                                      (x_4.fst, IntKind.i64.wrap (x_3.snd.fst - a2), x_4.snd.snd))) =
                                                true ∧
                                              1 ≤ IntKind.i64.wrap (a6 + 1) ∧
                                                IntKind.i64.wrap (a6 + 1) ≤ 32 ∧
                                                  0 ≤ IntKind.i64.wrap (a5 + 1) ∧
                                                    IntKind.i64.wrap (a5 + 1) ≤ IntKind.i64.wrap (a6 + 1)))
                                      (some
                                        (Xt.exit 0,
                                          [PV.sc
                                              (Value.int IntKind.i64
                                                (IntKind.i64.wrap (a5 + 1) +
                                                  (dwnM a2
                                                      (((a3.set (IntKind.i64.wrap (a6 - 1)).toNat x).set a6.toNat
                                                            (ByteArray.mk #[], 0, 0)).set
                                                        (IntKind.i64.wrap (a6 - 1)).toNat
                                                        (x_4.fst, IntKind.i64.wrap (x_3.snd.fst - a2), x_4.snd.snd))
                                                      (IntKind.i64.wrap (a6 + 1))).snd))],
                                          [Blk.mix true
                                              [PV.sc (Value.int IntKind.i64 a0), PV.sc (Value.int IntKind.i64 a1),
                                                PV.sc (Value.int IntKind.i64 a2)]
                                              (Kd.str.pair ((Kd.int IntKind.i64).pair (Kd.int IntKind.i64))) 32
                                              (List.take (IntKind.i64.wrap (a6 + 1) - 1).toNat
                                                  (((a3.set (IntKind.i64.wrap (a6 - 1)).toNat x).set a6.toNat
                                                        (ByteArray.mk #[], 0, 0)).set
                                                    (IntKind.i64.wrap (a6 - 1)).toNat
                                                    (x_4.fst, IntKind.i64.wrap (x_3.snd.fst - a2), x_4.snd.snd)) ++
                                                (dwnR a2
                                                    (atT
                                                      (((a3.set (IntKind.i64.wrap (a6 - 1)).toNat x).set a6.toNat
                                                            (ByteArray.mk #[], 0, 0)).set
                                                        (IntKind.i64.wrap (a6 - 1)).toNat
                                                        (x_4.fst, IntKind.i64.wrap (x_3.snd.fst - a2), x_4.snd.snd))
                                                      (IntKind.i64.wrap (a6 + 1) - 1))
                                                    (List.drop (IntKind.i64.wrap (a6 + 1)).toNat
                                                      (((a3.set (IntKind.i64.wrap (a6 - 1)).toNat x).set a6.toNat
                                                            (ByteArray.mk #[], 0, 0)).set
                                                        (IntKind.i64.wrap (a6 - 1)).toNat
                                                        (x_4.fst, IntKind.i64.wrap (x_3.snd.fst - a2),
                                                          x_4.snd.snd)))).fst)
                                              [PV.sc (Value.int IntKind.i64 a4)]]))))))))
            else
              guardB
                (decide
                  (muDm (((a0, a1, a2), a3, a4), a5, IntKind.i64.wrap (a6 + 1), PUnit.unit) <
                    muDm (((a0, a1, a2), a3, a4), a5, a6, ())))
                (guardB
                  (bp
                    (setOK (a0, a1, a2) ∧
                      a3.length = 32 ∧
                        hiB (List.drop (IntKind.i64.wrap (a6 + 1)).toNat a3) = true ∧
                          1 ≤ IntKind.i64.wrap (a6 + 1) ∧
                            IntKind.i64.wrap (a6 + 1) ≤ 32 ∧ 0 ≤ a5 ∧ a5 ≤ IntKind.i64.wrap (a6 + 1)))
                  (some
                    (Xt.exit 0, [PV.sc (Value.int IntKind.i64 (a5 + (dwnM a2 a3 (IntKind.i64.wrap (a6 + 1))).snd))],
                      [Blk.mix true
                          [PV.sc (Value.int IntKind.i64 a0), PV.sc (Value.int IntKind.i64 a1),
                            PV.sc (Value.int IntKind.i64 a2)]
                          (Kd.str.pair ((Kd.int IntKind.i64).pair (Kd.int IntKind.i64))) 32
                          (List.take (IntKind.i64.wrap (a6 + 1) - 1).toNat a3 ++
                            (dwnR a2 (atT a3 (IntKind.i64.wrap (a6 + 1) - 1))
                                (List.drop (IntKind.i64.wrap (a6 + 1)).toNat a3)).fst)
                          [PV.sc (Value.int IntKind.i64 a4)]]))))
      else
        guardB
          (decide
            (muDm (((a0, a1, a2), a3, a4), a5, IntKind.i64.wrap (a6 + 1), PUnit.unit) <
              muDm (((a0, a1, a2), a3, a4), a5, a6, ())))
          (guardB
            (bp
              (setOK (a0, a1, a2) ∧
                a3.length = 32 ∧
                  hiB (List.drop (IntKind.i64.wrap (a6 + 1)).toNat a3) = true ∧
                    1 ≤ IntKind.i64.wrap (a6 + 1) ∧
                      IntKind.i64.wrap (a6 + 1) ≤ 32 ∧ 0 ≤ a5 ∧ a5 ≤ IntKind.i64.wrap (a6 + 1)))
            (some
              (Xt.exit 0, [PV.sc (Value.int IntKind.i64 (a5 + (dwnM a2 a3 (IntKind.i64.wrap (a6 + 1))).snd))],
                [Blk.mix true
                    [PV.sc (Value.int IntKind.i64 a0), PV.sc (Value.int IntKind.i64 a1),
                      PV.sc (Value.int IntKind.i64 a2)]
                    (Kd.str.pair ((Kd.int IntKind.i64).pair (Kd.int IntKind.i64))) 32
                    (List.take (IntKind.i64.wrap (a6 + 1) - 1).toNat a3 ++
                      (dwnR a2 (atT a3 (IntKind.i64.wrap (a6 + 1) - 1))
                          (List.drop (IntKind.i64.wrap (a6 + 1)).toNat a3)).fst)
                    [PV.sc (Value.int IntKind.i64 a4)]]))))
else
  some
    (Xt.exit 0, [PV.sc (Value.int IntKind.i64 a5)],
      [Blk.mix true
          [PV.sc (Value.int IntKind.i64 a0), PV.sc (Value.int IntKind.i64 a1), PV.sc (Value.int IntKind.i64 a2)]
          (Kd.str.pair ((Kd.int IntKind.i64).pair (Kd.int IntKind.i64))) 32 a3 [PV.sc (Value.int IntKind.i64 a4)]])) := by kernel_rfl
noncomputable abbrev h45L (a0 : Int) (a1 : Int) (a2 : Int) (a3 : List (ByteArray × Int × Int)) (a4 : Int) (a5 : Int) := evFuncV Try.prog H2 (addCut 0 [0, 6, 7] [6] (entC kDm cDm) noCuts) Try.f45 (killA 0 kMd) (showA 0 kMd (((a0, (a1, a2)), (a3, a4)), (a5, ()))).1 (showA 0 kMd (((a0, (a1, a2)), (a3, a4)), (a5, ()))).2
theorem h45 (a0 : Int) (a1 : Int) (a2 : Int) (a3 : List (ByteArray × Int × Int)) (a4 : Int) (a5 : Int) : h45L a0 a1 a2 a3 a4 a5 = (guardB (decide (a3.length = 32))
  (bif !inS a5 a4 200000 then
    some
      (PV.tup [PV.sc (Value.int IntKind.i64 0), PV.sc (Value.int IntKind.i64 12)],
        [Blk.mix true
            [PV.sc (Value.int IntKind.i64 a0), PV.sc (Value.int IntKind.i64 a1), PV.sc (Value.int IntKind.i64 a2)]
            (Kd.str.pair ((Kd.int IntKind.i64).pair (Kd.int IntKind.i64))) 32 a3 [PV.sc (Value.int IntKind.i64 a4)]])
  else
    guardB (decide (a3.length = 32))
      (guardB
        (bp
          (setOK (a0, a1, a2) ∧
            a3.length = 32 ∧ hiB (List.drop (Int.toNat 1) a3) = true ∧ (1 : Int) ≤ 1 ∧ (1 : Int) ≤ 32 ∧ (0 : Int) ≤ 0 ∧ (0 : Int) ≤ 1))
        (some
          (PV.tup [PV.sc (Value.int IntKind.i64 (0 + (dwnM a2 a3 1).snd)), PV.sc (Value.int IntKind.i64 0)],
            [Blk.mix true
                [PV.sc (Value.int IntKind.i64 a0), PV.sc (Value.int IntKind.i64 a1), PV.sc (Value.int IntKind.i64 a2)]
                (Kd.str.pair ((Kd.int IntKind.i64).pair (Kd.int IntKind.i64))) 32
                (dwnR a2 (atT a3 (1 - 1)) (List.drop (Int.toNat 1) a3)).fst [PV.sc (Value.int IntKind.i64 a5)]]))))) := by kernel_rfl
noncomputable abbrev h47aL (a0 : Int) (a1 : Int) (a2 : Int) (a3 : List (ByteArray × Int × Int)) (a4 : Int) (a5 : Int) (a6 : Int) := evRound Try.prog H2 noCuts 56 (loopOf (codeAt 0 (bodyF Try.f47))) kVm muVm (killA 0 kVm) [0, 23, 24] [6, 7] cVm (((a0, (a1, a2)), (a3, a4)), (a5, (a6, ())))
theorem h47a (a0 : Int) (a1 : Int) (a2 : Int) (a3 : List (ByteArray × Int × Int)) (a4 : Int) (a5 : Int) (a6 : Int) : h47aL a0 a1 a2 a3 a4 a5 a6 = (bif decide (a6 < a5) then
  guardB (decide (0 ≤ a6) && decide (a6 < 32))
    (bindO a3[a6.toNat]? fun x =>
      bif !decide (x.fst = ByteArray.mk #[]) then
        some
          (Xt.ret, [PV.sc (Value.int IntKind.i64 0), PV.sc (Value.int IntKind.i64 11)],
            [Blk.mix true
                [PV.sc (Value.int IntKind.i64 a0), PV.sc (Value.int IntKind.i64 a1), PV.sc (Value.int IntKind.i64 a2)]
                (Kd.str.pair ((Kd.int IntKind.i64).pair (Kd.int IntKind.i64))) 32 a3
                [PV.sc (Value.int IntKind.i64 a4)]])
      else
        guardB
          (decide
            (muVm (((a0, a1, a2), a3, a4), a5, IntKind.i64.wrap (a6 + 1), PUnit.unit) <
              muVm (((a0, a1, a2), a3, a4), a5, a6, ())))
          (guardB (preA a3 (IntKind.i64.wrap (a6 + 1)) && decide (IntKind.i64.wrap (a6 + 1) ≤ a5 ∧ a5 ≤ 32))
            (bif !(List.drop (IntKind.i64.wrap (a6 + 1)).toNat (List.take a5.toNat a3)).any occT then
              some
                (Xt.exit 0, [PV.undef, PV.undef],
                  [Blk.mix true
                      [PV.sc (Value.int IntKind.i64 a0), PV.sc (Value.int IntKind.i64 a1),
                        PV.sc (Value.int IntKind.i64 a2)]
                      (Kd.str.pair ((Kd.int IntKind.i64).pair (Kd.int IntKind.i64))) 32 a3
                      [PV.sc (Value.int IntKind.i64 a4)]])
            else
              some
                (Xt.ret, [PV.sc (Value.int IntKind.i64 0), PV.sc (Value.int IntKind.i64 11)],
                  [Blk.mix true
                      [PV.sc (Value.int IntKind.i64 a0), PV.sc (Value.int IntKind.i64 a1),
                        PV.sc (Value.int IntKind.i64 a2)]
                      (Kd.str.pair ((Kd.int IntKind.i64).pair (Kd.int IntKind.i64))) 32 a3
                      [PV.sc (Value.int IntKind.i64 a4)]]))))
else
  some
    (Xt.exit 0, [PV.undef, PV.undef],
      [Blk.mix true
          [PV.sc (Value.int IntKind.i64 a0), PV.sc (Value.int IntKind.i64 a1), PV.sc (Value.int IntKind.i64 a2)]
          (Kd.str.pair ((Kd.int IntKind.i64).pair (Kd.int IntKind.i64))) 32 a3 [PV.sc (Value.int IntKind.i64 a4)]])) := by kernel_rfl
noncomputable abbrev h47L (a0 : Int) (a1 : Int) (a2 : Int) (a3 : List (ByteArray × Int × Int)) (a4 : Int) (a5 : ByteArray) (a6 : Int) := evFuncV Try.prog H2 (addCut 0 [0, 23, 24] [6, 7] (entC kVm cVm) noCuts) Try.f47 (killA 0 kMe) (showA 0 kMe (((a0, (a1, a2)), (a3, a4)), (a5, (a6, ())))).1 (showA 0 kMe (((a0, (a1, a2)), (a3, a4)), (a5, (a6, ())))).2
theorem h47 (a0 : Int) (a1 : Int) (a2 : Int) (a3 : List (ByteArray × Int × Int)) (a4 : Int) (a5 : ByteArray) (a6 : Int) : h47L a0 a1 a2 a3 a4 a5 a6 = (guardB (decide (a3.length = 32))
  (bif decide (fndM a5 a3 < 0) then
    some
      (PV.tup [PV.sc (Value.int IntKind.i64 0), PV.sc (Value.int IntKind.i64 8)],
        [Blk.mix true
            [PV.sc (Value.int IntKind.i64 a0), PV.sc (Value.int IntKind.i64 a1), PV.sc (Value.int IntKind.i64 a2)]
            (Kd.str.pair ((Kd.int IntKind.i64).pair (Kd.int IntKind.i64))) 32 a3 [PV.sc (Value.int IntKind.i64 a4)]])
  else
    guardB (decide (a3.length = 32))
      (bif !inS a6 a4 200000 then
        some
          (PV.tup [PV.sc (Value.int IntKind.i64 0), PV.sc (Value.int IntKind.i64 12)],
            [Blk.mix true
                [PV.sc (Value.int IntKind.i64 a0), PV.sc (Value.int IntKind.i64 a1), PV.sc (Value.int IntKind.i64 a2)]
                (Kd.str.pair ((Kd.int IntKind.i64).pair (Kd.int IntKind.i64))) 32 a3
                [PV.sc (Value.int IntKind.i64 a4)]])
      else
        guardB (preA a3 0 && decide (0 ≤ fndM a5 a3 ∧ fndM a5 a3 ≤ 32))
          (bif !(List.drop (Int.toNat 0) (List.take (fndM a5 a3).toNat a3)).any occT then
            guardB (decide (a3.length = 32))
              (guardB (decide (0 ≤ fndM a5 a3) && decide (fndM a5 a3 < 32))
                (bindO a3[(fndM a5 a3).toNat]? fun x =>
                  guardB (decide (0 ≤ fndM a5 a3) && decide (fndM a5 a3 < 32))
                    (bindO a3[(fndM a5 a3).toNat]? fun x_1 =>
                      some
                        (PV.tup
                            [PV.sc (Value.int IntKind.i64 (IntKind.i64.wrap (a6 - x.snd.snd))),
                              PV.sc (Value.int IntKind.i64 0)],
                          [Blk.mix true
                              [PV.sc (Value.int IntKind.i64 a0), PV.sc (Value.int IntKind.i64 a1),
                                PV.sc (Value.int IntKind.i64 a2)]
                              (Kd.str.pair ((Kd.int IntKind.i64).pair (Kd.int IntKind.i64))) 32
                              (a3.set (fndM a5 a3).toNat (ByteArray.mk #[], 0, 0))
                              [PV.sc (Value.int IntKind.i64 a6)]]))))
          else
            some
              (PV.tup [PV.sc (Value.int IntKind.i64 0), PV.sc (Value.int IntKind.i64 11)],
                [Blk.mix true
                    [PV.sc (Value.int IntKind.i64 a0), PV.sc (Value.int IntKind.i64 a1),
                      PV.sc (Value.int IntKind.i64 a2)]
                    (Kd.str.pair ((Kd.int IntKind.i64).pair (Kd.int IntKind.i64))) 32 a3
                    [PV.sc (Value.int IntKind.i64 a4)]]))))) := by kernel_rfl
noncomputable abbrev h50aL (a0 : List (ByteArray × Int × Int)) (a1 : Bool) (a2 : List (ByteArray × Int × Int)) (a3 : Int) := evRound Try.prog H2 noCuts 22 (loopOf (codeAt 0 (bodyF Try.f50))) kLm muLm (killA 0 kLm) [3, 9, 10] [3] cLm ((a0, a1), (a2, (a3, ())))
theorem h50a (a0 : List (ByteArray × Int × Int)) (a1 : Bool) (a2 : List (ByteArray × Int × Int)) (a3 : Int) : h50aL a0 a1 a2 a3 = (bif decide (a3 < 32) then
  guardB (decide (0 ≤ a3) && decide (a3 < 32))
    (bindO a2[a3.toNat]? fun x =>
      bif !decide (x.fst = ByteArray.mk #[]) then
        guardB
          (decide (0 + a0.length ≤ a0.length) && true && decide ((a0.length + 1) * 32 ≤ 140737488355328) &&
            decide (a0.length + 1 ≤ 4611686018427387904))
          (guardB
            (decide
              (muLm ((List.take a0.length a0 ++ [x], false), a2, IntKind.i64.wrap (a3 + 1), PUnit.unit) <
                muLm ((a0, a1), a2, a3, ())))
            (guardB
              (bif decide (a0.length + 1 = (List.take a0.length a0 ++ [x]).length) then
                preA a2 (IntKind.i64.wrap (a3 + 1)) &&
                  decide ((↑(List.take a0.length a0 ++ [x]).length : Int) ≤ IntKind.i64.wrap (a3 + 1))
              else false)
              (some
                (Xt.exit 0,
                  [PV.sl 1 0 3
                      (lisR (List.take a0.length a0 ++ [x], false)
                            (List.drop (IntKind.i64.wrap (a3 + 1)).toNat a2)).fst.length
                      (lisR (List.take a0.length a0 ++ [x], false)
                            (List.drop (IntKind.i64.wrap (a3 + 1)).toNat a2)).fst.length
                      false
                      (lisR (List.take a0.length a0 ++ [x], false)
                          (List.drop (IntKind.i64.wrap (a3 + 1)).toNat a2)).snd],
                  [Blk.dead,
                    Blk.row true (Kd.str.pair ((Kd.int IntKind.i64).pair (Kd.int IntKind.i64)))
                      (lisR (List.take a0.length a0 ++ [x], false)
                          (List.drop (IntKind.i64.wrap (a3 + 1)).toNat a2)).fst]))))
      else
        guardB (decide (muLm ((a0, a1), a2, IntKind.i64.wrap (a3 + 1), PUnit.unit) < muLm ((a0, a1), a2, a3, ())))
          (guardB
            (bif decide (a0.length = a0.length) then
              preA a2 (IntKind.i64.wrap (a3 + 1)) && decide ((↑a0.length : Int) ≤ IntKind.i64.wrap (a3 + 1))
            else false)
            (some
              (Xt.exit 0,
                [PV.sl 1 0 3 (lisR (a0, a1) (List.drop (IntKind.i64.wrap (a3 + 1)).toNat a2)).fst.length
                    (lisR (a0, a1) (List.drop (IntKind.i64.wrap (a3 + 1)).toNat a2)).fst.length false
                    (lisR (a0, a1) (List.drop (IntKind.i64.wrap (a3 + 1)).toNat a2)).snd],
                [Blk.dead,
                  Blk.row true (Kd.str.pair ((Kd.int IntKind.i64).pair (Kd.int IntKind.i64)))
                    (lisR (a0, a1) (List.drop (IntKind.i64.wrap (a3 + 1)).toNat a2)).fst]))))
else
  some
    (Xt.exit 0, [PV.sl 1 0 3 a0.length a0.length false a1],
      [Blk.dead, Blk.row true (Kd.str.pair ((Kd.int IntKind.i64).pair (Kd.int IntKind.i64))) a0])) := by kernel_rfl
noncomputable abbrev h50L (a0 : Int) (a1 : Int) (a2 : Int) (a3 : List (ByteArray × Int × Int)) (a4 : Int) := evFuncV Try.prog H2 (addCut 0 [3, 9, 10] [3] (entC kLm cLm) noCuts) Try.f50 (killA 0 [mO]) (showA 0 [mO] (((a0, (a1, a2)), (a3, a4)), ())).1 (showA 0 [mO] (((a0, (a1, a2)), (a3, a4)), ())).2
theorem h50 (a0 : Int) (a1 : Int) (a2 : Int) (a3 : List (ByteArray × Int × Int)) (a4 : Int) : h50L a0 a1 a2 a3 a4 = (guardB (decide (a3.length = 32))
  (guardB (preA a3 0 && true)
    (some
      (PV.sl 1 0 3 (lisR ([], true) (List.drop (Int.toNat 0) a3)).fst.length
          (lisR ([], true) (List.drop (Int.toNat 0) a3)).fst.length false
          (lisR ([], true) (List.drop (Int.toNat 0) a3)).snd,
        [Blk.mix true
            [PV.sc (Value.int IntKind.i64 a0), PV.sc (Value.int IntKind.i64 a1), PV.sc (Value.int IntKind.i64 a2)]
            (Kd.str.pair ((Kd.int IntKind.i64).pair (Kd.int IntKind.i64))) 32 a3 [PV.sc (Value.int IntKind.i64 a4)],
          Blk.row true (Kd.str.pair ((Kd.int IntKind.i64).pair (Kd.int IntKind.i64)))
            (lisR ([], true) (List.drop (Int.toNat 0) a3)).fst])))) := by kernel_rfl
noncomputable abbrev h86L (a0 : Int) (a1 : Int) (a2 : Int) (a3 : List (ByteArray × Int × Int)) (a4 : Bool) (a5 : Int) (a6 : ByteArray) := evFuncV Try.prog H2 noCuts Try.f86 (killA 0 [bR, sS]) (showA 0 [bR, sS] (((a0, (a1, a2)), ((a3, a4), (a5, ()))), (a6, ()))).1 (showA 0 [bR, sS] (((a0, (a1, a2)), ((a3, a4), (a5, ()))), (a6, ()))).2
theorem h86 (a0 : Int) (a1 : Int) (a2 : Int) (a3 : List (ByteArray × Int × Int)) (a4 : Bool) (a5 : Int) (a6 : ByteArray) : h86L a0 a1 a2 a3 a4 a5 a6 = (guardB (bif decide (0 + a3.length ≤ a3.length) then decide ((List.take a3.length a3).length ≤ 1000000) else false)
  (some
    (PV.sc (Value.int IntKind.i64 (ixT a6 (List.take a3.length a3))),
      [Blk.fix true
          [PV.sc (Value.int IntKind.i64 a0), PV.sc (Value.int IntKind.i64 a1), PV.sc (Value.int IntKind.i64 a2),
            PV.sl 1 0 3 a3.length a3.length false a4, PV.sc (Value.int IntKind.i64 a5)],
        Blk.row false (Kd.str.pair ((Kd.int IntKind.i64).pair (Kd.int IntKind.i64))) a3]))) := by kernel_rfl
noncomputable abbrev h39L (a0 : Int) (a1 : Int) (a2 : Int) := evFuncV Try.prog H2 noCuts Try.f39 (killA 0 [sSet]) (showA 0 [sSet] ((a0, (a1, a2)), ())).1 (showA 0 [sSet] ((a0, (a1, a2)), ())).2
theorem h39 (a0 : Int) (a1 : Int) (a2 : Int) : h39L a0 a1 a2 = (bif chkE (a0, a1, a2) != 0 then
  some (PV.tup [PV.sc (Value.pointer none), PV.sc (Value.int IntKind.i64 (chkE (a0, a1, a2)))], [])
else
  some
    (PV.tup [PV.ptr 0 0 1 0, PV.sc (Value.int IntKind.i64 0)],
      [Blk.fix true
          [PV.sc (Value.int IntKind.i64 a0), PV.sc (Value.int IntKind.i64 a1), PV.sc (Value.int IntKind.i64 a2),
            PV.sc (Value.slice none 0 0), PV.sc (Value.int IntKind.i64 0)]])) := by kernel_rfl
noncomputable abbrev h49L (a0 : Int) (a1 : Int) (a2 : Int) (a3 : List (ByteArray × Int × Int)) (a4 : Bool) (a5 : Int) := evFuncV Try.prog H2 noCuts Try.f49 (killA 0 [bR]) (showA 0 [bR] (((a0, (a1, a2)), ((a3, a4), (a5, ()))), ())).1 (showA 0 [bR] (((a0, (a1, a2)), ((a3, a4), (a5, ()))), ())).2
theorem h49 (a0 : Int) (a1 : Int) (a2 : Int) (a3 : List (ByteArray × Int × Int)) (a4 : Bool) (a5 : Int) : h49L a0 a1 a2 a3 a4 a5 = (guardB (bif decide (0 + a3.length ≤ a3.length) then decide ((List.take a3.length a3).length ≤ 100) else false)
  (bif a4 then
    some
      (PV.sc (Value.slice none 0 0),
        [Blk.fix true
            [PV.sc (Value.int IntKind.i64 a0), PV.sc (Value.int IntKind.i64 a1), PV.sc (Value.int IntKind.i64 a2),
              PV.sl 1 0 3 a3.length a3.length false a4, PV.sc (Value.int IntKind.i64 a5)],
          Blk.row false (Kd.str.pair ((Kd.int IntKind.i64).pair (Kd.int IntKind.i64))) a3])
  else
    some
      (PV.sl 2 0 3 (List.take a3.length a3).length (List.take a3.length a3).length false false,
        [Blk.fix true
            [PV.sc (Value.int IntKind.i64 a0), PV.sc (Value.int IntKind.i64 a1), PV.sc (Value.int IntKind.i64 a2),
              PV.sl 1 0 3 a3.length a3.length false a4, PV.sc (Value.int IntKind.i64 a5)],
          Blk.row false (Kd.str.pair ((Kd.int IntKind.i64).pair (Kd.int IntKind.i64))) a3,
          Blk.row true (Kd.str.pair ((Kd.int IntKind.i64).pair (Kd.int IntKind.i64))) (List.take a3.length a3)]))) := by kernel_rfl
noncomputable abbrev h40L (a0 : Int) (a1 : Int) (a2 : Int) (a3 : List (ByteArray × Int × Int)) (a4 : Bool) (a5 : Int) (a6 : ByteArray) (a7 : Int) := evFuncV Try.prog H3 noCuts Try.f40 (killA 0 kEn) (showA 0 kEn (((a0, (a1, a2)), ((a3, a4), (a5, ()))), (a6, (a7, ())))).1 (showA 0 kEn (((a0, (a1, a2)), ((a3, a4), (a5, ()))), (a6, (a7, ())))).2
theorem h40 (a0 : Int) (a1 : Int) (a2 : Int) (a3 : List (ByteArray × Int × Int)) (a4 : Bool) (a5 : Int) (a6 : ByteArray) (a7 : Int) : h40L a0 a1 a2 a3 a4 a5 a6 a7 = (guardB (decide (a6.size ≤ 1000000000000000000))
  (bif !namS a6 then
    some
      (PV.tup [PV.sc (Value.int IntKind.i64 0), PV.sc (Value.int IntKind.i64 6)],
        [Blk.fix true
            [PV.sc (Value.int IntKind.i64 a0), PV.sc (Value.int IntKind.i64 a1), PV.sc (Value.int IntKind.i64 a2),
              PV.sl 2 0 3 a3.length a3.length false a4, PV.sc (Value.int IntKind.i64 a5)],
          Blk.dead, Blk.row true (Kd.str.pair ((Kd.int IntKind.i64).pair (Kd.int IntKind.i64))) a3])
  else
    guardB (bif decide (0 + a3.length ≤ a3.length) then decide ((List.take a3.length a3).length ≤ 1000) else false)
      (bif decide (ixT a6 (List.take a3.length a3) ≥ 0) then
        some
          (PV.tup [PV.sc (Value.int IntKind.i64 0), PV.sc (Value.int IntKind.i64 7)],
            [Blk.fix true
                [PV.sc (Value.int IntKind.i64 a0), PV.sc (Value.int IntKind.i64 a1), PV.sc (Value.int IntKind.i64 a2),
                  PV.sl 2 0 3 (List.take a3.length a3).length (List.take a3.length a3).length false a4,
                  PV.sc (Value.int IntKind.i64 a5)],
              Blk.dead, Blk.row true (Kd.str.pair ((Kd.int IntKind.i64).pair (Kd.int IntKind.i64))) a3])
      else
        guardB (bif decide (0 + (List.take a3.length a3).length ≤ a3.length) then true else false)
          (bif !atB a7 a5 then
            some
              (PV.tup [PV.sc (Value.int IntKind.i64 0), PV.sc (Value.int IntKind.i64 12)],
                [Blk.fix true
                    [PV.sc (Value.int IntKind.i64 a0), PV.sc (Value.int IntKind.i64 a1),
                      PV.sc (Value.int IntKind.i64 a2),
                      PV.sl 2 0 3 (List.take (List.take a3.length a3).length a3).length
                        (List.take (List.take a3.length a3).length a3).length false a4,
                      PV.sc (Value.int IntKind.i64 a5)],
                  Blk.dead, Blk.row true (Kd.str.pair ((Kd.int IntKind.i64).pair (Kd.int IntKind.i64))) a3])
          else
            bif decide ((↑(List.take (List.take a3.length a3).length a3).length : Int) > 0) then
              guardB
                (decide (0 ≤ IntKind.i64.wrap ((↑(List.take (List.take a3.length a3).length a3).length : Int) - 1)) &&
                  decide
                    (IntKind.i64.wrap ((↑(List.take (List.take a3.length a3).length a3).length : Int) - 1) <
                      (↑(List.take (List.take a3.length a3).length a3).length : Int)))
                (bindO
                  a3[0 + (IntKind.i64.wrap ((↑(List.take (List.take a3.length a3).length a3).length : Int) - 1)).toNat]?
                  fun x =>
                  bif decide (IntKind.i64.wrap (x.snd.fst + a2) > a1) then
                    some
                      (PV.tup [PV.sc (Value.int IntKind.i64 0), PV.sc (Value.int IntKind.i64 9)],
                        [Blk.fix true
                            [PV.sc (Value.int IntKind.i64 a0), PV.sc (Value.int IntKind.i64 a1),
                              PV.sc (Value.int IntKind.i64 a2),
                              PV.sl 2 0 3 (List.take (List.take a3.length a3).length a3).length
                                (List.take (List.take a3.length a3).length a3).length false a4,
                              PV.sc (Value.int IntKind.i64 a5)],
                          Blk.dead, Blk.row true (Kd.str.pair ((Kd.int IntKind.i64).pair (Kd.int IntKind.i64))) a3])
                  else
                    guardB
                      (decide (0 + (List.take (List.take a3.length a3).length a3).length ≤ a3.length) && true &&
                          decide (((List.take (List.take a3.length a3).length a3).length + 1) * 32 ≤ 140737488355328) &&
                        decide ((List.take (List.take a3.length a3).length a3).length + 1 ≤ 4611686018427387904))
                      (some
                        (PV.tup
                            [PV.sc (Value.int IntKind.i64 (IntKind.i64.wrap (x.snd.fst + a2))),
                              PV.sc (Value.int IntKind.i64 0)],
                          [Blk.fix true
                              [PV.sc (Value.int IntKind.i64 a0), PV.sc (Value.int IntKind.i64 a1),
                                PV.sc (Value.int IntKind.i64 a2),
                                PV.sl 2 0 3 ((List.take (List.take a3.length a3).length a3).length + 1)
                                  ((List.take (List.take a3.length a3).length a3).length + 1) false false,
                                PV.sc (Value.int IntKind.i64 a7)],
                            Blk.dead,
                            Blk.row true (Kd.str.pair ((Kd.int IntKind.i64).pair (Kd.int IntKind.i64)))
                              (List.take (List.take (List.take a3.length a3).length a3).length a3 ++
                                [(a6, IntKind.i64.wrap (x.snd.fst + a2), a7)])])))
            else
              bif decide (a0 > a1) then
                some
                  (PV.tup [PV.sc (Value.int IntKind.i64 0), PV.sc (Value.int IntKind.i64 9)],
                    [Blk.fix true
                        [PV.sc (Value.int IntKind.i64 a0), PV.sc (Value.int IntKind.i64 a1),
                          PV.sc (Value.int IntKind.i64 a2),
                          PV.sl 2 0 3 (List.take (List.take a3.length a3).length a3).length
                            (List.take (List.take a3.length a3).length a3).length false a4,
                          PV.sc (Value.int IntKind.i64 a5)],
                      Blk.dead, Blk.row true (Kd.str.pair ((Kd.int IntKind.i64).pair (Kd.int IntKind.i64))) a3])
              else
                guardB
                  (decide (0 + (List.take (List.take a3.length a3).length a3).length ≤ a3.length) && true &&
                      decide (((List.take (List.take a3.length a3).length a3).length + 1) * 32 ≤ 140737488355328) &&
                    decide ((List.take (List.take a3.length a3).length a3).length + 1 ≤ 4611686018427387904))
                  (some
                    (PV.tup [PV.sc (Value.int IntKind.i64 a0), PV.sc (Value.int IntKind.i64 0)],
                      [Blk.fix true
                          [PV.sc (Value.int IntKind.i64 a0), PV.sc (Value.int IntKind.i64 a1),
                            PV.sc (Value.int IntKind.i64 a2),
                            PV.sl 2 0 3 ((List.take (List.take a3.length a3).length a3).length + 1)
                              ((List.take (List.take a3.length a3).length a3).length + 1) false false,
                            PV.sc (Value.int IntKind.i64 a7)],
                        Blk.dead,
                        Blk.row true (Kd.str.pair ((Kd.int IntKind.i64).pair (Kd.int IntKind.i64)))
                          (List.take (List.take (List.take a3.length a3).length a3).length a3 ++ [(a6, a0, a7)])])))))) := by kernel_rfl
noncomputable abbrev h44aL (a0 : Int) (a1 : Int) (a2 : Int) (a3 : List (ByteArray × Int × Int)) (a4 : Bool) (a5 : Int) (a6 : Int) (a7 : Int) (a8 : Int) (a9 : Int) := evRound Try.prog H3 noCuts 74 (loopOf (codeAt 0 (bodyF Try.f44))) kDn muDn (killA 0 kDn) [0, 6, 7, 26, 27] [6] cDn (((a0, (a1, a2)), ((a3, a4), (a5, ()))), (a6, (a7, (a8, (a9, ())))))
theorem h44a (a0 : Int) (a1 : Int) (a2 : Int) (a3 : List (ByteArray × Int × Int)) (a4 : Bool) (a5 : Int) (a6 : Int) (a7 : Int) (a8 : Int) (a9 : Int) : h44aL a0 a1 a2 a3 a4 a5 a6 a7 a8 a9 = (bif decide (a9 < a8) then
  guardB (decide (0 ≤ a9) && decide (a9 < (↑a3.length : Int)))
    (bindO a3[0 + a9.toNat]? fun x =>
      bif decide (x.snd.fst > a7) then
        guardB (decide (0 ≤ a9) && decide (a9 < (↑a3.length : Int)))
          (bindO a3[0 + a9.toNat]? fun x =>
            guardB (decide (0 ≤ a9) && decide (a9 < (↑a3.length : Int)))
              (bindO a3[0 + a9.toNat]? fun x_1 =>
                guardB (decide (0 ≤ a9) && decide (a9 < (↑a3.length : Int)))
                  (bindO
                    (a3.set (0 + a9.toNat) (x_1.fst, IntKind.i64.wrap (x.snd.fst - a2), x_1.snd.snd))[0 + a9.toNat]?
                    fun x_2 =>
                    guardB
                      (decide
                        (muDn
                            (((a0, a1, a2),
                                (a3.set (0 + a9.toNat) (x_1.fst, IntKind.i64.wrap (x.snd.fst - a2), x_1.snd.snd), a4),
                                a5, PUnit.unit),
                              IntKind.i64.wrap (a6 + 1), IntKind.i64.wrap (x_2.snd.fst + a2), a8,
                              IntKind.i64.wrap (a9 + 1), PUnit.unit) <
                          muDn (((a0, a1, a2), (a3, a4), a5, ()), a6, a7, a8, a9, ())))
                      (guardB
                        (bif
                            decide
                              (a3.length =
                                (a3.set (0 + a9.toNat)
                                    (x_1.fst, IntKind.i64.wrap (x.snd.fst - a2), x_1.snd.snd)).length) then
                          bp
                            (setOK (a0, a1, a2) ∧
                              hiB
                                    (List.drop (IntKind.i64.wrap (a9 + 1)).toNat
                                      (a3.set (0 + a9.toNat)
                                        (x_1.fst, IntKind.i64.wrap (x.snd.fst - a2), x_1.snd.snd))) =
                                  true ∧
                                (a3.set (0 + a9.toNat)
                                        (x_1.fst, IntKind.i64.wrap (x.snd.fst - a2), x_1.snd.snd)).length ≤
                                    64 ∧
                                  a8 =
                                      (↑(a3.set (0 + a9.toNat)
                                              (x_1.fst, IntKind.i64.wrap (x.snd.fst - a2), x_1.snd.snd)).length :
                                        Int) ∧
                                    0 ≤ IntKind.i64.wrap (a9 + 1) ∧
                                      IntKind.i64.wrap (a9 + 1) ≤ a8 ∧
                                        0 ≤ IntKind.i64.wrap (a6 + 1) ∧
                                          IntKind.i64.wrap (a6 + 1) ≤ IntKind.i64.wrap (a9 + 1) ∧
                                            0 ≤ IntKind.i64.wrap (x_2.snd.fst + a2) ∧
                                              IntKind.i64.wrap (x_2.snd.fst + a2) ≤ 200000)
                        else false)
                        (some
                          (Xt.exit 0,
                            [PV.sc
                                (Value.int IntKind.i64
                                  (IntKind.i64.wrap (a6 + 1) +
                                    (dnK a2 (IntKind.i64.wrap (x_2.snd.fst + a2))
                                        (a3.set (0 + a9.toNat)
                                          (x_1.fst, IntKind.i64.wrap (x.snd.fst - a2), x_1.snd.snd))
                                        (IntKind.i64.wrap (a9 + 1))).snd))],
                            [Blk.fix true
                                [PV.sc (Value.int IntKind.i64 a0), PV.sc (Value.int IntKind.i64 a1),
                                  PV.sc (Value.int IntKind.i64 a2),
                                  PV.sl 2 0 3
                                    (dnK a2 (IntKind.i64.wrap (x_2.snd.fst + a2))
                                          (a3.set (0 + a9.toNat)
                                            (x_1.fst, IntKind.i64.wrap (x.snd.fst - a2), x_1.snd.snd))
                                          (IntKind.i64.wrap (a9 + 1))).fst.length
                                    (dnK a2 (IntKind.i64.wrap (x_2.snd.fst + a2))
                                          (a3.set (0 + a9.toNat)
                                            (x_1.fst, IntKind.i64.wrap (x.snd.fst - a2), x_1.snd.snd))
                                          (IntKind.i64.wrap (a9 + 1))).fst.length
                                    false a4,
                                  PV.sc (Value.int IntKind.i64 a5)],
                              Blk.dead,
                              Blk.row true (Kd.str.pair ((Kd.int IntKind.i64).pair (Kd.int IntKind.i64)))
                                (List.take (IntKind.i64.wrap (a9 + 1)).toNat
                                    (a3.set (0 + a9.toNat) (x_1.fst, IntKind.i64.wrap (x.snd.fst - a2), x_1.snd.snd)) ++
                                  (dnR a2 (IntKind.i64.wrap (x_2.snd.fst + a2))
                                      (List.drop (IntKind.i64.wrap (a9 + 1)).toNat
                                        (a3.set (0 + a9.toNat)
                                          (x_1.fst, IntKind.i64.wrap (x.snd.fst - a2), x_1.snd.snd)))).fst)]))))))
      else
        guardB (decide (0 ≤ a9) && decide (a9 < (↑a3.length : Int)))
          (bindO a3[0 + a9.toNat]? fun x =>
            guardB
              (decide
                (muDn
                    (((a0, a1, a2), (a3, a4), a5, PUnit.unit), a6, IntKind.i64.wrap (x.snd.fst + a2), a8,
                      IntKind.i64.wrap (a9 + 1), PUnit.unit) <
                  muDn (((a0, a1, a2), (a3, a4), a5, ()), a6, a7, a8, a9, ())))
              (guardB
                (bif decide (a3.length = a3.length) then
                  bp
                    (setOK (a0, a1, a2) ∧
                      hiB (List.drop (IntKind.i64.wrap (a9 + 1)).toNat a3) = true ∧
                        a3.length ≤ 64 ∧
                          a8 = (↑a3.length : Int) ∧
                            0 ≤ IntKind.i64.wrap (a9 + 1) ∧
                              IntKind.i64.wrap (a9 + 1) ≤ a8 ∧
                                0 ≤ a6 ∧
                                  a6 ≤ IntKind.i64.wrap (a9 + 1) ∧
                                    0 ≤ IntKind.i64.wrap (x.snd.fst + a2) ∧ IntKind.i64.wrap (x.snd.fst + a2) ≤ 200000)
                else false)
                (some
                  (Xt.exit 0,
                    [PV.sc
                        (Value.int IntKind.i64
                          (a6 + (dnK a2 (IntKind.i64.wrap (x.snd.fst + a2)) a3 (IntKind.i64.wrap (a9 + 1))).snd))],
                    [Blk.fix true
                        [PV.sc (Value.int IntKind.i64 a0), PV.sc (Value.int IntKind.i64 a1),
                          PV.sc (Value.int IntKind.i64 a2),
                          PV.sl 2 0 3
                            (dnK a2 (IntKind.i64.wrap (x.snd.fst + a2)) a3 (IntKind.i64.wrap (a9 + 1))).fst.length
                            (dnK a2 (IntKind.i64.wrap (x.snd.fst + a2)) a3 (IntKind.i64.wrap (a9 + 1))).fst.length false
                            a4,
                          PV.sc (Value.int IntKind.i64 a5)],
                      Blk.dead,
                      Blk.row true (Kd.str.pair ((Kd.int IntKind.i64).pair (Kd.int IntKind.i64)))
                        (List.take (IntKind.i64.wrap (a9 + 1)).toNat a3 ++
                          (dnR a2 (IntKind.i64.wrap (x.snd.fst + a2))
                              (List.drop (IntKind.i64.wrap (a9 + 1)).toNat a3)).fst)])))))
else
  some
    (Xt.exit 0, [PV.sc (Value.int IntKind.i64 a6)],
      [Blk.fix true
          [PV.sc (Value.int IntKind.i64 a0), PV.sc (Value.int IntKind.i64 a1), PV.sc (Value.int IntKind.i64 a2),
            PV.sl 2 0 3 a3.length a3.length false a4, PV.sc (Value.int IntKind.i64 a5)],
        Blk.dead, Blk.row true (Kd.str.pair ((Kd.int IntKind.i64).pair (Kd.int IntKind.i64))) a3])) := by kernel_rfl
noncomputable abbrev h44L (a0 : Int) (a1 : Int) (a2 : Int) (a3 : List (ByteArray × Int × Int)) (a4 : Bool) (a5 : Int) (a6 : Int) := evFuncV Try.prog H3 (addCut 0 [0, 6, 7, 26, 27] [6] (entC kDn cDn) noCuts) Try.f44 (killA 0 kDo) (showA 0 kDo (((a0, (a1, a2)), ((a3, a4), (a5, ()))), (a6, ()))).1 (showA 0 kDo (((a0, (a1, a2)), ((a3, a4), (a5, ()))), (a6, ()))).2
theorem h44 (a0 : Int) (a1 : Int) (a2 : Int) (a3 : List (ByteArray × Int × Int)) (a4 : Bool) (a5 : Int) (a6 : Int) : h44L a0 a1 a2 a3 a4 a5 a6 = (guardB (bif decide (0 + a3.length ≤ a3.length) then true else false)
  (bif !atB a6 a5 then
    some
      (PV.tup [PV.sc (Value.int IntKind.i64 0), PV.sc (Value.int IntKind.i64 12)],
        [Blk.fix true
            [PV.sc (Value.int IntKind.i64 a0), PV.sc (Value.int IntKind.i64 a1), PV.sc (Value.int IntKind.i64 a2),
              PV.sl 2 0 3 (List.take a3.length a3).length (List.take a3.length a3).length false a4,
              PV.sc (Value.int IntKind.i64 a5)],
          Blk.dead, Blk.row true (Kd.str.pair ((Kd.int IntKind.i64).pair (Kd.int IntKind.i64))) a3])
  else
    guardB
      (bif decide ((List.take a3.length a3).length = a3.length) then
        bp
          (setOK (a0, a1, a2) ∧
            hiB (List.drop (Int.toNat 0) a3) = true ∧
              a3.length ≤ 64 ∧
                (↑(List.take a3.length a3).length : Int) = (↑a3.length : Int) ∧
                  (0 : Int) ≤ 0 ∧ 0 ≤ (↑(List.take a3.length a3).length : Int) ∧ (0 : Int) ≤ 0 ∧ (0 : Int) ≤ 0 ∧ 0 ≤ a0 ∧ a0 ≤ 200000)
      else false)
      (some
        (PV.tup [PV.sc (Value.int IntKind.i64 (0 + (dnK a2 a0 a3 0).snd)), PV.sc (Value.int IntKind.i64 0)],
          [Blk.fix true
              [PV.sc (Value.int IntKind.i64 a0), PV.sc (Value.int IntKind.i64 a1), PV.sc (Value.int IntKind.i64 a2),
                PV.sl 2 0 3 (dnK a2 a0 a3 0).fst.length (dnK a2 a0 a3 0).fst.length false a4,
                PV.sc (Value.int IntKind.i64 a6)],
            Blk.dead,
            Blk.row true (Kd.str.pair ((Kd.int IntKind.i64).pair (Kd.int IntKind.i64)))
              (dnR a2 a0 (List.drop (Int.toNat 0) a3)).fst])))) := by kernel_rfl
noncomputable abbrev h46L (a0 : Int) (a1 : Int) (a2 : Int) (a3 : List (ByteArray × Int × Int)) (a4 : Bool) (a5 : Int) (a6 : ByteArray) (a7 : Int) := evFuncV Try.prog H3 noCuts Try.f46 (killA 0 kEn) (showA 0 kEn (((a0, (a1, a2)), ((a3, a4), (a5, ()))), (a6, (a7, ())))).1 (showA 0 kEn (((a0, (a1, a2)), ((a3, a4), (a5, ()))), (a6, (a7, ())))).2
theorem h46 (a0 : Int) (a1 : Int) (a2 : Int) (a3 : List (ByteArray × Int × Int)) (a4 : Bool) (a5 : Int) (a6 : ByteArray) (a7 : Int) : h46L a0 a1 a2 a3 a4 a5 a6 a7 = (guardB (bif decide (0 + a3.length ≤ a3.length) then decide ((List.take a3.length a3).length ≤ 1000) else false)
  (bif decide (ixT a6 (List.take a3.length a3) < 0) then
    some
      (PV.tup [PV.sc (Value.int IntKind.i64 0), PV.sc (Value.int IntKind.i64 8)],
        [Blk.fix true
            [PV.sc (Value.int IntKind.i64 a0), PV.sc (Value.int IntKind.i64 a1), PV.sc (Value.int IntKind.i64 a2),
              PV.sl 2 0 3 (List.take a3.length a3).length (List.take a3.length a3).length false a4,
              PV.sc (Value.int IntKind.i64 a5)],
          Blk.dead, Blk.row true (Kd.str.pair ((Kd.int IntKind.i64).pair (Kd.int IntKind.i64))) a3])
  else
    guardB (bif decide (0 + (List.take a3.length a3).length ≤ a3.length) then true else false)
      (bif !atB a7 a5 then
        some
          (PV.tup [PV.sc (Value.int IntKind.i64 0), PV.sc (Value.int IntKind.i64 12)],
            [Blk.fix true
                [PV.sc (Value.int IntKind.i64 a0), PV.sc (Value.int IntKind.i64 a1), PV.sc (Value.int IntKind.i64 a2),
                  PV.sl 2 0 3 (List.take (List.take a3.length a3).length a3).length
                    (List.take (List.take a3.length a3).length a3).length false a4,
                  PV.sc (Value.int IntKind.i64 a5)],
              Blk.dead, Blk.row true (Kd.str.pair ((Kd.int IntKind.i64).pair (Kd.int IntKind.i64))) a3])
      else
        bif decide (ixT a6 (List.take a3.length a3) > 0) then
          some
            (PV.tup [PV.sc (Value.int IntKind.i64 0), PV.sc (Value.int IntKind.i64 11)],
              [Blk.fix true
                  [PV.sc (Value.int IntKind.i64 a0), PV.sc (Value.int IntKind.i64 a1), PV.sc (Value.int IntKind.i64 a2),
                    PV.sl 2 0 3 (List.take (List.take a3.length a3).length a3).length
                      (List.take (List.take a3.length a3).length a3).length false a4,
                    PV.sc (Value.int IntKind.i64 a5)],
                Blk.dead, Blk.row true (Kd.str.pair ((Kd.int IntKind.i64).pair (Kd.int IntKind.i64))) a3])
        else
          guardB (decide (0 < (↑(List.take (List.take a3.length a3).length a3).length : Int)))
            (bindO a3[0]? fun x =>
              guardB
                (bif decide ((List.take (List.take a3.length a3).length a3).length = a3.length) then
                  decide ((1 : Int) = 0 + 1 ∧ (0 : Int) ≤ 0 ∧ 0 < (↑a3.length : Int) ∧ a3.length ≤ 1000)
                else false)
                (some
                  (PV.tup
                      [PV.sc (Value.int IntKind.i64 (IntKind.i64.wrap (a7 - x.snd.snd))),
                        PV.sc (Value.int IntKind.i64 0)],
                    [Blk.fix true
                        [PV.sc (Value.int IntKind.i64 a0), PV.sc (Value.int IntKind.i64 a1),
                          PV.sc (Value.int IntKind.i64 a2),
                          PV.sl 2 0 3 (a3.eraseIdx (Int.toNat 0)).length (a3.eraseIdx (Int.toNat 0)).length false a4,
                          PV.sc (Value.int IntKind.i64 a7)],
                      Blk.dead,
                      Blk.row true (Kd.str.pair ((Kd.int IntKind.i64).pair (Kd.int IntKind.i64)))
                        (a3.eraseIdx (Int.toNat 0))])))))) := by kernel_rfl
/-! ### The model -/
theorem occ_eq (x : T3) : (!decide (x.1 = ByteArray.mk #[])) = occT x := rfl
theorem top_step {L : List T3} {k a : Int} {x : T3} (h0 : 0 ≤ k) (hx : L[k.toNat]? = some x) : topR k a (L.drop k.toNat) = topR (k + 1) (bif occT x then k + 1 else a) (L.drop (k + 1).toNat) := by
  rw [drop_cons hx, show (k + 1).toNat = k.toNat + 1 by omega]; rfl
theorem top_bd : ∀ (l : List T3) (k a : Int), 0 ≤ a → a ≤ k → 0 ≤ topR k a l ∧ topR k a l ≤ k + (l.length : Int)
  | [], k, a, h0, h1 => ⟨h0, by simpa [topR] using h1⟩
  | x :: r, k, a, h0, h1 => by
    unfold topR
    have := top_bd r (k + 1) (bif occT x then k + 1 else a) (by cases occT x <;> simp <;> omega) (by cases occT x <;> simp <;> omega)
    simp only [List.length_cons]
    omega
theorem topM_bd {L : List T3} (h : L.length = 32) : 0 ≤ topM L ∧ topM L ≤ 32 := by
  have := top_bd L 0 0 (by omega) (by omega)
  unfold topM; omega
theorem q43a (L : List T3) (k a : Int) (h : (preA L k && decide (0 ≤ a ∧ a ≤ k)) = true) : h43aL L k a = some (Xt.exit 0, [PV.sc (.int .i64 (topR k a (L.drop k.toNat)))], []) := by
  rw [Bool.and_eq_true] at h
  obtain ⟨h1, h2, h3⟩ := of_decide_eq_true h.1
  obtain ⟨h4, h5⟩ := of_decide_eq_true h.2
  rw [h43a]
  refine cond_split (fun h => ?_) (fun h => ?_)
  · have h := of_decide_eq_true h
    obtain ⟨x, hx⟩ := get_ex (l := L) (k := k.toNat) (by omega)
    rw [top_step h2 hx, hx, IntWalk.i64_in (k + 1) (by omega)]
    refine guard_split (by simp; omega) ?_
    simp only [bindO]
    rw [occ_eq]
    have hp : preA L (k + 1) = true := decide_eq_true ⟨h1, by omega, by omega⟩
    rw [hp]
    cases occT x with
    | true => exact guard_split (decide_eq_true (show (32 - (k + 1)).toNat < (32 - k).toNat by omega)) (guard_split (by simp; omega) rfl)
    | false => exact guard_split (decide_eq_true (show (32 - (k + 1)).toNat < (32 - k).toNat by omega)) (guard_split (by simp; omega) rfl)
  · have h := of_decide_eq_false h
    rw [List.drop_eq_nil_of_le (by omega)]; rfl
abbrev ansM (m : MD) (v e : Int) : Option (PV × List Blk) := some (.tup [.sc (.int .i64 v), .sc (.int .i64 e)], [mixM m])
theorem q43 (m : MD) (c : ByteArray) (t : Int) (h : preM m c) : h43L m.1.1 m.1.2.1 m.1.2.2 m.2.1 m.2.2 c t = ansM (menM m c t) (menV m c t) (menE m c t) := by
  obtain ⟨hs, hlv, hl, hh, ht, hl0, hc⟩ := h
  rw [h43]
  refine guard_split (decide_eq_true hc) ?_
  have eE : menE m c t = bif !namS c then 6 else bif decide (fndM c m.2.1 ≥ 0) then 7 else bif !inS t m.2.2 200000 then 12 else bif decide (topM m.2.1 ≥ lvlM m.1) then 9 else 0 := rfl
  unfold menM menV
  rw [eE]
  cases namS c with
  | false => rfl
  | true =>
    simp only [Bool.not_true, cond_false, decide_eq_true hl, guardB, cond_true]
    cases decide (fndM c m.2.1 ≥ 0) with
    | true => rfl
    | false =>
      simp only [cond_false]
      cases inS t m.2.2 200000 with
      | false => rfl
      | true =>
        simp only [Bool.not_true, cond_false]
        have hp : preA m.2.1 0 = true := decide_eq_true ⟨hl, by omega, by omega⟩
        rw [hp]
        simp only [Bool.true_and]
        have hb := bp_mk hs
        change (bif bp (setOK (m.1.1, m.1.2.1, m.1.2.2)) then (bif decide (topM m.2.1 ≥ lvlM m.1) then _ else _) else _) = _
        rw [show (m.1.1, m.1.2.1, m.1.2.2) = m.1 from rfl, hb, cond_true]
        have htop := topM_bd hl
        change (bif decide (topM m.2.1 ≥ lvlM m.1) then _ else (bif (decide (0 ≤ topM m.2.1) && decide (topM m.2.1 < 32)) then (bindO m.2.1[(topM m.2.1).toNat]? fun x => some (PV.tup [.sc (.int .i64 (IntKind.i64.wrap (m.1.1 + IntKind.i64.wrap (topM m.2.1 * m.1.2.2)))), .sc (.int .i64 0)], [mixM (m.1, m.2.1.set (topM m.2.1).toNat (c, IntKind.i64.wrap (m.1.1 + IntKind.i64.wrap (topM m.2.1 * m.1.2.2)), t), t)])) else none)) = _
        cases e : decide (topM m.2.1 ≥ lvlM m.1) with
        | true => rfl
        | false =>
          have e := of_decide_eq_false e
          obtain ⟨x, hx⟩ := get_ex (l := m.2.1) (k := (topM m.2.1).toNat) (by omega)
          obtain ⟨g1, g2, g3, g4, g5⟩ := hs
          have hm0 : 0 ≤ topM m.2.1 * m.1.2.2 := Int.mul_nonneg (by omega) (by omega)
          have hm1 : topM m.2.1 * m.1.2.2 ≤ 32 * 10000 := Int.mul_le_mul (by omega) (by omega) (by omega) (by omega)
          rw [hx, IntWalk.i64_in (topM m.2.1 * m.1.2.2) (by omega), IntWalk.i64_in (m.1.1 + topM m.2.1 * m.1.2.2) (by omega), decide_eq_true htop.1, decide_eq_true (show topM m.2.1 < 32 by omega)]
          rfl
/-! ### Down -/
theorem atT_mid (P : List T3) (y : T3) (Q : List T3) : atT (P ++ y :: Q) (P.length : Int) = y := by
  unfold atT
  rw [Int.toNat_natCast, List.getD, List.getElem?_append_right (Nat.le_refl _), Nat.sub_self]; rfl
theorem dwn_at (s : Int) (P : List T3) (y : T3) (Q : List T3) (k : Int) (hk : k = (P.length : Int) + 1) : dwnM s (P ++ y :: Q) k = (P ++ (dwnR s y Q).1, (dwnR s y Q).2) := by
  subst hk
  unfold dwnM
  have e1 : (P.length : Int) + 1 - 1 = (P.length : Int) := by omega
  have e2 : ((P.length : Int) + 1).toNat = P.length + 1 := by omega
  rw [e1, e2, atT_mid, Int.toNat_natCast, List.take_left']
  · have e3 : (P ++ y :: Q).drop (P.length + 1) = Q := by
      rw [← List.drop_drop, List.drop_left']; rfl
      rfl
    rw [e3]
  · rfl
theorem spl2 {L : List T3} {k : Int} {x y : T3} (h1 : 1 ≤ k) (hx : L[k.toNat]? = some x) (hy : L[(k - 1).toNat]? = some y) : ∃ P R, L = P ++ y :: x :: R ∧ (P.length : Int) = k - 1 := by
  refine ⟨L.take (k - 1).toNat, L.drop (k.toNat + 1), ?_, ?_⟩
  · rw [← drop_cons hx, show k.toNat = (k - 1).toNat + 1 by omega, ← drop_cons hy, List.take_append_drop]
  · have := (List.getElem?_eq_some_iff.1 hy).1
    rw [List.length_take]; omega
theorem set_mid (P : List T3) (y z : T3) (Q : List T3) (n : Nat) (h : n = P.length) : (P ++ y :: Q).set n z = P ++ z :: Q := by
  subst h
  rw [List.set_append_right _ _ (Nat.le_refl _), Nat.sub_self]; rfl
theorem set_mid2 (P : List T3) (y x z : T3) (Q : List T3) (n : Nat) (h : n = P.length + 1) : (P ++ y :: x :: Q).set n z = P ++ y :: z :: Q := by
  have := set_mid (P ++ [y]) x z Q n (by simp [h])
  simpa using this
theorem get_mid (P : List T3) (y : T3) (Q : List T3) (n : Nat) (h : n = P.length) : (P ++ y :: Q)[n]? = some y := by
  subst h; simp
theorem dwn_mv {s : Int} {P : List T3} {x y : T3} {R : List T3} {k : Int} (hk : k = (P.length : Int) + 1) (ho : occT x = true) (hf : occT y = false) :
    dwnM s (P ++ y :: x :: R) k = ((dwnM s (P ++ (x.1, x.2.1 - s, x.2.2) :: zT :: R) (k + 1)).1, (dwnM s (P ++ (x.1, x.2.1 - s, x.2.2) :: zT :: R) (k + 1)).2 + 1) := by
  rw [dwn_at s P y (x :: R) k hk]
  have e : P ++ (x.1, x.2.1 - s, x.2.2) :: zT :: R = (P ++ [(x.1, x.2.1 - s, x.2.2)]) ++ zT :: R := by simp
  rw [e, dwn_at s (P ++ [(x.1, x.2.1 - s, x.2.2)]) zT R (k + 1) (by simp; omega)]
  have : dwnR s y (x :: R) = ((x.1, x.2.1 - s, x.2.2) :: (dwnR s zT R).1, (dwnR s zT R).2 + 1) := by
    show (bif occT x && !occT y then _ else _) = _
    rw [ho, hf]; rfl
  rw [this]; simp
theorem dwn_st {s : Int} {P : List T3} {x y : T3} {R : List T3} {k : Int} (hk : k = (P.length : Int) + 1) (ho : (occT x && !occT y) = false) :
    dwnM s (P ++ y :: x :: R) k = dwnM s (P ++ y :: x :: R) (k + 1) := by
  rw [dwn_at s P y (x :: R) k hk]
  have e : P ++ y :: x :: R = (P ++ [y]) ++ x :: R := by simp
  rw [e, dwn_at s (P ++ [y]) x R (k + 1) (by simp; omega)]
  have : dwnR s y (x :: R) = (y :: (dwnR s x R).1, (dwnR s x R).2) := by
    show (bif occT x && !occT y then _ else _) = _
    rw [ho]; rfl
  rw [this]; simp
theorem dwn_end {s : Int} {L : List T3} {k : Int} (h1 : 1 ≤ k) (hk : k = (L.length : Int)) : dwnM s L k = (L, 0) := by
  obtain ⟨y, hy⟩ := get_ex (l := L) (k := (k - 1).toNat) (by omega)
  have e : L = L.take (k - 1).toNat ++ [y] := by
    have := drop_cons hy
    rw [List.drop_eq_nil_of_le (show L.length ≤ (k - 1).toNat + 1 by omega)] at this
    rw [← this, List.take_append_drop]
  have hl : (L.take (k - 1).toNat).length = (k - 1).toNat := by rw [List.length_take]; omega
  generalize L.take (k - 1).toNat = P at *
  subst e
  rw [dwn_at s P y [] k (by omega)]; rfl
theorem dwn_len (s : Int) (x : T3) (Q : List T3) : (dwnR s x Q).1.length = Q.length + 1 := by
  induction Q generalizing x with
  | nil => rfl
  | cons y r ih =>
    unfold dwnR
    cases occT y && !occT x with
    | true => simp [ih]
    | false => simp [ih]
abbrev ansDm (s : S3) (r : List T3 × Int) (last n : Int) : Option (Xt × List PV × List Blk) := some (Xt.exit 0, [.sc (.int .i64 (n + r.2))], [mixM (s, r.1, last)])
theorem q45a (s : S3) (L : List T3) (last n k : Int) (h : setOK s ∧ L.length = 32 ∧ hiB (L.drop k.toNat) = true ∧ 1 ≤ k ∧ k ≤ 32 ∧ 0 ≤ n ∧ n ≤ k) : h45aL s.1 s.2.1 s.2.2 L last n k = ansDm s (dwnM s.2.2 L k) last n := by
  obtain ⟨hs, hl, hh, h1, h2, h3, h4⟩ := h
  obtain ⟨s1, s2, s3⟩ := s
  obtain ⟨g1, g2, g3, g4, g5⟩ := hs
  have g4 : (100 : Int) ≤ s3 := g4
  have g5 : s3 ≤ 10000 := g5
  rw [h45a]
  refine cond_split (fun hk => ?_) (fun hk => ?_)
  · have hk := of_decide_eq_true hk
    obtain ⟨x, hx⟩ := get_ex (l := L) (k := k.toNat) (by omega)
    obtain ⟨y, hy⟩ := get_ex (l := L) (k := (k - 1).toNat) (by omega)
    obtain ⟨P, R, rfl, hP⟩ := spl2 h1 hx hy
    have hxh : inS x.2.1 0 100000 = true := by
      have := List.all_eq_true.1 hh
      refine this x ?_
      rw [drop_cons hx]; exact List.mem_cons_self
    have hxh := inS_at hxh
    have hdr : (P ++ y :: x :: R).drop (k + 1).toNat = R := by
      rw [show (k + 1).toNat = k.toNat + 1 by omega]
      have := drop_cons hx
      rw [show k.toNat = P.length + 1 by omega, ← List.drop_drop, List.drop_left' rfl] at this
      rw [show k.toNat + 1 = P.length + 2 by omega, ← List.drop_drop, List.drop_left' rfl]; rfl
    have hhR : hiB R = true := by
      have := drop_cons hx
      rw [show k.toNat + 1 = (k + 1).toNat by omega, hdr] at this
      rw [this] at hh
      unfold hiB at *
      rw [List.all_cons, Bool.and_eq_true] at hh
      exact hh.2
    rw [IntWalk.i64_in (k - 1) (by omega), IntWalk.i64_in (k + 1) (by omega)]
    have gk : (decide (0 ≤ k) && decide (k < 32)) = true := by simp; omega
    have gk1 : (decide (0 ≤ k - 1) && decide (k - 1 < 32)) = true := by simp; omega
    have hmu : ∀ (L' : List T3) (n' : Int), decide (muDm (((s1, s2, s3), L', last), n', k + 1, PUnit.unit) < muDm (((s1, s2, s3), P ++ y :: x :: R, last), n, k, ())) = true := fun _ _ => decide_eq_true (show (32 - (k + 1)).toNat < (32 - k).toNat by omega)
    simp only [hmu, gk, gk1, guardB, cond_true, hx, hy, bindO, occ_eq]
    have hstay : (occT x && !occT y) = false → (bif bp (setOK (s1, s2, s3) ∧ (P ++ y :: x :: R).length = 32 ∧ hiB ((P ++ y :: x :: R).drop (k + 1).toNat) = true ∧ 1 ≤ k + 1 ∧ k + 1 ≤ 32 ∧ 0 ≤ n ∧ n ≤ k + 1) then ansDm (s1, s2, s3) (dwnM s3 (P ++ y :: x :: R) (k + 1)) last n else none) = ansDm (s1, s2, s3) (dwnM s3 (P ++ y :: x :: R) k) last n := fun ho => by
      rw [bp_mk ⟨⟨g1, g2, g3, g4, g5⟩, hl, by rw [hdr]; exact hhR, by omega, by omega, h3, by omega⟩, cond_true, dwn_st (show k = (P.length : Int) + 1 by omega) ho]
    cases ho : occT x with
    | false => exact hstay (by rw [ho]; rfl)
    | true =>
      simp only [cond_true]
      have hy' : decide (y.1 = ByteArray.mk #[]) = !occT y := by unfold occT; rw [Bool.not_not]
      rw [hy']
      cases hf : occT y with
      | true => exact hstay (by rw [ho, hf]; rfl)
      | false =>
        simp only [Bool.not_false, cond_true]
        have e0 : (k - 1).toNat = P.length := by omega
        have e1 : k.toNat = P.length + 1 := by omega
        have hx2 : x.2.1 - s3 = IntKind.i64.wrap (x.2.1 - s3) := (IntWalk.i64_in _ (by omega)).symm
        rw [e0, e1, set_mid P y x (x :: R) _ rfl, set_mid2 P x x (ByteArray.mk #[], 0, 0) R _ rfl]
        have gx : (P ++ x :: x :: R)[P.length + 1]? = some x := by
          have := get_mid (P ++ [x]) x R (P.length + 1) (by simp)
          rwa [List.append_assoc] at this
        simp only [gx, get_mid P x ((ByteArray.mk #[], 0, 0) :: R) _ rfl, set_mid P x (x.1, IntKind.i64.wrap (x.2.1 - s3), x.2.2) ((ByteArray.mk #[], 0, 0) :: R) _ rfl]
        rw [← hx2, IntWalk.i64_in (n + 1) (by omega)]
        have hl2 : (P ++ (x.1, x.2.1 - s3, x.2.2) :: zT :: R).length = 32 := by simpa using hl
        have hd2 : (P ++ (x.1, x.2.1 - s3, x.2.2) :: zT :: R).drop (k + 1).toNat = R := by
          rw [show (k + 1).toNat = P.length + 2 by omega, ← List.drop_drop, List.drop_left' rfl]; rfl
        change (bif bp (setOK (s1, s2, s3) ∧ (P ++ (x.1, x.2.1 - s3, x.2.2) :: zT :: R).length = 32 ∧ hiB ((P ++ (x.1, x.2.1 - s3, x.2.2) :: zT :: R).drop (k + 1).toNat) = true ∧ 1 ≤ k + 1 ∧ k + 1 ≤ 32 ∧ 0 ≤ n + 1 ∧ n + 1 ≤ k + 1) then ansDm (s1, s2, s3) (dwnM s3 (P ++ (x.1, x.2.1 - s3, x.2.2) :: zT :: R) (k + 1)) last (n + 1) else none) = _
        rw [bp_mk ⟨⟨g1, g2, g3, g4, g5⟩, hl2, by rw [hd2]; exact hhR, by omega, by omega, by omega, by omega⟩, cond_true]
        rw [dwn_mv (s := s3) (show k = (P.length : Int) + 1 by omega) ho hf]
        unfold ansDm
        rw [show n + 1 + (dwnM s3 (P ++ (x.1, x.2.1 - s3, x.2.2) :: zT :: R) (k + 1)).2 = n + ((dwnM s3 (P ++ (x.1, x.2.1 - s3, x.2.2) :: zT :: R) (k + 1)).2 + 1) by omega]
  · have hk := of_decide_eq_false hk
    rw [dwn_end h1 (by omega)]
    unfold ansDm
    rw [Int.add_zero]
theorem hi_drop {L : List T3} (h : hiB L = true) (n : Nat) : hiB (L.drop n) = true := List.all_eq_true.2 fun x hx => List.all_eq_true.1 h x (List.mem_of_mem_drop hx)
theorem q45 (m : MD) (t : Int) (h : preM m eS) : h45L m.1.1 m.1.2.1 m.1.2.2 m.2.1 m.2.2 t = ansM (mdnM m t) (mdnV m t) (mdnE m t) := by
  obtain ⟨hs, hlv, hl, hh, ht, hl0, hc⟩ := h
  rw [h45]
  simp only [decide_eq_true hl, guardB, cond_true]
  unfold mdnM mdnV mdnE
  cases inS t m.2.2 200000 with
  | false => rfl
  | true =>
    simp only [Bool.not_true, cond_false]
    refine (guard_split (b := bp _) (bp_mk ⟨hs, hl, hi_drop hh _, by omega, by omega, by omega, by omega⟩) ?_)
    rw [Int.zero_add]; rfl
/-! ### Leave -/
theorem any_step {L : List T3} {n k : Int} {x : T3} (h0 : 0 ≤ k) (h : k < n) (hx : L[k.toNat]? = some x) : ((L.take n.toNat).drop k.toNat).any occT = (occT x || ((L.take n.toNat).drop (k + 1).toNat).any occT) := by
  have : (L.take n.toNat)[k.toNat]? = some x := by rw [List.getElem?_take, if_pos (by omega)]; exact hx
  rw [drop_cons this, show (k + 1).toNat = k.toNat + 1 by omega, List.any_cons]
theorem q47a (m : MD) (n k : Int) (h : (preA m.2.1 k && decide (k ≤ n ∧ n ≤ 32)) = true) : h47aL m.1.1 m.1.2.1 m.1.2.2 m.2.1 m.2.2 n k =
    cond (!((m.2.1.take n.toNat).drop k.toNat).any occT) (some (Xt.exit 0, [PV.undef, PV.undef], [mixM m])) (some (Xt.ret, [.sc (.int .i64 0), .sc (.int .i64 11)], [mixM m])) := by
  rw [Bool.and_eq_true] at h
  obtain ⟨h1, h2, h3⟩ := of_decide_eq_true h.1
  obtain ⟨h4, h5⟩ := of_decide_eq_true h.2
  rw [h47a]
  refine cond_split (fun hk => ?_) (fun hk => ?_)
  · have hk := of_decide_eq_true hk
    obtain ⟨x, hx⟩ := get_ex (l := m.2.1) (k := k.toNat) (by omega)
    rw [any_step h2 hk hx, hx, IntWalk.i64_in (k + 1) (by omega)]
    refine guard_split (by simp; omega) ?_
    simp only [bindO, occ_eq]
    cases occT x with
    | true => rfl
    | false =>
      have hp : preA m.2.1 (k + 1) = true := decide_eq_true ⟨h1, by omega, by omega⟩
      rw [hp]
      exact guard_split (decide_eq_true (show (n - (k + 1)).toNat < (n - k).toNat by omega)) (guard_split (by simp; omega) rfl)
  · have hk := of_decide_eq_false hk
    rw [List.drop_eq_nil_of_le (by rw [List.length_take]; omega)]; rfl
theorem ti_at {L : List T3} {k : Nat} {x : T3} (h : tiB L = true) (hx : L[k]? = some x) : 0 ≤ x.2.2 ∧ x.2.2 ≤ 200000 := inS_at (List.all_eq_true.1 h x (List.mem_of_getElem? hx))
theorem q47 (m : MD) (c : ByteArray) (t : Int) (h : preM m c) : h47L m.1.1 m.1.2.1 m.1.2.2 m.2.1 m.2.2 c t = ansM (mlvM m c t) (mlvV m c t) (mlvE m c t) := by
  obtain ⟨hs, hlv, hl, hh, ht, hl0, hc⟩ := h
  rw [h47]
  simp only [decide_eq_true hl, guardB, cond_true]
  have eE : mlvE m c t = bif decide (fndM c m.2.1 < 0) then 8 else bif !inS t m.2.2 200000 then 12 else bif (m.2.1.take (fndM c m.2.1).toNat).any occT then 11 else 0 := rfl
  unfold mlvM mlvV
  rw [eE]
  have hf := fnd_at c m.2.1
  generalize fndM c m.2.1 = k at *
  cases ek : decide (k < 0) with
  | true => rfl
  | false =>
    have ek := of_decide_eq_false ek
    simp only [cond_false]
    cases ei : inS t m.2.2 200000 with
    | false => rfl
    | true =>
      have ei := inS_at ei
      simp only [Bool.not_true, cond_false]
      have hp : preA m.2.1 0 = true := decide_eq_true ⟨hl, by omega, by omega⟩
      rw [hp, decide_eq_true (show 0 ≤ k ∧ k ≤ 32 by omega), decide_eq_true (show 0 ≤ k by omega), decide_eq_true (show k < 32 by omega)]
      simp only [Bool.and_true, cond_true, show Int.toNat 0 = 0 from rfl, List.drop_zero]
      cases (m.2.1.take k.toNat).any occT with
      | true => rfl
      | false =>
        obtain ⟨x, hx⟩ := get_ex (l := m.2.1) (k := k.toNat) (by omega)
        have hxt := ti_at ht hx
        have hat : atT m.2.1 k = x := by unfold atT; rw [List.getD, hx]; rfl
        rw [hx, hat]
        simp only [Bool.not_false, cond_true, bindO]
        rw [IntWalk.i64_in (t - x.2.2) (by omega)]; rfl
/-! ### List -/
theorem lis_step {L : List T3} {k : Int} {x : T3} (o : List T3 × Bool) (h0 : 0 ≤ k) (hx : L[k.toNat]? = some x) : lisR o (L.drop k.toNat) = bif occT x then lisR (o.1 ++ [x], false) (L.drop (k + 1).toNat) else lisR o (L.drop (k + 1).toNat) := by
  rw [drop_cons hx, show (k + 1).toNat = k.toNat + 1 by omega]; rfl
theorem app1 {α : Type} (l : List α) (x : α) : (l ++ [x]).length = l.length + 1 := by simp
abbrev ansLm (r : List T3 × Bool) : Option (Xt × List PV × List Blk) := some (Xt.exit 0, [slV 1 kT r], [Blk.dead, Blk.row true kT r.1])
theorem q50a (o : List T3) (nl : Bool) (L : List T3) (k : Int) (h : (preA L k && decide ((o.length : Int) ≤ k)) = true) : h50aL o nl L k = ansLm (lisR (o, nl) (L.drop k.toNat)) := by
  rw [Bool.and_eq_true] at h
  obtain ⟨h1, h2, h3⟩ := of_decide_eq_true h.1
  have h4 := of_decide_eq_true h.2
  rw [h50a]
  refine cond_split (fun hk => ?_) (fun hk => ?_)
  · have hk := of_decide_eq_true hk
    obtain ⟨x, hx⟩ := get_ex (l := L) (k := k.toNat) (by omega)
    rw [lis_step (o, nl) h2 hx, hx, IntWalk.i64_in (k + 1) (by omega)]
    refine guard_split (by simp; omega) ?_
    simp only [bindO, occ_eq, List.take_length, Nat.zero_add]
    have hp : preA L (k + 1) = true := decide_eq_true ⟨h1, by omega, by omega⟩
    rw [hp]
    cases occT x with
    | true =>
      refine guard_split (by simp; omega) (guard_split (decide_eq_true (show (32 - (k + 1)).toNat < (32 - k).toNat by omega)) (guard_split ?_ rfl))
      rw [app1]; simp; omega
    | false =>
      refine guard_split (decide_eq_true (show (32 - (k + 1)).toNat < (32 - k).toNat by omega)) (guard_split ?_ rfl)
      simp; omega
  · have hk := of_decide_eq_false hk
    rw [List.drop_eq_nil_of_le (by omega)]; rfl
theorem q50 (m : MD) (h : decide (m.2.1.length = 32) = true) : h50L m.1.1 m.1.2.1 m.1.2.2 m.2.1 m.2.2 = some (slV 1 kT (lisR ([], true) m.2.1), [mixM m, Blk.row true kT (lisR ([], true) m.2.1).1]) := by
  have hl := of_decide_eq_true h
  have hp : preA m.2.1 0 = true := decide_eq_true ⟨hl, by omega, by omega⟩
  rw [h50]
  exact guard_split h (guard_split (by rw [hp]; rfl) rfl)
/-! ### The stack -/
theorem q86 (k : SK) (nl : Bool) (c : ByteArray) (h : k.2.1.length ≤ 1000) : h86L k.1.1 k.1.2.1 k.1.2.2 k.2.1 nl k.2.2 c = some (PV.sc (.int .i64 (ixT c k.2.1)), [fixK k 1 nl, Blk.row false kT k.2.1]) := by
  rw [h86]
  simp only [List.take_length, Nat.zero_add, len_true, cond_true]
  exact guard_split (decide_eq_true (by omega)) rfl
theorem q39 (s : S3) : h39L s.1 s.2.1 s.2.2 = pickA (true, [(chkE s == 0, (PV.tup [.ptr 0 0 1 0, .sc (.int .i64 0)], [Blk.fix true [.sc (.int .i64 s.1), .sc (.int .i64 s.2.1), .sc (.int .i64 s.2.2), .sc (.slice none 0 0), .sc (.int .i64 0)]])), (true, (PV.tup [.sc (.pointer none), .sc (.int .i64 (chkE s))], []))]).2 := by
  rw [h39]
  show (bif !(chkE s == 0) then _ else _) = cond (chkE s == 0) _ (cond true _ _)
  cases chkE s == 0 <;> rfl
theorem q49 (k : SK) (nl : Bool) (h : k.2.1.length ≤ 100) : h49L k.1.1 k.1.2.1 k.1.2.2 k.2.1 nl k.2.2 = cond nl (some (PV.sc (.slice none 0 0), [fixK k 1 nl, Blk.row false kT k.2.1])) (some (PV.sl 2 0 3 k.2.1.length k.2.1.length false false, [fixK k 1 nl, Blk.row false kT k.2.1, Blk.row true kT k.2.1])) := by
  rw [h49]
  simp only [List.take_length, Nat.zero_add, len_true, cond_true]
  exact guard_split (decide_eq_true h) rfl
theorem H3_ok : TableOK Try.prog H3 :=
  ext_ok (entV_ok Try.call86 (liftV H2_ok mixed Try.func86 (show Try.f86.body = some (bodyF Try.f86) from rfl) (noCuts_ok _) (by decide) fun v h => q86 (skV v.1) v.1.2.1.2 v.2.1 (of_decide_eq_true h))) <|
  ext_ok (entV_ok Try.call39 (liftV H2_ok mixed Try.func39 (show Try.f39.body = some (bodyF Try.f39) from rfl) (noCuts_ok _) (by decide) fun v h => q39 v.1)) <|
  ext_ok (entV_ok Try.call43 (liftV H2_ok mixed Try.func43 (show Try.f43.body = some (bodyF Try.f43) from rfl) (cut_cons (by kernel_rfl) (loop_cutW H2_ok mixed muTm (by kernel_rfl) (noCuts_ok _) fun v h => q43a v.1 v.2.1 v.2.2.1 h) (noCuts_ok _)) (by decide) fun v h => q43 v.1 v.2.1 v.2.2.1 (bp_true.1 h))) <|
  ext_ok (entV_ok Try.call45 (liftV H2_ok mixed Try.func45 (show Try.f45.body = some (bodyF Try.f45) from rfl) (cut_cons (by kernel_rfl) (loop_cutW H2_ok mixed muDm (by kernel_rfl) (noCuts_ok _) fun v h => q45a v.1.1 v.1.2.1 v.1.2.2 v.2.1 v.2.2.1 (bp_true.1 h)) (noCuts_ok _)) (by decide) fun v h => q45 v.1 v.2.1 (bp_true.1 h))) <|
  ext_ok (entV_ok Try.call47 (liftV H2_ok mixed Try.func47 (show Try.f47.body = some (bodyF Try.f47) from rfl) (cut_cons (by kernel_rfl) (loop_cutW H2_ok mixed muVm (by kernel_rfl) (noCuts_ok _) fun v h => q47a v.1 v.2.1 v.2.2.1 h) (noCuts_ok _)) (by decide) fun v h => q47 v.1 v.2.1 v.2.2.1 (bp_true.1 h))) <|
  ext_ok (entV_ok Try.call50 (liftV H2_ok mixed Try.func50 (show Try.f50.body = some (bodyF Try.f50) from rfl) (cut_cons (by kernel_rfl) (loop_cutW H2_ok mixed muLm (by kernel_rfl) (noCuts_ok _) fun v h => q50a v.1.1 v.1.2 v.2.1 v.2.2.1 h) (noCuts_ok _)) (by decide) fun v h => q50 v.1 h)) <|
  ext_ok (entV_ok Try.call49 (liftV H2_ok mixed Try.func49 (show Try.f49.body = some (bodyF Try.f49) from rfl) (noCuts_ok _) (by decide) fun v h => q49 (skV v.1) v.1.2.1.2 (of_decide_eq_true h))) H2_ok
/-! ### The stack's calls -/
abbrev ansK (k : SK) (nl : Bool) (v e : Int) : Option (PV × List Blk) := some (.tup [.sc (.int .i64 v), .sc (.int .i64 e)], [fixK k 2 nl, Blk.dead, Blk.row true kT k.2.1])
theorem hi_at {L : List T3} {k : Nat} {x : T3} (h : hiB L = true) (hx : L[k]? = some x) : 0 ≤ x.2.1 ∧ x.2.1 ≤ 100000 := inS_at (List.all_eq_true.1 h x (List.mem_of_getElem? hx))
theorem ansK_len (s : S3) (M : List T3) (last : Int) (n : Nat) (nl : Bool) (v e : Int) (h : M.length = n) : some (PV.tup [.sc (.int .i64 v), .sc (.int .i64 e)], [Blk.fix true [.sc (.int .i64 s.1), .sc (.int .i64 s.2.1), .sc (.int .i64 s.2.2), .sl 2 0 3 n n false nl, .sc (.int .i64 last)], Blk.dead, Blk.row true kT M]) = ansK (s, M, last) nl v e := by subst h; rfl
theorem q40 (k : SK) (nl : Bool) (c : ByteArray) (t : Int) (h : preK k c) : h40L k.1.1 k.1.2.1 k.1.2.2 k.2.1 nl k.2.2 c t = ansK (entM k c t) (bif entE k c t == 0 then false else nl) (entVal k c t) (entE k c t) := by
  obtain ⟨hs, hl, hh, ht, hl0, hc⟩ := h
  obtain ⟨g1, g2, g3, g4, g5⟩ := hs
  rw [h40]
  simp only [List.take_length, Nat.zero_add, len_true, cond_true]
  refine guard_split (decide_eq_true hc) ?_
  have eE : entE k c t = bif !namS c then 6 else bif decide (ixT c k.2.1 ≥ 0) then 7 else bif !atB t k.2.2 then 12 else bif decide (entH k > k.1.2.1) then 9 else 0 := rfl
  unfold entM entVal
  rw [eE]
  cases namS c with
  | false => rfl
  | true =>
    simp only [Bool.not_true, cond_false]
    refine guard_split (decide_eq_true (by omega)) ?_
    cases decide (ixT c k.2.1 ≥ 0) with
    | true => rfl
    | false =>
      simp only [cond_false, guardB, cond_true]
      cases atB t k.2.2 with
      | false => rfl
      | true =>
        simp only [Bool.not_true, cond_false]
        by_cases hn : (k.2.1.length : Int) > 0
        · obtain ⟨x, hx⟩ := get_ex (l := k.2.1) (k := ((k.2.1.length : Int) - 1).toNat) (by omega)
          have hxh := hi_at hh hx
          have hH : entH k = x.2.1 + k.1.2.2 := by
            unfold entH lastT atT
            rw [decide_eq_true hn, List.getD, hx]; rfl
          rw [hH, decide_eq_true hn, IntWalk.i64_in ((k.2.1.length : Int) - 1) (by omega), hx]
          simp only [cond_true, bindO]
          rw [IntWalk.i64_in (x.2.1 + k.1.2.2) (by omega), show (decide (0 ≤ (k.2.1.length : Int) - 1) && decide ((k.2.1.length : Int) - 1 < (k.2.1.length : Int))) = true by simp; omega, cond_true]
          cases decide (x.2.1 + k.1.2.2 > k.1.2.1) with
          | true => rfl
          | false =>
            simp only [cond_false]
            refine (guard_split (by simp; omega) ?_)
            exact ansK_len k.1 (k.2.1 ++ [(c, x.2.1 + k.1.2.2, t)]) t (k.2.1.length + 1) false _ _ (app1 _ _)
        · have hH : entH k = k.1.1 := by unfold entH; rw [decide_eq_false hn]; rfl
          rw [hH, decide_eq_false hn]
          simp only [cond_false]
          cases decide (k.1.1 > k.1.2.1) with
          | true => rfl
          | false =>
            simp only [cond_false]
            refine (guard_split (by simp; omega) ?_)
            exact ansK_len k.1 (k.2.1 ++ [(c, k.1.1, t)]) t (k.2.1.length + 1) false _ _ (app1 _ _)
theorem dn_len (s : Int) : ∀ (L : List T3) (f : Int), (dnR s f L).1.length = L.length
  | [], f => rfl
  | x :: r, f => by
    unfold dnR
    cases decide (x.2.1 > f) with
    | true => simp [dn_len s r]
    | false => simp [dn_len s r]
theorem dnK_at (s f : Int) (P Q : List T3) (k : Int) (hk : k = (P.length : Int)) : dnK s f (P ++ Q) k = (P ++ (dnR s f Q).1, (dnR s f Q).2) := by
  subst hk
  unfold dnK
  rw [Int.toNat_natCast, List.take_left' rfl, List.drop_left' rfl]
abbrev ansDn (s : S3) (last n : Int) (nl : Bool) (r : List T3 × Int) : Option (Xt × List PV × List Blk) := some (Xt.exit 0, [.sc (.int .i64 (n + r.2))], [fixK (s, r.1, last) 2 nl, Blk.dead, Blk.row true kT r.1])
theorem spl1 {L : List T3} {k : Int} {x : T3} (h1 : 0 ≤ k) (hx : L[k.toNat]? = some x) : ∃ P R, L = P ++ x :: R ∧ (P.length : Int) = k := by
  refine ⟨L.take k.toNat, L.drop (k.toNat + 1), ?_, ?_⟩
  · rw [← drop_cons hx, List.take_append_drop]
  · have := (List.getElem?_eq_some_iff.1 hx).1
    rw [List.length_take]; omega
theorem q44a (s : S3) (M : List T3) (nl : Bool) (last n f m k : Int) (h : setOK s ∧ hiB (M.drop k.toNat) = true ∧ M.length ≤ 64 ∧ m = (M.length : Int) ∧ 0 ≤ k ∧ k ≤ m ∧ 0 ≤ n ∧ n ≤ k ∧ 0 ≤ f ∧ f ≤ 200000) : h44aL s.1 s.2.1 s.2.2 M nl last n f m k = ansDn s last n nl (dnK s.2.2 f M k) := by
  obtain ⟨hs, hh, hl, rfl, h1, h2, h3, h4, h5, h6⟩ := h
  obtain ⟨s1, s2, s3⟩ := s
  obtain ⟨g1, g2, g3, g4, g5⟩ := hs
  have g4 : (100 : Int) ≤ s3 := g4
  have g5 : s3 ≤ 10000 := g5
  rw [h44a]
  refine cond_split (fun hk => ?_) (fun hk => ?_)
  · have hk := of_decide_eq_true hk
    obtain ⟨x, hx⟩ := get_ex (l := M) (k := k.toNat) (by omega)
    obtain ⟨P, R, rfl, hP⟩ := spl1 h1 hx
    have hd : (P ++ x :: R).drop k.toNat = x :: R := by rw [show k.toNat = P.length by omega, List.drop_left' rfl]
    rw [hd] at hh
    unfold hiB at hh
    rw [List.all_cons, Bool.and_eq_true] at hh
    have hxh := inS_at hh.1
    have hhR : hiB R = true := hh.2
    have e0 : k.toNat = P.length := by omega
    have gk : (decide (0 ≤ k) && decide (k < ((P ++ x :: R).length : Int))) = true := by simp only [Bool.and_eq_true, decide_eq_true_eq]; exact ⟨h1, hk⟩
    have hgx : (P ++ x :: R)[P.length]? = some x := get_mid P x R _ rfl
    have hds : ∀ y : T3, (P ++ y :: R).drop (k + 1).toNat = R := fun y => by rw [show (k + 1).toNat = P.length + 1 by omega, ← List.drop_drop, List.drop_left' rfl]; rfl
    have hln : ∀ y : T3, (P ++ y :: R).length = (P ++ x :: R).length := fun y => by simp
    rw [IntWalk.i64_in (k + 1) (by omega), IntWalk.i64_in (n + 1) (by omega)]
    have gx : (P ++ x :: R)[0 + k.toNat]? = some x := by rw [Nat.zero_add]; exact hx
    have w1 : IntKind.i64.wrap (x.2.1 - s3) = x.2.1 - s3 := IntWalk.i64_in _ (by omega)
    have w2 : IntKind.i64.wrap (x.2.1 + s3) = x.2.1 + s3 := IntWalk.i64_in _ (by omega)
    simp only [gk, guardB, cond_true, gx, bindO]
    simp only [w1, w2, Nat.zero_add, e0]
    rw [dnK_at s3 f P (x :: R) k (by omega)]
    cases hc : decide (x.2.1 > f) with
    | true =>
      have hR : dnR s3 f (x :: R) = ((x.1, x.2.1 - s3, x.2.2) :: (dnR s3 (x.2.1 - s3 + s3) R).1, (dnR s3 (x.2.1 - s3 + s3) R).2 + 1) := by
        show (bif decide (x.2.1 > f) then _ else _) = _
        rw [hc]; rfl
      rw [hR]
      have hc := of_decide_eq_true hc
      rw [set_mid P x (x.1, x.2.1 - s3, x.2.2) R _ rfl, get_mid P (x.1, x.2.1 - s3, x.2.2) R _ rfl]
      simp only [bindO, cond_true]
      rw [IntWalk.i64_in (x.2.1 - s3 + s3) (by omega)]
      refine guard_split (decide_eq_true (show (((P ++ x :: R).length : Int) - (k + 1)).toNat < (((P ++ x :: R).length : Int) - k).toNat by omega)) (guard_split ?_ ?_)
      · rw [hln (x.1, x.2.1 - s3, x.2.2), decide_eq_true (show (P ++ x :: R).length = (P ++ x :: R).length from rfl), cond_true]
        exact bp_mk ⟨⟨g1, g2, g3, g4, g5⟩, by rw [hds]; exact hhR, hl, by first | trivial | rfl, by omega, by omega, by omega, by omega, by omega, by omega⟩
      · have e := dnK_at s3 (x.2.1 - s3 + s3) (P ++ [(x.1, x.2.1 - s3, x.2.2)]) R (k + 1) (by simp; omega)
        rw [List.append_assoc, List.append_assoc] at e
        change ansDn (s1, s2, s3) last (n + 1) nl (dnK s3 (x.2.1 - s3 + s3) (P ++ (x.1, x.2.1 - s3, x.2.2) :: R) (k + 1)) = _
        rw [show P ++ (x.1, x.2.1 - s3, x.2.2) :: R = P ++ ([(x.1, x.2.1 - s3, x.2.2)] ++ R) from rfl, e]
        unfold ansDn
        rw [show n + 1 + (dnR s3 (x.2.1 - s3 + s3) R).2 = n + ((dnR s3 (x.2.1 - s3 + s3) R).2 + 1) by omega]
        rfl
    | false =>
      have hR : dnR s3 f (x :: R) = (x :: (dnR s3 (x.2.1 + s3) R).1, (dnR s3 (x.2.1 + s3) R).2) := by
        show (bif decide (x.2.1 > f) then _ else _) = _
        rw [hc]; rfl
      rw [hR]
      have hc := of_decide_eq_false hc
      simp only [cond_false]
      refine guard_split (decide_eq_true (show (((P ++ x :: R).length : Int) - (k + 1)).toNat < (((P ++ x :: R).length : Int) - k).toNat by omega)) (guard_split ?_ ?_)
      · rw [decT, cond_true]
        exact bp_mk ⟨⟨g1, g2, g3, g4, g5⟩, by rw [hds]; exact hhR, hl, by first | trivial | rfl, by omega, by omega, by omega, by omega, by omega, by omega⟩
      · have e := dnK_at s3 (x.2.1 + s3) (P ++ [x]) R (k + 1) (by simp; omega)
        rw [List.append_assoc, List.append_assoc] at e
        change ansDn (s1, s2, s3) last n nl (dnK s3 (x.2.1 + s3) (P ++ x :: R) (k + 1)) = _
        rw [show P ++ x :: R = P ++ ([x] ++ R) from rfl, e]
        rfl
  · have hk := of_decide_eq_false hk
    have : dnK s3 f M k = (M, 0) := by
      have := dnK_at s3 f M [] k (by omega)
      rw [List.append_nil] at this
      rw [this]; simp [dnR]
    show _ = ansDn (s1, s2, s3) last n nl (dnK s3 f M k)
    rw [this]
    unfold ansDn
    rw [Int.add_zero]
theorem q44 (k : SK) (nl : Bool) (t : Int) (h : preK k eS) : h44L k.1.1 k.1.2.1 k.1.2.2 k.2.1 nl k.2.2 t = ansK (sdnM k t) nl (sdnV k t) (sdnE k t) := by
  obtain ⟨hs, hl, hh, ht, hl0, hc⟩ := h
  rw [h44]
  simp only [List.take_length, Nat.zero_add, len_true, cond_true]
  unfold sdnM sdnV sdnE
  refine guard_split rfl ?_
  cases atB t k.2.2 with
  | false => rfl
  | true =>
    simp only [Bool.not_true, cond_false]
    have hs' := hs
    obtain ⟨g1, g2, g3, g4, g5⟩ := hs'
    refine guard_split ?_ ?_
    · rw [decT, cond_true]
      exact bp_mk ⟨hs, hh, by omega, by first | trivial | rfl, by omega, by omega, by omega, by omega, by omega, by omega⟩
    · rw [Int.zero_add]; rfl
theorem q46 (k : SK) (nl : Bool) (c : ByteArray) (t : Int) (h : preK k c) : h46L k.1.1 k.1.2.1 k.1.2.2 k.2.1 nl k.2.2 c t = ansK (slvM k c t) nl (slvV k c t) (slvE k c t) := by
  obtain ⟨hs, hl, hh, ht, hl0, hc⟩ := h
  rw [h46]
  simp only [List.take_length, Nat.zero_add, len_true, cond_true]
  refine guard_split (decide_eq_true (by omega)) ?_
  have eE : slvE k c t = bif decide (ixT c k.2.1 < 0) then 8 else bif !atB t k.2.2 then 12 else bif decide (ixT c k.2.1 > 0) then 11 else 0 := rfl
  have hi := ixP_lt (isT c) k.2.1 0
  unfold slvM slvV
  rw [eE]
  have hi : ixT c k.2.1 = -1 ∨ (0 ≤ ixT c k.2.1 ∧ ixT c k.2.1 < 0 + (k.2.1.length : Int)) := hi
  generalize ixT c k.2.1 = j at *
  cases ej : decide (j < 0) with
  | true => rfl
  | false =>
    have ej := of_decide_eq_false ej
    simp only [cond_false, guardB, cond_true]
    cases ea : atB t k.2.2 with
    | false => rfl
    | true =>
      simp only [Bool.not_true, cond_false]
      cases decide (j > 0) with
      | true => rfl
      | false =>
        obtain ⟨x, hx⟩ := get_ex (l := k.2.1) (k := 0) (by omega)
        have hxt := ti_at ht hx
        have hat : atT k.2.1 0 = x := by unfold atT; rw [show Int.toNat 0 = 0 from rfl, List.getD, hx]; rfl
        unfold atB at ea
        rw [Bool.and_eq_true] at ea
        have ea1 := of_decide_eq_true ea.1
        have ea2 := of_decide_eq_true ea.2
        rw [hx, hat]
        simp only [cond_false, bindO]
        rw [decide_eq_true (show 0 < (k.2.1.length : Int) by omega), IntWalk.i64_in (t - x.2.2) (by omega), decT]
        simp only [cond_true]
        exact guard_split (decide_eq_true (by omega)) rfl
theorem H4_ok : TableOK Try.prog H4 :=
  ext_ok (entV_ok Try.call40 (liftV H3_ok mixed Try.func40 (show Try.f40.body = some (bodyF Try.f40) from rfl) (noCuts_ok _) (by decide) fun v h => q40 (skV v.1) v.1.2.1.2 v.2.1 v.2.2.1 (bp_true.1 h))) <|
  ext_ok (entV_ok Try.call44 (liftV H3_ok mixed Try.func44 (show Try.f44.body = some (bodyF Try.f44) from rfl) (cut_cons (by kernel_rfl) (loop_cutW H3_ok mixed muDn (by kernel_rfl) (noCuts_ok _) fun v h => q44a v.1.1 v.1.2.1.1 v.1.2.1.2 v.1.2.2.1 v.2.1 v.2.2.1 v.2.2.2.1 v.2.2.2.2.1 (bp_true.1 h)) (noCuts_ok _)) (by decide) fun v h => q44 (skV v.1) v.1.2.1.2 v.2.1 (bp_true.1 h))) <|
  ext_ok (entV_ok Try.call46 (liftV H3_ok mixed Try.func46 (show Try.f46.body = some (bodyF Try.f46) from rfl) (noCuts_ok _) (by decide) fun v h => q46 (skV v.1) v.1.2.1.2 v.2.1 v.2.2.1 (bp_true.1 h))) H3_ok
end Go.Proofs.YtacdahpjmeianaaHo
