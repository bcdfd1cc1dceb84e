/- What is proved: what the reader of a plot and the loop of Decode answer. No condition. -/
import Derived.Test.YtacdahpjmeianaaTwj4
namespace Go.Proofs.YtacdahpjmeianaaWi
open Go Go.Proofs Go.Proofs.YtacdahpjmeianaaEv Go.Proofs.YtacdahpjmeianaaFl
set_option maxRecDepth 100000
set_option maxHeartbeats 4000000
set_option linter.unusedVariables false
set_option linter.unusedSimpArgs false
noncomputable abbrev j114L (a0 : ByteArray) (a1 : Int) (a2 : Int) (a3 : Int) (a4 : List (Int × Int × Int × Int × Int × Int)) (a5 : Bool) := evFuncV Try.prog J2 noCuts Try.f114 (killA 0 [sS, sI, aF]) (showA 0 [sS, sI, aF] (a0, (a1, ((a2, (a3, ((a4, a5), ()))), ())))).1 (showA 0 [sS, sI, aF] (a0, (a1, ((a2, (a3, ((a4, a5), ()))), ())))).2
theorem j114 (a0 : ByteArray) (a1 : Int) (a2 : Int) (a3 : Int) (a4 : List (Int × Int × Int × Int × Int × Int)) (a5 : Bool) : j114L a0 a1 a2 a3 a4 a5 = (guardB (bp (okG a0 a1 8))
  (guardB (bp (okU (getN a0 a1 8) ∧ (0 : Int) = 0))
    (guardB (bp (okG a0 (IntKind.i64.wrap (a1 + 8)) 2))
      (guardB (bp (okG a0 (IntKind.i64.wrap (a1 + 10)) 4))
        (guardB (bp (okG a0 (IntKind.i64.wrap (a1 + 14)) 2))
          (guardB
            (bp
              (-9223372036854775808 ≤ (toF (getN a0 a1 8)).fst ∧
                (toF (getN a0 a1 8)).fst ≤ 9223372036854775807 ∧ (0 : Int) = 0))
            (bif (toF (getN a0 a1 8)).snd.snd == 0 then
              bif (toF (getN a0 a1 8)).snd.fst then
                guardB (bp (okG a0 a1 8))
                  (bif (↑(fbits (toF (getN a0 a1 8)).fst) : Int) == getN a0 a1 8 then
                    guardB (bif decide (0 + a4.length ≤ a4.length) then true else false)
                      (some
                        (PV.tup
                            [PV.agg
                                [PV.sc (Value.int IntKind.i64 a2), PV.sc (Value.int IntKind.i64 a3),
                                  PV.sc (Value.int IntKind.i64 (toF (getN a0 a1 8)).fst),
                                  PV.sc
                                    (Value.int IntKind.i64 (IntKind.i64.wrap (getN a0 (IntKind.i64.wrap (a1 + 8)) 2))),
                                  PV.sc
                                    (Value.int IntKind.i64 (IntKind.i64.wrap (getN a0 (IntKind.i64.wrap (a1 + 10)) 4))),
                                  PV.sc
                                    (Value.int IntKind.i64
                                      (IntKind.i64.wrap
                                        (IntKind.i64.wrap (getN a0 (IntKind.i64.wrap (a1 + 14)) 2) - 1)))],
                              PV.sc
                                (Value.bool
                                  (pltE a2 a3
                                      (a2, a3, (toF (getN a0 a1 8)).fst,
                                        IntKind.i64.wrap (getN a0 (IntKind.i64.wrap (a1 + 8)) 2),
                                        IntKind.i64.wrap (getN a0 (IntKind.i64.wrap (a1 + 10)) 4),
                                        IntKind.i64.wrap
                                          (IntKind.i64.wrap (getN a0 (IntKind.i64.wrap (a1 + 14)) 2) - 1)) ==
                                    0))],
                          [Blk.row false
                              ((Kd.int IntKind.i64).pair
                                ((Kd.int IntKind.i64).pair
                                  ((Kd.int IntKind.i64).pair
                                    ((Kd.int IntKind.i64).pair ((Kd.int IntKind.i64).pair (Kd.int IntKind.i64))))))
                              a4]))
                  else
                    some
                      (PV.tup
                          [PV.agg
                              [PV.sc (Value.int IntKind.i64 a2), PV.sc (Value.int IntKind.i64 a3),
                                PV.sc (Value.int IntKind.i64 (toF (getN a0 a1 8)).fst),
                                PV.sc
                                  (Value.int IntKind.i64 (IntKind.i64.wrap (getN a0 (IntKind.i64.wrap (a1 + 8)) 2))),
                                PV.sc
                                  (Value.int IntKind.i64 (IntKind.i64.wrap (getN a0 (IntKind.i64.wrap (a1 + 10)) 4))),
                                PV.sc
                                  (Value.int IntKind.i64
                                    (IntKind.i64.wrap
                                      (IntKind.i64.wrap (getN a0 (IntKind.i64.wrap (a1 + 14)) 2) - 1)))],
                            PV.sc (Value.bool false)],
                        [Blk.row false
                            ((Kd.int IntKind.i64).pair
                              ((Kd.int IntKind.i64).pair
                                ((Kd.int IntKind.i64).pair
                                  ((Kd.int IntKind.i64).pair ((Kd.int IntKind.i64).pair (Kd.int IntKind.i64))))))
                            a4]))
              else
                some
                  (PV.tup
                      [PV.agg
                          [PV.sc (Value.int IntKind.i64 a2), PV.sc (Value.int IntKind.i64 a3),
                            PV.sc (Value.int IntKind.i64 (toF (getN a0 a1 8)).fst),
                            PV.sc (Value.int IntKind.i64 (IntKind.i64.wrap (getN a0 (IntKind.i64.wrap (a1 + 8)) 2))),
                            PV.sc (Value.int IntKind.i64 (IntKind.i64.wrap (getN a0 (IntKind.i64.wrap (a1 + 10)) 4))),
                            PV.sc
                              (Value.int IntKind.i64
                                (IntKind.i64.wrap (IntKind.i64.wrap (getN a0 (IntKind.i64.wrap (a1 + 14)) 2) - 1)))],
                        PV.sc (Value.bool false)],
                    [Blk.row false
                        ((Kd.int IntKind.i64).pair
                          ((Kd.int IntKind.i64).pair
                            ((Kd.int IntKind.i64).pair
                              ((Kd.int IntKind.i64).pair ((Kd.int IntKind.i64).pair (Kd.int IntKind.i64))))))
                        a4])
            else
              some
                (PV.tup
                    [PV.agg
                        [PV.sc (Value.int IntKind.i64 a2), PV.sc (Value.int IntKind.i64 a3),
                          PV.sc (Value.int IntKind.i64 (toF (getN a0 a1 8)).fst),
                          PV.sc (Value.int IntKind.i64 (IntKind.i64.wrap (getN a0 (IntKind.i64.wrap (a1 + 8)) 2))),
                          PV.sc (Value.int IntKind.i64 (IntKind.i64.wrap (getN a0 (IntKind.i64.wrap (a1 + 10)) 4))),
                          PV.sc
                            (Value.int IntKind.i64
                              (IntKind.i64.wrap (IntKind.i64.wrap (getN a0 (IntKind.i64.wrap (a1 + 14)) 2) - 1)))],
                      PV.sc (Value.bool false)],
                  [Blk.row false
                      ((Kd.int IntKind.i64).pair
                        ((Kd.int IntKind.i64).pair
                          ((Kd.int IntKind.i64).pair
                            ((Kd.int IntKind.i64).pair ((Kd.int IntKind.i64).pair (Kd.int IntKind.i64))))))
                      a4])))))))) := by kernel_rfl
noncomputable abbrev j66aL (a0 : ByteArray) (a1 : Int) (a2 : Int) (a3 : Int) (a4 : Int) (a5 : Int) (a6 : Int) (a7 : List (Int × Int × Int × Int × Int × Int)) (a8 : Bool) (a9 : Int) (a10 : Int) := evRound Try.prog J3 noCuts 103 (loopOf (codeAt 0 (bodyF Try.f66))) kDe muDe (killA 0 kDe) [0, 2, 3, 4, 5, 77, 78] [3, 4] cDe (a0, ((a1, (a2, ((), ()))), (a3, (a4, ((a5, (a6, ((a7, a8), ()))), (a9, (a10, ())))))))
theorem j66a (a0 : ByteArray) (a1 : Int) (a2 : Int) (a3 : Int) (a4 : Int) (a5 : Int) (a6 : Int) (a7 : List (Int × Int × Int × Int × Int × Int)) (a8 : Bool) (a9 : Int) (a10 : Int) : j66aL a0 a1 a2 a3 a4 a5 a6 a7 a8 a9 a10 = (bif decide (a10 < a9) then
  guardB
    (bif decide (0 + a7.length ≤ a7.length) then bp (okPl a0 (IntKind.i64.wrap (9 + IntKind.i64.wrap (a10 * 16))))
    else false)
    (bif !plO a0 (IntKind.i64.wrap (9 + IntKind.i64.wrap (a10 * 16))) a5 a6 then
      some
        (Xt.ret, [PV.sc (Value.int IntKind.i64 0), PV.sc (Value.int IntKind.i64 3)],
          [Blk.fix true
              [PV.sc (Value.int IntKind.i64 0), PV.sc (Value.int IntKind.i64 0), PV.sc (Value.slice none 0 0)],
            Blk.fix true
              [PV.sc (Value.int IntKind.i64 a5), PV.sc (Value.int IntKind.i64 a6),
                PV.sl 3 0 6 a7.length a7.length false a8],
            Blk.dead,
            Blk.row true
              ((Kd.int IntKind.i64).pair
                ((Kd.int IntKind.i64).pair
                  ((Kd.int IntKind.i64).pair
                    ((Kd.int IntKind.i64).pair ((Kd.int IntKind.i64).pair (Kd.int IntKind.i64))))))
              a7])
    else
      guardB
        (decide (0 + a7.length ≤ a7.length) && true && decide ((a7.length + 1) * 48 ≤ 140737488355328) &&
          decide (a7.length + 1 ≤ 4611686018427387904))
        (guardB
          (decide
            (muDe
                (a0, (a1, a2, (), ()), a3, a4,
                  (a5, a6,
                    (List.take a7.length a7 ++
                        [(a5, a6, (toF (getN a0 (IntKind.i64.wrap (9 + IntKind.i64.wrap (a10 * 16))) 8)).fst,
                            getN a0 (IntKind.i64.wrap (9 + IntKind.i64.wrap (a10 * 16)) + 8) 2,
                            getN a0 (IntKind.i64.wrap (9 + IntKind.i64.wrap (a10 * 16)) + 10) 4,
                            getN a0 (IntKind.i64.wrap (9 + IntKind.i64.wrap (a10 * 16)) + 14) 2 - 1)],
                      false),
                    ()),
                  a9, IntKind.i64.wrap (a10 + 1), ()) <
              muDe (a0, (a1, a2, (), ()), a3, a4, (a5, a6, (a7, a8), ()), a9, a10, ())))
          (guardB
            (bif
                decide
                  (a7.length + 1 =
                    (List.take a7.length a7 ++
                        [(a5, a6, (toF (getN a0 (IntKind.i64.wrap (9 + IntKind.i64.wrap (a10 * 16))) 8)).fst,
                            getN a0 (IntKind.i64.wrap (9 + IntKind.i64.wrap (a10 * 16)) + 8) 2,
                            getN a0 (IntKind.i64.wrap (9 + IntKind.i64.wrap (a10 * 16)) + 10) 4,
                            getN a0 (IntKind.i64.wrap (9 + IntKind.i64.wrap (a10 * 16)) + 14) 2 - 1)]).length) then
              bp
                (okDe a0
                  (List.take a7.length a7 ++
                    [(a5, a6, (toF (getN a0 (IntKind.i64.wrap (9 + IntKind.i64.wrap (a10 * 16))) 8)).fst,
                        getN a0 (IntKind.i64.wrap (9 + IntKind.i64.wrap (a10 * 16)) + 8) 2,
                        getN a0 (IntKind.i64.wrap (9 + IntKind.i64.wrap (a10 * 16)) + 10) 4,
                        getN a0 (IntKind.i64.wrap (9 + IntKind.i64.wrap (a10 * 16)) + 14) 2 - 1)])
                  a9 (IntKind.i64.wrap (a10 + 1)) a1 a2)
            else false)
            (bif plsO a0 a5 a6 (IntKind.i64.wrap (a10 + 1)) (Int.toNat (a9 - IntKind.i64.wrap (a10 + 1))) then
              some
                (Xt.exit 0, [PV.sc (Value.int IntKind.i64 a3), PV.sc (Value.int IntKind.i64 a4)],
                  [Blk.fix true
                      [PV.sc (Value.int IntKind.i64 0), PV.sc (Value.int IntKind.i64 0), PV.sc (Value.slice none 0 0)],
                    Blk.fix true
                      [PV.sc (Value.int IntKind.i64 a5), PV.sc (Value.int IntKind.i64 a6),
                        PV.sl 3 0 6
                          (postDe
                                                (a0, (a1, a2, (), ()), a3, a4,
                                                  (a5, a6,
                                                    (List.take a7.length a7 ++
                                                        [(a5, a6,
                                                            (toF
                                                                (getN a0
                                                                  (IntKind.i64.wrap (9 + IntKind.i64.wrap (a10 * 16)))
                                                                  8)).fst,
                                                            getN a0
                                                              (IntKind.i64.wrap (9 + IntKind.i64.wrap (a10 * 16)) + 8)
                                                              2,
                                                            getN a0
                                                              (IntKind.i64.wrap (9 + IntKind.i64.wrap (a10 * 16)) + 10)
                                                              4,
                                                            getN a0
                                                                (IntKind.i64.wrap (9 + IntKind.i64.wrap (a10 * 16)) +
                                                                  14)
                                                                2 -
                                                              1)],
                                                      false),
                                                    ()),
                                                  a9, IntKind.i64.wrap (a10 + 1),
                                                  ())).snd.snd.snd.snd.fst.snd.snd.fst.fst.length
                          (postDe
                                                (a0, (a1, a2, (), ()), a3, a4,
                                                  (a5, a6,
                                                    (List.take a7.length a7 ++
                                                        [(a5, a6,
                                                            (toF
                                                                (getN a0
                                                                  (IntKind.i64.wrap (9 + IntKind.i64.wrap (a10 * 16)))
                                                                  8)).fst,
                                                            getN a0
                                                              (IntKind.i64.wrap (9 + IntKind.i64.wrap (a10 * 16)) + 8)
                                                              2,
                                                            getN a0
                                                              (IntKind.i64.wrap (9 + IntKind.i64.wrap (a10 * 16)) + 10)
                                                              4,
                                                            getN a0
                                                                (IntKind.i64.wrap (9 + IntKind.i64.wrap (a10 * 16)) +
                                                                  14)
                                                                2 -
                                                              1)],
                                                      false),
                                                    ()),
                                                  a9, IntKind.i64.wrap (a10 + 1),
                                                  ())).snd.snd.snd.snd.fst.snd.snd.fst.fst.length
                          false (flagD a0 a5 a6 a9 (IntKind.i64.wrap (a10 + 1)) false)],
                    Blk.dead,
                    Blk.row true
                      ((Kd.int IntKind.i64).pair
                        ((Kd.int IntKind.i64).pair
                          ((Kd.int IntKind.i64).pair
                            ((Kd.int IntKind.i64).pair ((Kd.int IntKind.i64).pair (Kd.int IntKind.i64))))))
                      (List.take a7.length a7 ++
                          [(a5, a6, (toF (getN a0 (IntKind.i64.wrap (9 + IntKind.i64.wrap (a10 * 16))) 8)).fst,
                              getN a0 (IntKind.i64.wrap (9 + IntKind.i64.wrap (a10 * 16)) + 8) 2,
                              getN a0 (IntKind.i64.wrap (9 + IntKind.i64.wrap (a10 * 16)) + 10) 4,
                              getN a0 (IntKind.i64.wrap (9 + IntKind.i64.wrap (a10 * 16)) + 14) 2 - 1)] ++
                        plsT a0 a5 a6 (IntKind.i64.wrap (a10 + 1)) (Int.toNat (a9 - IntKind.i64.wrap (a10 + 1))))])
            else
              some
                (Xt.ret, [PV.sc (Value.int IntKind.i64 0), PV.sc (Value.int IntKind.i64 3)],
                  [Blk.fix true
                      [PV.sc (Value.int IntKind.i64 0), PV.sc (Value.int IntKind.i64 0), PV.sc (Value.slice none 0 0)],
                    Blk.fix true
                      [PV.sc (Value.int IntKind.i64 a5), PV.sc (Value.int IntKind.i64 a6),
                        PV.sl 3 0 6
                          (postDe
                                                (a0, (a1, a2, (), ()), a3, a4,
                                                  (a5, a6,
                                                    (List.take a7.length a7 ++
                                                        [(a5, a6,
                                                            (toF
                                                                (getN a0
                                                                  (IntKind.i64.wrap (9 + IntKind.i64.wrap (a10 * 16)))
                                                                  8)).fst,
                                                            getN a0
                                                              (IntKind.i64.wrap (9 + IntKind.i64.wrap (a10 * 16)) + 8)
                                                              2,
                                                            getN a0
                                                              (IntKind.i64.wrap (9 + IntKind.i64.wrap (a10 * 16)) + 10)
                                                              4,
                                                            getN a0
                                                                (IntKind.i64.wrap (9 + IntKind.i64.wrap (a10 * 16)) +
                                                                  14)
                                                                2 -
                                                              1)],
                                                      false),
                                                    ()),
                                                  a9, IntKind.i64.wrap (a10 + 1),
                                                  ())).snd.snd.snd.snd.fst.snd.snd.fst.fst.length
                          (postDe
                                                (a0, (a1, a2, (), ()), a3, a4,
                                                  (a5, a6,
                                                    (List.take a7.length a7 ++
                                                        [(a5, a6,
                                                            (toF
                                                                (getN a0
                                                                  (IntKind.i64.wrap (9 + IntKind.i64.wrap (a10 * 16)))
                                                                  8)).fst,
                                                            getN a0
                                                              (IntKind.i64.wrap (9 + IntKind.i64.wrap (a10 * 16)) + 8)
                                                              2,
                                                            getN a0
                                                              (IntKind.i64.wrap (9 + IntKind.i64.wrap (a10 * 16)) + 10)
                                                              4,
                                                            getN a0
                                                                (IntKind.i64.wrap (9 + IntKind.i64.wrap (a10 * 16)) +
                                                                  14)
                                                                2 -
                                                              1)],
                                                      false),
                                                    ()),
                                                  a9, IntKind.i64.wrap (a10 + 1),
                                                  ())).snd.snd.snd.snd.fst.snd.snd.fst.fst.length
                          false (flagD a0 a5 a6 a9 (IntKind.i64.wrap (a10 + 1)) false)],
                    Blk.dead,
                    Blk.row true
                      ((Kd.int IntKind.i64).pair
                        ((Kd.int IntKind.i64).pair
                          ((Kd.int IntKind.i64).pair
                            ((Kd.int IntKind.i64).pair ((Kd.int IntKind.i64).pair (Kd.int IntKind.i64))))))
                      (List.take a7.length a7 ++
                          [(a5, a6, (toF (getN a0 (IntKind.i64.wrap (9 + IntKind.i64.wrap (a10 * 16))) 8)).fst,
                              getN a0 (IntKind.i64.wrap (9 + IntKind.i64.wrap (a10 * 16)) + 8) 2,
                              getN a0 (IntKind.i64.wrap (9 + IntKind.i64.wrap (a10 * 16)) + 10) 4,
                              getN a0 (IntKind.i64.wrap (9 + IntKind.i64.wrap (a10 * 16)) + 14) 2 - 1)] ++
                        plsT a0 a5 a6 (IntKind.i64.wrap (a10 + 1)) (Int.toNat (a9 - IntKind.i64.wrap (a10 + 1))))])))))
else
  some
    (Xt.exit 0, [PV.sc (Value.int IntKind.i64 a3), PV.sc (Value.int IntKind.i64 a4)],
      [Blk.fix true [PV.sc (Value.int IntKind.i64 a1), PV.sc (Value.int IntKind.i64 a2), PV.sc (Value.slice none 0 0)],
        Blk.fix true
          [PV.sc (Value.int IntKind.i64 a5), PV.sc (Value.int IntKind.i64 a6),
            PV.sl 3 0 6 a7.length a7.length false a8],
        Blk.dead,
        Blk.row true
          ((Kd.int IntKind.i64).pair
            ((Kd.int IntKind.i64).pair
              ((Kd.int IntKind.i64).pair ((Kd.int IntKind.i64).pair ((Kd.int IntKind.i64).pair (Kd.int IntKind.i64))))))
          a7])) := by kernel_rfl
noncomputable abbrev j66L (a0 : ByteArray) := evFuncV Try.prog J3 (addCut 0 [0, 2, 3, 4, 5, 77, 78] [3, 4] (entC kDe cDe) noCuts) Try.f66 (killA 0 [sS]) (showA 0 [sS] (a0, ())).1 (showA 0 [sS] (a0, ())).2
theorem j66 (a0 : ByteArray) : j66L a0 = (bif decide ((↑a0.size : Int) < 9) then
  bif decide ((↑a0.size : Int) ≥ 2) then
    guardB (decide (2 ≤ (↑a0.size : Int)))
      (bif !decide (a0.extract (Int.toNat 0) (Int.toNat 2) = ByteArray.mk #[83, 87]) then
        some
          (PV.tup
              [PV.agg [PV.sc (Value.int IntKind.i64 0), PV.sc (Value.int IntKind.i64 0), PV.sc (Value.slice none 0 0)],
                PV.sc (Value.int IntKind.i64 0), PV.sc (Value.int IntKind.i64 3)],
            [])
      else
        bif (↑a0.size : Int) == 1 then
          bindO a0[Int.toNat 0]? fun x =>
            bif (↑x.toNat : Int) != 83 then
              some
                (PV.tup
                    [PV.agg
                        [PV.sc (Value.int IntKind.i64 0), PV.sc (Value.int IntKind.i64 0),
                          PV.sc (Value.slice none 0 0)],
                      PV.sc (Value.int IntKind.i64 0), PV.sc (Value.int IntKind.i64 3)],
                  [])
            else
              some
                (PV.tup
                    [PV.agg
                        [PV.sc (Value.int IntKind.i64 0), PV.sc (Value.int IntKind.i64 0),
                          PV.sc (Value.slice none 0 0)],
                      PV.sc (Value.int IntKind.i64 0), PV.sc (Value.int IntKind.i64 8)],
                  [])
        else
          some
            (PV.tup
                [PV.agg
                    [PV.sc (Value.int IntKind.i64 0), PV.sc (Value.int IntKind.i64 0), PV.sc (Value.slice none 0 0)],
                  PV.sc (Value.int IntKind.i64 0), PV.sc (Value.int IntKind.i64 8)],
              []))
  else
    bif (↑a0.size : Int) == 1 then
      bindO a0[Int.toNat 0]? fun x =>
        bif (↑x.toNat : Int) != 83 then
          some
            (PV.tup
                [PV.agg
                    [PV.sc (Value.int IntKind.i64 0), PV.sc (Value.int IntKind.i64 0), PV.sc (Value.slice none 0 0)],
                  PV.sc (Value.int IntKind.i64 0), PV.sc (Value.int IntKind.i64 3)],
              [])
        else
          some
            (PV.tup
                [PV.agg
                    [PV.sc (Value.int IntKind.i64 0), PV.sc (Value.int IntKind.i64 0), PV.sc (Value.slice none 0 0)],
                  PV.sc (Value.int IntKind.i64 0), PV.sc (Value.int IntKind.i64 8)],
              [])
    else
      some
        (PV.tup
            [PV.agg [PV.sc (Value.int IntKind.i64 0), PV.sc (Value.int IntKind.i64 0), PV.sc (Value.slice none 0 0)],
              PV.sc (Value.int IntKind.i64 0), PV.sc (Value.int IntKind.i64 8)],
          [])
else
  guardB (decide (2 ≤ (↑a0.size : Int)))
    (bif !decide (a0.extract (Int.toNat 0) (Int.toNat 2) = ByteArray.mk #[83, 87]) then
      bif decide ((↑a0.size : Int) ≥ 2) then
        guardB (decide (2 ≤ (↑a0.size : Int)))
          (bif !decide (a0.extract (Int.toNat 0) (Int.toNat 2) = ByteArray.mk #[83, 87]) then
            some
              (PV.tup
                  [PV.agg
                      [PV.sc (Value.int IntKind.i64 0), PV.sc (Value.int IntKind.i64 0), PV.sc (Value.slice none 0 0)],
                    PV.sc (Value.int IntKind.i64 0), PV.sc (Value.int IntKind.i64 3)],
                [])
          else
            bif (↑a0.size : Int) == 1 then
              bindO a0[Int.toNat 0]? fun x =>
                bif (↑x.toNat : Int) != 83 then
                  some
                    (PV.tup
                        [PV.agg
                            [PV.sc (Value.int IntKind.i64 0), PV.sc (Value.int IntKind.i64 0),
                              PV.sc (Value.slice none 0 0)],
                          PV.sc (Value.int IntKind.i64 0), PV.sc (Value.int IntKind.i64 3)],
                      [])
                else
                  some
                    (PV.tup
                        [PV.agg
                            [PV.sc (Value.int IntKind.i64 0), PV.sc (Value.int IntKind.i64 0),
                              PV.sc (Value.slice none 0 0)],
                          PV.sc (Value.int IntKind.i64 0), PV.sc (Value.int IntKind.i64 8)],
                      [])
            else
              some
                (PV.tup
                    [PV.agg
                        [PV.sc (Value.int IntKind.i64 0), PV.sc (Value.int IntKind.i64 0),
                          PV.sc (Value.slice none 0 0)],
                      PV.sc (Value.int IntKind.i64 0), PV.sc (Value.int IntKind.i64 8)],
                  []))
      else
        bif (↑a0.size : Int) == 1 then
          bindO a0[Int.toNat 0]? fun x =>
            bif (↑x.toNat : Int) != 83 then
              some
                (PV.tup
                    [PV.agg
                        [PV.sc (Value.int IntKind.i64 0), PV.sc (Value.int IntKind.i64 0),
                          PV.sc (Value.slice none 0 0)],
                      PV.sc (Value.int IntKind.i64 0), PV.sc (Value.int IntKind.i64 3)],
                  [])
            else
              some
                (PV.tup
                    [PV.agg
                        [PV.sc (Value.int IntKind.i64 0), PV.sc (Value.int IntKind.i64 0),
                          PV.sc (Value.slice none 0 0)],
                      PV.sc (Value.int IntKind.i64 0), PV.sc (Value.int IntKind.i64 8)],
                  [])
        else
          some
            (PV.tup
                [PV.agg
                    [PV.sc (Value.int IntKind.i64 0), PV.sc (Value.int IntKind.i64 0), PV.sc (Value.slice none 0 0)],
                  PV.sc (Value.int IntKind.i64 0), PV.sc (Value.int IntKind.i64 8)],
              [])
    else
      guardB (bp (okG a0 2 1))
        (guardB (bp (okG a0 3 4))
          (guardB (bp (okG a0 7 2))
            (bif decide (IntKind.i64.wrap (getN a0 3 4) > 200000) then
              some
                (PV.tup
                    [PV.agg
                        [PV.sc (Value.int IntKind.i64 0), PV.sc (Value.int IntKind.i64 0),
                          PV.sc (Value.slice none 0 0)],
                      PV.sc (Value.int IntKind.i64 0), PV.sc (Value.int IntKind.i64 3)],
                  [])
            else
              bif decide (IntKind.i64.wrap (getN a0 7 2) > 32) then
                some
                  (PV.tup
                      [PV.agg
                          [PV.sc (Value.int IntKind.i64 0), PV.sc (Value.int IntKind.i64 0),
                            PV.sc (Value.slice none 0 0)],
                        PV.sc (Value.int IntKind.i64 0), PV.sc (Value.int IntKind.i64 3)],
                    [])
              else
                bif
                    decide
                      ((↑a0.size : Int) <
                        IntKind.i64.wrap
                          (IntKind.i64.wrap (9 + IntKind.i64.wrap (IntKind.i64.wrap (getN a0 7 2) * 16)) + 2)) then
                  some
                    (PV.tup
                        [PV.agg
                            [PV.sc (Value.int IntKind.i64 0), PV.sc (Value.int IntKind.i64 0),
                              PV.sc (Value.slice none 0 0)],
                          PV.sc (Value.int IntKind.i64 0), PV.sc (Value.int IntKind.i64 8)],
                      [])
                else
                  guardB (bp (okG a0 (IntKind.i64.wrap (9 + IntKind.i64.wrap (IntKind.i64.wrap (getN a0 7 2) * 16))) 2))
                    (guardB
                      (decide (0 ≤ IntKind.i64.wrap (9 + IntKind.i64.wrap (IntKind.i64.wrap (getN a0 7 2) * 16))) &&
                        decide
                          (IntKind.i64.wrap (9 + IntKind.i64.wrap (IntKind.i64.wrap (getN a0 7 2) * 16)) ≤
                            (↑a0.size : Int)))
                      (guardB
                        (decide
                          ((a0.extract (Int.toNat 0)
                                (IntKind.i64.wrap
                                    (9 + IntKind.i64.wrap (IntKind.i64.wrap (getN a0 7 2) * 16))).toNat).size ≤
                            4000))
                        (bif
                            IntKind.i64.wrap
                                (getN a0 (IntKind.i64.wrap (9 + IntKind.i64.wrap (IntKind.i64.wrap (getN a0 7 2) * 16)))
                                  2) !=
                              (sumR 0 0
                                      (bytesI
                                        (a0.extract (Int.toNat 0)
                                          (IntKind.i64.wrap
                                              (9 +
                                                IntKind.i64.wrap (IntKind.i64.wrap (getN a0 7 2) * 16))).toNat))).snd *
                                  256 +
                                (sumR 0 0
                                    (bytesI
                                      (a0.extract (Int.toNat 0)
                                        (IntKind.i64.wrap
                                            (9 +
                                              IntKind.i64.wrap (IntKind.i64.wrap (getN a0 7 2) * 16))).toNat))).fst then
                          some
                            (PV.tup
                                [PV.agg
                                    [PV.sc (Value.int IntKind.i64 0), PV.sc (Value.int IntKind.i64 0),
                                      PV.sc (Value.slice none 0 0)],
                                  PV.sc (Value.int IntKind.i64 0), PV.sc (Value.int IntKind.i64 13)],
                              [])
                        else
                          guardB (bp (okDe a0 [] (IntKind.i64.wrap (getN a0 7 2)) 0 0 0))
                            (bif
                                plsO a0 (IntKind.i64.wrap (getN a0 2 1)) (IntKind.i64.wrap (getN a0 3 4)) 0
                                  (Int.toNat (IntKind.i64.wrap (getN a0 7 2) - 0)) then
                              some
                                (PV.tup
                                    [PV.agg
                                        [PV.sc (Value.int IntKind.i64 (IntKind.i64.wrap (getN a0 2 1))),
                                          PV.sc (Value.int IntKind.i64 (IntKind.i64.wrap (getN a0 3 4))),
                                          PV.sl 0 0 6
                                            (postDe
                                                                  (a0, (0, 0, (), ()), 0, 0,
                                                                    (IntKind.i64.wrap (getN a0 2 1),
                                                                      IntKind.i64.wrap (getN a0 3 4), ([], true),
                                                                      ()),
                                                                    IntKind.i64.wrap (getN a0 7 2), 0,
                                                                    ())).snd.snd.snd.snd.fst.snd.snd.fst.fst.length
                                            (postDe
                                                                  (a0, (0, 0, (), ()), 0, 0,
                                                                    (IntKind.i64.wrap (getN a0 2 1),
                                                                      IntKind.i64.wrap (getN a0 3 4), ([], true),
                                                                      ()),
                                                                    IntKind.i64.wrap (getN a0 7 2), 0,
                                                                    ())).snd.snd.snd.snd.fst.snd.snd.fst.fst.length
                                            false
                                            (flagD a0 (IntKind.i64.wrap (getN a0 2 1)) (IntKind.i64.wrap (getN a0 3 4))
                                              (IntKind.i64.wrap (getN a0 7 2)) 0 true)],
                                      PV.sc
                                        (Value.int IntKind.i64
                                          (IntKind.i64.wrap
                                            (IntKind.i64.wrap
                                                (9 + IntKind.i64.wrap (IntKind.i64.wrap (getN a0 7 2) * 16)) +
                                              2))),
                                      PV.sc (Value.int IntKind.i64 0)],
                                  [Blk.row true
                                      ((Kd.int IntKind.i64).pair
                                        ((Kd.int IntKind.i64).pair
                                          ((Kd.int IntKind.i64).pair
                                            ((Kd.int IntKind.i64).pair
                                              ((Kd.int IntKind.i64).pair (Kd.int IntKind.i64))))))
                                      (plsT a0 (IntKind.i64.wrap (getN a0 2 1)) (IntKind.i64.wrap (getN a0 3 4)) 0
                                        (Int.toNat (IntKind.i64.wrap (getN a0 7 2) - 0)))])
                            else
                              some
                                (PV.tup
                                    [PV.agg
                                        [PV.sc (Value.int IntKind.i64 0), PV.sc (Value.int IntKind.i64 0),
                                          PV.sc (Value.slice none 0 0)],
                                      PV.sc (Value.int IntKind.i64 0), PV.sc (Value.int IntKind.i64 3)],
                                  [])))))))))) := by kernel_rfl
theorem numL_in : ∀ (l : List Int) (n : Int), (∀ x ∈ l, 0 ≤ x ∧ x ≤ 255) → 0 ≤ n → 0 ≤ numL n l ∧ numL n l < (n + 1) * 256 ^ l.length
  | [], n, _, h0 => by
    rw [numL, List.length_nil, Int.pow_zero, Int.mul_one]; omega
  | x :: r, n, h, h0 => by
    have hx := h x (List.mem_cons_self)
    obtain ⟨h1, h2⟩ := numL_in r (n * 256 + x) (fun y hy => h y (List.mem_cons_of_mem _ hy)) (by omega)
    rw [numL, List.length_cons]
    refine ⟨h1, Int.lt_of_lt_of_le h2 ?_⟩
    have e : (256 : Int) ^ (r.length + 1) = 256 * 256 ^ r.length := by rw [Int.pow_succ, Int.mul_comm]
    rw [e, ← Int.mul_assoc]
    exact Int.mul_le_mul_of_nonneg_right (by omega) (Int.pow_nonneg (by decide))
theorem getN_in {s : ByteArray} {a k : Int} (h : okG s a k) : 0 ≤ getN s a k ∧ getN s a k < 256 ^ k.toNat := by
  obtain ⟨h0, h1, h2, h3, h4⟩ := h
  rw [getN_eq]
  have hl : (((bytesI s).drop a.toNat).take k.toNat).length = k.toNat := by
    rw [List.length_take, List.length_drop, bytes_len]; omega
  obtain ⟨g1, g2⟩ := numL_in (((bytesI s).drop a.toNat).take k.toNat) 0 (fun x hx => bytes_in s x (List.mem_of_mem_drop (List.mem_of_mem_take hx))) (by omega)
  rw [hl] at g2
  exact ⟨g1, by omega⟩
theorem getN8 {s : ByteArray} {a : Int} (h : okG s a 8) : okU (getN s a 8) := getN_in h
theorem getN4 {s : ByteArray} {a : Int} (h : okG s a 4) : 0 ≤ getN s a 4 ∧ getN s a 4 < 4294967296 := getN_in h
theorem getN2 {s : ByteArray} {a : Int} (h : okG s a 2) : 0 ≤ getN s a 2 ∧ getN s a 2 < 65536 := getN_in h
theorem getN1 {s : ByteArray} {a : Int} (h : okG s a 1) : 0 ≤ getN s a 1 ∧ getN s a 1 < 256 := getN_in h
theorem p114 (s : ByteArray) (a r t : Int) (l : List P6) (nl : Bool) (h : okPl s a) : j114L s a r t l nl = some (PV.tup [PV.agg [PV.sc (.int .i64 r), PV.sc (.int .i64 t), PV.sc (.int .i64 (plP s a r t).2.2.1), PV.sc (.int .i64 (plP s a r t).2.2.2.1), PV.sc (.int .i64 (plP s a r t).2.2.2.2.1), PV.sc (.int .i64 (plP s a r t).2.2.2.2.2)], PV.sc (.bool (plO s a r t))], [Blk.row false kP l]) := by
  obtain ⟨h0, h1, h2⟩ := h
  have g8 : okG s a 8 := ⟨h0, by omega, by omega, by omega, by omega⟩
  have ga : okG s (a + 8) 2 := ⟨h0, by omega, by omega, by omega, by omega⟩
  have gh : okG s (a + 10) 4 := ⟨h0, by omega, by omega, by omega, by omega⟩
  have gc : okG s (a + 14) 2 := ⟨h0, by omega, by omega, by omega, by omega⟩
  have ia := getN2 ga
  have ih := getN4 gh
  have ic := getN2 gc
  have it := toF_in (getN s a 8)
  rw [j114, IntWalk.i64_in (a + 8) (by omega), IntWalk.i64_in (a + 10) (by omega), IntWalk.i64_in (a + 14) (by omega), IntWalk.i64_in (getN s (a + 8) 2) (by omega), IntWalk.i64_in (getN s (a + 10) 4) (by omega), IntWalk.i64_in (getN s (a + 14) 2) (by omega), IntWalk.i64_in (getN s (a + 14) 2 - 1) (by omega)]
  refine guard_split (bp_mk g8) (guard_split (bp_mk ⟨getN8 g8, rfl⟩) (guard_split (bp_mk ga) (guard_split (bp_mk gh) (guard_split (bp_mk gc) (guard_split (bp_mk ⟨it.1, it.2, rfl⟩) ?_)))))
  unfold plO
  have e : pltE r t (r, t, (toF (getN s a 8)).fst, getN s (a + 8) 2, getN s (a + 10) 4, getN s (a + 14) 2 - 1) = pltE r t (plP s a r t) := rfl
  rw [e]
  cases (toF (getN s a 8)).snd.snd == 0 with
  | false => rfl
  | true => cases (toF (getN s a 8)).snd.fst with
    | false => rfl
    | true =>
      simp only [cond_true, Bool.true_and]
      refine guard_split (bp_mk g8) ?_
      cases ((fbits (toF (getN s a 8)).fst : Int) == getN s a 8) with
      | false => rfl
      | true =>
        simp only [cond_true, Bool.true_and, Nat.zero_add, len_true]
        rfl
theorem J3_ok : TableOK Try.prog J3 :=
  ext_ok (entV_ok Try.call114 (liftV J2_ok mixed Try.func114 (show Try.f114.body = some (bodyF Try.f114) from rfl) (noCuts_ok _) (by decide) fun v h => p114 v.1 v.2.1 v.2.2.1.1 v.2.2.1.2.1 v.2.2.1.2.2.1.1 v.2.2.1.2.2.1.2 (bp_true.1 h))) J2_ok
abbrev blD (r t : Int) (l : List P6) (nl : Bool) : List Blk := [Blk.fix true [PV.sc (.int .i64 0), PV.sc (.int .i64 0), PV.sc (.slice none 0 0)], Blk.fix true [PV.sc (.int .i64 r), PV.sc (.int .i64 t), PV.sl 3 0 6 l.length l.length false nl], Blk.dead, Blk.row true kP l]
theorem p66a (s : ByteArray) (a1 a2 a3 a4 r t : Int) (l : List P6) (nl : Bool) (n i : Int) (h : okDe s l n i a1 a2) : j66aL s a1 a2 a3 a4 r t l nl n i = pickA (cDe (s, (a1, a2, (), ()), a3, a4, (r, t, (l, nl), ()), n, i, ())).2 := by
  obtain ⟨h0, h1, h2, h3, h4, h5, rfl, rfl⟩ := h
  show _ = cond (plsO s r t i (n - i).toNat) (some (Xt.exit 0, [PV.sc (.int .i64 a3), PV.sc (.int .i64 a4)], blD r t (l ++ plsT s r t i (n - i).toNat) (flagD s r t n i nl))) (some (Xt.ret, [PV.sc (.int .i64 0), PV.sc (.int .i64 3)], blD r t (l ++ plsT s r t i (n - i).toNat) (flagD s r t n i nl)))
  rw [j66a]
  refine cond_split (fun h => ?_) (fun h => ?_)
  · have hf : flagD s r t n i nl = bif plO s (9 + i * 16) r t then false else nl := by unfold flagD; rw [h, Bool.true_and]
    have h := of_decide_eq_true h
    rw [IntWalk.i64_in (i * 16) (by omega), IntWalk.i64_in (9 + i * 16) (by omega), IntWalk.i64_in (i + 1) (by omega), hf, show (n - i).toNat = (n - (i + 1)).toNat + 1 by omega, plsO, plsT]
    simp only [List.take_length, Nat.zero_add, len_true, cond_true]
    refine guard_split (bp_mk ⟨h0, by omega, by omega⟩) ?_
    cases hp : plO s (9 + i * 16) r t with
    | false =>
      simp only [Bool.not_false, cond_true, Bool.false_and, cond_false, List.append_nil]
    | true =>
      simp only [Bool.not_true, cond_true, Bool.true_and, cond_false]
      have e : l ++ [(r, t, (toF (getN s (9 + i * 16) 8)).fst, getN s (9 + i * 16 + 8) 2, getN s (9 + i * 16 + 10) 4, getN s (9 + i * 16 + 14) 2 - 1)] = l ++ [plP s (9 + i * 16) r t] := rfl
      rw [e]
      have el : (l ++ [plP s (9 + i * 16) r t]).length = l.length + 1 := by simp
      have e2 : l ++ plP s (9 + i * 16) r t :: plsT s r t (i + 1) (n - (i + 1)).toNat = l ++ [plP s (9 + i * 16) r t] ++ plsT s r t (i + 1) (n - (i + 1)).toNat := by simp
      have hfl : flagD s r t n (i + 1) false = false := by unfold flagD; cases decide (i + 1 < n) && plO s (9 + (i + 1) * 16) r t <;> rfl
      rw [e2, hfl]
      generalize l ++ [plP s (9 + i * 16) r t] = l1 at *
      refine guard_split (by simp; omega) (guard_split (decide_eq_true (show (n - (i + 1)).toNat < (n - i).toNat by omega)) (guard_split ?_ ?_))
      · rw [decide_eq_true (show l.length + 1 = l1.length by omega)]
        exact bp_mk ⟨h0, by omega, by omega, h3, h4, by omega, rfl, rfl⟩
      · cases plsO s r t (i + 1) (n - (i + 1)).toNat <;> rfl
  · have hf : flagD s r t n i nl = nl := by unfold flagD; rw [h]; rfl
    have h := of_decide_eq_false h
    rw [hf, show (n - i).toNat = 0 by omega, plsO, plsT, List.append_nil]
    rfl
theorem in66 : CutOK Try.prog Try.f66.ntmps (codeAt 0 (bodyF Try.f66)) [0, 2, 3, 4, 5, 77, 78] [3, 4] (entC kDe cDe) :=
  loop_cutW (kill := killA 0 kDe) J3_ok mixed muDe (by kernel_rfl) (noCuts_ok _) fun v h => p66a v.1 v.2.1.1 v.2.1.2.1 v.2.2.1 v.2.2.2.1 v.2.2.2.2.1.1 v.2.2.2.2.1.2.1 v.2.2.2.2.1.2.2.1.1 v.2.2.2.2.1.2.2.1.2 v.2.2.2.2.2.1 v.2.2.2.2.2.2.1 (bp_true.1 h)
end Go.Proofs.YtacdahpjmeianaaWi
