/- What is proved: the law PairCosts answers true for all values. No condition. -/
import Derived.Test.YtpndjpjpmcehbaaTtu2b
import Derived.Test.YtpndjpjpmcehbaaEvZd
namespace Go.Proofs.YtpndjpjpmcehbaaTu
open Go Go.Proofs Go.Proofs.YtpndjpjpmcehbaaEv Go.Proofs.YtpndjpjpmcehbaaTk
set_option maxRecDepth 100000
set_option linter.unusedSimpArgs false
set_option linter.unusedVariables false
noncomputable abbrev u9L (a0 : YtpndjpjpmcehbaaTu.Tr) (a1 : List ((Int × (Int × Int) × Int) × Int × Int)) (a2 : Bool) (a3 : Int) := evFuncV Try.prog TU8 noCuts Try.f9 (killA 0 [sTrack, rTN, sI]) (showA 0 [sTrack, rTN, sI] (a0, ((a1, a2), (a3, ())))).1 (showA 0 [sTrack, rTN, sI] (a0, ((a1, a2), (a3, ())))).2
theorem u9 (a0 : YtpndjpjpmcehbaaTu.Tr) (a1 : List ((Int × (Int × Int) × Int) × Int × Int)) (a2 : Bool) (a3 : Int) : u9L a0 a1 a2 a3 = (guardB (bif decide (0 + a1.length ≤ a1.length) then true else false)
  (bif decide (costE a0 (List.take a1.length a1) a3 = 0) then
    guardB (bif decide (0 + a1.length ≤ a1.length) then true else false)
      (bif chkT (List.take a1.length a1) == 0 then
        bif !inS a3 0 4095 then
          some
            (PV.sc (Value.bool false),
              [Blk.row false
                  (((Kd.int IntKind.i64).pair
                        (((Kd.int IntKind.i64).pair (Kd.int IntKind.i64)).pair (Kd.int IntKind.i64))).pair
                    ((Kd.int IntKind.i64).pair (Kd.int IntKind.i64)))
                  a1])
        else
          bif chkT (List.take a1.length a1) == 0 then
            bif
                partE a0.snd.snd.fst a0.snd.snd.snd.fst.fst a0.snd.snd.snd.fst.snd a0.snd.snd.snd.snd.snd.fst
                    a0.snd.snd.snd.snd.snd.snd.snd.fst a0.snd.snd.snd.snd.snd.snd.snd.snd.fst !=
                  0 then
              bif
                  0 ==
                    partE a0.snd.snd.fst a0.snd.snd.snd.fst.fst a0.snd.snd.snd.fst.snd a0.snd.snd.snd.snd.snd.fst
                      a0.snd.snd.snd.snd.snd.snd.snd.fst a0.snd.snd.snd.snd.snd.snd.snd.snd.fst then
                some
                  (PV.sc (Value.bool false),
                    [Blk.row false
                        (((Kd.int IntKind.i64).pair
                              (((Kd.int IntKind.i64).pair (Kd.int IntKind.i64)).pair (Kd.int IntKind.i64))).pair
                          ((Kd.int IntKind.i64).pair (Kd.int IntKind.i64)))
                        a1])
              else
                some
                  (PV.sc (Value.bool false),
                    [Blk.row false
                        (((Kd.int IntKind.i64).pair
                              (((Kd.int IntKind.i64).pair (Kd.int IntKind.i64)).pair (Kd.int IntKind.i64))).pair
                          ((Kd.int IntKind.i64).pair (Kd.int IntKind.i64)))
                        a1])
            else
              guardB (bif decide (0 + a1.length ≤ a1.length) then true else false)
                (bif (AtS (List.take a1.length a1) a0.snd.snd.fst).snd != 0 then
                  some
                    (PV.sc (Value.bool (costV a0 (List.take a1.length a1) a3 == -1)),
                      [Blk.row false
                          (((Kd.int IntKind.i64).pair
                                (((Kd.int IntKind.i64).pair (Kd.int IntKind.i64)).pair (Kd.int IntKind.i64))).pair
                            ((Kd.int IntKind.i64).pair (Kd.int IntKind.i64)))
                          a1])
                else
                  bif
                      decide
                        (sqr (AtS (List.take a1.length a1) a0.snd.snd.fst).fst.fst.snd.fst.fst
                            (AtS (List.take a1.length a1) a0.snd.snd.fst).fst.fst.snd.fst.snd a0.snd.snd.snd.fst.fst
                            a0.snd.snd.snd.fst.snd >
                          IntKind.i64.wrap
                            (IntKind.i64.wrap
                                ((AtS (List.take a1.length a1) a0.snd.snd.fst).fst.snd.fst +
                                  a0.snd.snd.snd.snd.snd.snd.snd.fst) *
                              IntKind.i64.wrap
                                ((AtS (List.take a1.length a1) a0.snd.snd.fst).fst.snd.fst +
                                  a0.snd.snd.snd.snd.snd.snd.snd.fst))) then
                    some
                      (PV.sc (Value.bool (costV a0 (List.take a1.length a1) a3 == -1)),
                        [Blk.row false
                            (((Kd.int IntKind.i64).pair
                                  (((Kd.int IntKind.i64).pair (Kd.int IntKind.i64)).pair (Kd.int IntKind.i64))).pair
                              ((Kd.int IntKind.i64).pair (Kd.int IntKind.i64)))
                            a1])
                  else
                    bif
                        decide
                          (aptR (AtS (List.take a1.length a1) a0.snd.snd.fst).fst.fst.snd.snd
                              a0.snd.snd.snd.snd.snd.fst >
                            IntKind.i64.wrap ((AtS (List.take a1.length a1) a0.snd.snd.fst).fst.snd.snd + 100)) then
                      some
                        (PV.sc (Value.bool (costV a0 (List.take a1.length a1) a3 == -1)),
                          [Blk.row false
                              (((Kd.int IntKind.i64).pair
                                    (((Kd.int IntKind.i64).pair (Kd.int IntKind.i64)).pair (Kd.int IntKind.i64))).pair
                                ((Kd.int IntKind.i64).pair (Kd.int IntKind.i64)))
                              a1])
                    else
                      bif a0.snd.snd.snd.snd.snd.snd.snd.snd.fst != -1 then
                        bif a0.snd.snd.snd.snd.snd.snd.snd.snd.fst != a3 then
                          some
                            (PV.sc (Value.bool (costV a0 (List.take a1.length a1) a3 == -1)),
                              [Blk.row false
                                  (((Kd.int IntKind.i64).pair
                                        (((Kd.int IntKind.i64).pair (Kd.int IntKind.i64)).pair
                                          (Kd.int IntKind.i64))).pair
                                    ((Kd.int IntKind.i64).pair (Kd.int IntKind.i64)))
                                  a1])
                        else
                          bif a0.snd.snd.snd.snd.snd.snd.snd.snd.fst == -1 then
                            some
                              (PV.sc
                                  (Value.bool
                                    (costV a0 (List.take a1.length a1) a3 ==
                                      IntKind.i64.wrap
                                        (IntKind.i64.wrap
                                            ((sqr (AtS (List.take a1.length a1) a0.snd.snd.fst).fst.fst.snd.fst.fst
                                                  (AtS (List.take a1.length a1) a0.snd.snd.fst).fst.fst.snd.fst.snd
                                                  a0.snd.snd.snd.fst.fst a0.snd.snd.snd.fst.snd).tdiv
                                              10000) +
                                          1048576))),
                                [Blk.row false
                                    (((Kd.int IntKind.i64).pair
                                          (((Kd.int IntKind.i64).pair (Kd.int IntKind.i64)).pair
                                            (Kd.int IntKind.i64))).pair
                                      ((Kd.int IntKind.i64).pair (Kd.int IntKind.i64)))
                                    a1])
                          else
                            some
                              (PV.sc
                                  (Value.bool
                                    (costV a0 (List.take a1.length a1) a3 ==
                                      IntKind.i64.wrap
                                        ((sqr (AtS (List.take a1.length a1) a0.snd.snd.fst).fst.fst.snd.fst.fst
                                              (AtS (List.take a1.length a1) a0.snd.snd.fst).fst.fst.snd.fst.snd
                                              a0.snd.snd.snd.fst.fst a0.snd.snd.snd.fst.snd).tdiv
                                          10000))),
                                [Blk.row false
                                    (((Kd.int IntKind.i64).pair
                                          (((Kd.int IntKind.i64).pair (Kd.int IntKind.i64)).pair
                                            (Kd.int IntKind.i64))).pair
                                      ((Kd.int IntKind.i64).pair (Kd.int IntKind.i64)))
                                    a1])
                      else
                        bif a0.snd.snd.snd.snd.snd.snd.snd.snd.fst == -1 then
                          some
                            (PV.sc
                                (Value.bool
                                  (costV a0 (List.take a1.length a1) a3 ==
                                    IntKind.i64.wrap
                                      (IntKind.i64.wrap
                                          ((sqr (AtS (List.take a1.length a1) a0.snd.snd.fst).fst.fst.snd.fst.fst
                                                (AtS (List.take a1.length a1) a0.snd.snd.fst).fst.fst.snd.fst.snd
                                                a0.snd.snd.snd.fst.fst a0.snd.snd.snd.fst.snd).tdiv
                                            10000) +
                                        1048576))),
                              [Blk.row false
                                  (((Kd.int IntKind.i64).pair
                                        (((Kd.int IntKind.i64).pair (Kd.int IntKind.i64)).pair
                                          (Kd.int IntKind.i64))).pair
                                    ((Kd.int IntKind.i64).pair (Kd.int IntKind.i64)))
                                  a1])
                        else
                          some
                            (PV.sc
                                (Value.bool
                                  (costV a0 (List.take a1.length a1) a3 ==
                                    IntKind.i64.wrap
                                      ((sqr (AtS (List.take a1.length a1) a0.snd.snd.fst).fst.fst.snd.fst.fst
                                            (AtS (List.take a1.length a1) a0.snd.snd.fst).fst.fst.snd.fst.snd
                                            a0.snd.snd.snd.fst.fst a0.snd.snd.snd.fst.snd).tdiv
                                        10000))),
                              [Blk.row false
                                  (((Kd.int IntKind.i64).pair
                                        (((Kd.int IntKind.i64).pair (Kd.int IntKind.i64)).pair
                                          (Kd.int IntKind.i64))).pair
                                    ((Kd.int IntKind.i64).pair (Kd.int IntKind.i64)))
                                  a1]))
          else
            bif chkT (List.take a1.length a1) != 0 then
              bif 0 == chkT (List.take a1.length a1) then
                some
                  (PV.sc (Value.bool false),
                    [Blk.row false
                        (((Kd.int IntKind.i64).pair
                              (((Kd.int IntKind.i64).pair (Kd.int IntKind.i64)).pair (Kd.int IntKind.i64))).pair
                          ((Kd.int IntKind.i64).pair (Kd.int IntKind.i64)))
                        a1])
              else
                some
                  (PV.sc (Value.bool false),
                    [Blk.row false
                        (((Kd.int IntKind.i64).pair
                              (((Kd.int IntKind.i64).pair (Kd.int IntKind.i64)).pair (Kd.int IntKind.i64))).pair
                          ((Kd.int IntKind.i64).pair (Kd.int IntKind.i64)))
                        a1])
            else
              guardB (bif decide (0 + a1.length ≤ a1.length) then true else false)
                (bif (AtS (List.take a1.length a1) a0.snd.snd.fst).snd != 0 then
                  some
                    (PV.sc (Value.bool (costV a0 (List.take a1.length a1) a3 == -1)),
                      [Blk.row false
                          (((Kd.int IntKind.i64).pair
                                (((Kd.int IntKind.i64).pair (Kd.int IntKind.i64)).pair (Kd.int IntKind.i64))).pair
                            ((Kd.int IntKind.i64).pair (Kd.int IntKind.i64)))
                          a1])
                else
                  bif
                      decide
                        (sqr (AtS (List.take a1.length a1) a0.snd.snd.fst).fst.fst.snd.fst.fst
                            (AtS (List.take a1.length a1) a0.snd.snd.fst).fst.fst.snd.fst.snd a0.snd.snd.snd.fst.fst
                            a0.snd.snd.snd.fst.snd >
                          IntKind.i64.wrap
                            (IntKind.i64.wrap
                                ((AtS (List.take a1.length a1) a0.snd.snd.fst).fst.snd.fst +
                                  a0.snd.snd.snd.snd.snd.snd.snd.fst) *
                              IntKind.i64.wrap
                                ((AtS (List.take a1.length a1) a0.snd.snd.fst).fst.snd.fst +
                                  a0.snd.snd.snd.snd.snd.snd.snd.fst))) then
                    some
                      (PV.sc (Value.bool (costV a0 (List.take a1.length a1) a3 == -1)),
                        [Blk.row false
                            (((Kd.int IntKind.i64).pair
                                  (((Kd.int IntKind.i64).pair (Kd.int IntKind.i64)).pair (Kd.int IntKind.i64))).pair
                              ((Kd.int IntKind.i64).pair (Kd.int IntKind.i64)))
                            a1])
                  else
                    bif
                        decide
                          (aptR (AtS (List.take a1.length a1) a0.snd.snd.fst).fst.fst.snd.snd
                              a0.snd.snd.snd.snd.snd.fst >
                            IntKind.i64.wrap ((AtS (List.take a1.length a1) a0.snd.snd.fst).fst.snd.snd + 100)) then
                      some
                        (PV.sc (Value.bool (costV a0 (List.take a1.length a1) a3 == -1)),
                          [Blk.row false
                              (((Kd.int IntKind.i64).pair
                                    (((Kd.int IntKind.i64).pair (Kd.int IntKind.i64)).pair (Kd.int IntKind.i64))).pair
                                ((Kd.int IntKind.i64).pair (Kd.int IntKind.i64)))
                              a1])
                    else
                      bif a0.snd.snd.snd.snd.snd.snd.snd.snd.fst != -1 then
                        bif a0.snd.snd.snd.snd.snd.snd.snd.snd.fst != a3 then
                          some
                            (PV.sc (Value.bool (costV a0 (List.take a1.length a1) a3 == -1)),
                              [Blk.row false
                                  (((Kd.int IntKind.i64).pair
                                        (((Kd.int IntKind.i64).pair (Kd.int IntKind.i64)).pair
                                          (Kd.int IntKind.i64))).pair
                                    ((Kd.int IntKind.i64).pair (Kd.int IntKind.i64)))
                                  a1])
                        else
                          bif a0.snd.snd.snd.snd.snd.snd.snd.snd.fst == -1 then
                            some
                              (PV.sc
                                  (Value.bool
                                    (costV a0 (List.take a1.length a1) a3 ==
                                      IntKind.i64.wrap
                                        (IntKind.i64.wrap
                                            ((sqr (AtS (List.take a1.length a1) a0.snd.snd.fst).fst.fst.snd.fst.fst
                                                  (AtS (List.take a1.length a1) a0.snd.snd.fst).fst.fst.snd.fst.snd
                                                  a0.snd.snd.snd.fst.fst a0.snd.snd.snd.fst.snd).tdiv
                                              10000) +
                                          1048576))),
                                [Blk.row false
                                    (((Kd.int IntKind.i64).pair
                                          (((Kd.int IntKind.i64).pair (Kd.int IntKind.i64)).pair
                                            (Kd.int IntKind.i64))).pair
                                      ((Kd.int IntKind.i64).pair (Kd.int IntKind.i64)))
                                    a1])
                          else
                            some
                              (PV.sc
                                  (Value.bool
                                    (costV a0 (List.take a1.length a1) a3 ==
                                      IntKind.i64.wrap
                                        ((sqr (AtS (List.take a1.length a1) a0.snd.snd.fst).fst.fst.snd.fst.fst
                                              (AtS (List.take a1.length a1) a0.snd.snd.fst).fst.fst.snd.fst.snd
                                              a0.snd.snd.snd.fst.fst a0.snd.snd.snd.fst.snd).tdiv
                                          10000))),
                                [Blk.row false
                                    (((Kd.int IntKind.i64).pair
                                          (((Kd.int IntKind.i64).pair (Kd.int IntKind.i64)).pair
                                            (Kd.int IntKind.i64))).pair
                                      ((Kd.int IntKind.i64).pair (Kd.int IntKind.i64)))
                                    a1])
                      else
                        bif a0.snd.snd.snd.snd.snd.snd.snd.snd.fst == -1 then
                          some
                            (PV.sc
                                (Value.bool
                                  (costV a0 (List.take a1.length a1) a3 ==
                                    IntKind.i64.wrap
                                      (IntKind.i64.wrap
                                          ((sqr (AtS (List.take a1.length a1) a0.snd.snd.fst).fst.fst.snd.fst.fst
                                                (AtS (List.take a1.length a1) a0.snd.snd.fst).fst.fst.snd.fst.snd
                                                a0.snd.snd.snd.fst.fst a0.snd.snd.snd.fst.snd).tdiv
                                            10000) +
                                        1048576))),
                              [Blk.row false
                                  (((Kd.int IntKind.i64).pair
                                        (((Kd.int IntKind.i64).pair (Kd.int IntKind.i64)).pair
                                          (Kd.int IntKind.i64))).pair
                                    ((Kd.int IntKind.i64).pair (Kd.int IntKind.i64)))
                                  a1])
                        else
                          some
                            (PV.sc
                                (Value.bool
                                  (costV a0 (List.take a1.length a1) a3 ==
                                    IntKind.i64.wrap
                                      ((sqr (AtS (List.take a1.length a1) a0.snd.snd.fst).fst.fst.snd.fst.fst
                                            (AtS (List.take a1.length a1) a0.snd.snd.fst).fst.fst.snd.fst.snd
                                            a0.snd.snd.snd.fst.fst a0.snd.snd.snd.fst.snd).tdiv
                                        10000))),
                              [Blk.row false
                                  (((Kd.int IntKind.i64).pair
                                        (((Kd.int IntKind.i64).pair (Kd.int IntKind.i64)).pair
                                          (Kd.int IntKind.i64))).pair
                                    ((Kd.int IntKind.i64).pair (Kd.int IntKind.i64)))
                                  a1]))
      else
        bif chkT (List.take a1.length a1) == 0 then
          bif
              partE a0.snd.snd.fst a0.snd.snd.snd.fst.fst a0.snd.snd.snd.fst.snd a0.snd.snd.snd.snd.snd.fst
                  a0.snd.snd.snd.snd.snd.snd.snd.fst a0.snd.snd.snd.snd.snd.snd.snd.snd.fst !=
                0 then
            bif
                0 ==
                  partE a0.snd.snd.fst a0.snd.snd.snd.fst.fst a0.snd.snd.snd.fst.snd a0.snd.snd.snd.snd.snd.fst
                    a0.snd.snd.snd.snd.snd.snd.snd.fst a0.snd.snd.snd.snd.snd.snd.snd.snd.fst then
              some
                (PV.sc (Value.bool false),
                  [Blk.row false
                      (((Kd.int IntKind.i64).pair
                            (((Kd.int IntKind.i64).pair (Kd.int IntKind.i64)).pair (Kd.int IntKind.i64))).pair
                        ((Kd.int IntKind.i64).pair (Kd.int IntKind.i64)))
                      a1])
            else
              some
                (PV.sc (Value.bool false),
                  [Blk.row false
                      (((Kd.int IntKind.i64).pair
                            (((Kd.int IntKind.i64).pair (Kd.int IntKind.i64)).pair (Kd.int IntKind.i64))).pair
                        ((Kd.int IntKind.i64).pair (Kd.int IntKind.i64)))
                      a1])
          else
            guardB (bif decide (0 + a1.length ≤ a1.length) then true else false)
              (bif (AtS (List.take a1.length a1) a0.snd.snd.fst).snd != 0 then
                some
                  (PV.sc (Value.bool (costV a0 (List.take a1.length a1) a3 == -1)),
                    [Blk.row false
                        (((Kd.int IntKind.i64).pair
                              (((Kd.int IntKind.i64).pair (Kd.int IntKind.i64)).pair (Kd.int IntKind.i64))).pair
                          ((Kd.int IntKind.i64).pair (Kd.int IntKind.i64)))
                        a1])
              else
                bif
                    decide
                      (sqr (AtS (List.take a1.length a1) a0.snd.snd.fst).fst.fst.snd.fst.fst
                          (AtS (List.take a1.length a1) a0.snd.snd.fst).fst.fst.snd.fst.snd a0.snd.snd.snd.fst.fst
                          a0.snd.snd.snd.fst.snd >
                        IntKind.i64.wrap
                          (IntKind.i64.wrap
                              ((AtS (List.take a1.length a1) a0.snd.snd.fst).fst.snd.fst +
                                a0.snd.snd.snd.snd.snd.snd.snd.fst) *
                            IntKind.i64.wrap
                              ((AtS (List.take a1.length a1) a0.snd.snd.fst).fst.snd.fst +
                                a0.snd.snd.snd.snd.snd.snd.snd.fst))) then
                  some
                    (PV.sc (Value.bool (costV a0 (List.take a1.length a1) a3 == -1)),
                      [Blk.row false
                          (((Kd.int IntKind.i64).pair
                                (((Kd.int IntKind.i64).pair (Kd.int IntKind.i64)).pair (Kd.int IntKind.i64))).pair
                            ((Kd.int IntKind.i64).pair (Kd.int IntKind.i64)))
                          a1])
                else
                  bif
                      decide
                        (aptR (AtS (List.take a1.length a1) a0.snd.snd.fst).fst.fst.snd.snd a0.snd.snd.snd.snd.snd.fst >
                          IntKind.i64.wrap ((AtS (List.take a1.length a1) a0.snd.snd.fst).fst.snd.snd + 100)) then
                    some
                      (PV.sc (Value.bool (costV a0 (List.take a1.length a1) a3 == -1)),
                        [Blk.row false
                            (((Kd.int IntKind.i64).pair
                                  (((Kd.int IntKind.i64).pair (Kd.int IntKind.i64)).pair (Kd.int IntKind.i64))).pair
                              ((Kd.int IntKind.i64).pair (Kd.int IntKind.i64)))
                            a1])
                  else
                    bif a0.snd.snd.snd.snd.snd.snd.snd.snd.fst != -1 then
                      bif a0.snd.snd.snd.snd.snd.snd.snd.snd.fst != a3 then
                        some
                          (PV.sc (Value.bool (costV a0 (List.take a1.length a1) a3 == -1)),
                            [Blk.row false
                                (((Kd.int IntKind.i64).pair
                                      (((Kd.int IntKind.i64).pair (Kd.int IntKind.i64)).pair (Kd.int IntKind.i64))).pair
                                  ((Kd.int IntKind.i64).pair (Kd.int IntKind.i64)))
                                a1])
                      else
                        bif a0.snd.snd.snd.snd.snd.snd.snd.snd.fst == -1 then
                          some
                            (PV.sc
                                (Value.bool
                                  (costV a0 (List.take a1.length a1) a3 ==
                                    IntKind.i64.wrap
                                      (IntKind.i64.wrap
                                          ((sqr (AtS (List.take a1.length a1) a0.snd.snd.fst).fst.fst.snd.fst.fst
                                                (AtS (List.take a1.length a1) a0.snd.snd.fst).fst.fst.snd.fst.snd
                                                a0.snd.snd.snd.fst.fst a0.snd.snd.snd.fst.snd).tdiv
                                            10000) +
                                        1048576))),
                              [Blk.row false
                                  (((Kd.int IntKind.i64).pair
                                        (((Kd.int IntKind.i64).pair (Kd.int IntKind.i64)).pair
                                          (Kd.int IntKind.i64))).pair
                                    ((Kd.int IntKind.i64).pair (Kd.int IntKind.i64)))
                                  a1])
                        else
                          some
                            (PV.sc
                                (Value.bool
                                  (costV a0 (List.take a1.length a1) a3 ==
                                    IntKind.i64.wrap
                                      ((sqr (AtS (List.take a1.length a1) a0.snd.snd.fst).fst.fst.snd.fst.fst
                                            (AtS (List.take a1.length a1) a0.snd.snd.fst).fst.fst.snd.fst.snd
                                            a0.snd.snd.snd.fst.fst a0.snd.snd.snd.fst.snd).tdiv
                                        10000))),
                              [Blk.row false
                                  (((Kd.int IntKind.i64).pair
                                        (((Kd.int IntKind.i64).pair (Kd.int IntKind.i64)).pair
                                          (Kd.int IntKind.i64))).pair
                                    ((Kd.int IntKind.i64).pair (Kd.int IntKind.i64)))
                                  a1])
                    else
                      bif a0.snd.snd.snd.snd.snd.snd.snd.snd.fst == -1 then
                        some
                          (PV.sc
                              (Value.bool
                                (costV a0 (List.take a1.length a1) a3 ==
                                  IntKind.i64.wrap
                                    (IntKind.i64.wrap
                                        ((sqr (AtS (List.take a1.length a1) a0.snd.snd.fst).fst.fst.snd.fst.fst
                                              (AtS (List.take a1.length a1) a0.snd.snd.fst).fst.fst.snd.fst.snd
                                              a0.snd.snd.snd.fst.fst a0.snd.snd.snd.fst.snd).tdiv
                                          10000) +
                                      1048576))),
                            [Blk.row false
                                (((Kd.int IntKind.i64).pair
                                      (((Kd.int IntKind.i64).pair (Kd.int IntKind.i64)).pair (Kd.int IntKind.i64))).pair
                                  ((Kd.int IntKind.i64).pair (Kd.int IntKind.i64)))
                                a1])
                      else
                        some
                          (PV.sc
                              (Value.bool
                                (costV a0 (List.take a1.length a1) a3 ==
                                  IntKind.i64.wrap
                                    ((sqr (AtS (List.take a1.length a1) a0.snd.snd.fst).fst.fst.snd.fst.fst
                                          (AtS (List.take a1.length a1) a0.snd.snd.fst).fst.fst.snd.fst.snd
                                          a0.snd.snd.snd.fst.fst a0.snd.snd.snd.fst.snd).tdiv
                                      10000))),
                            [Blk.row false
                                (((Kd.int IntKind.i64).pair
                                      (((Kd.int IntKind.i64).pair (Kd.int IntKind.i64)).pair (Kd.int IntKind.i64))).pair
                                  ((Kd.int IntKind.i64).pair (Kd.int IntKind.i64)))
                                a1]))
        else
          bif chkT (List.take a1.length a1) != 0 then
            bif 0 == chkT (List.take a1.length a1) then
              some
                (PV.sc (Value.bool false),
                  [Blk.row false
                      (((Kd.int IntKind.i64).pair
                            (((Kd.int IntKind.i64).pair (Kd.int IntKind.i64)).pair (Kd.int IntKind.i64))).pair
                        ((Kd.int IntKind.i64).pair (Kd.int IntKind.i64)))
                      a1])
            else
              some
                (PV.sc (Value.bool false),
                  [Blk.row false
                      (((Kd.int IntKind.i64).pair
                            (((Kd.int IntKind.i64).pair (Kd.int IntKind.i64)).pair (Kd.int IntKind.i64))).pair
                        ((Kd.int IntKind.i64).pair (Kd.int IntKind.i64)))
                      a1])
          else
            guardB (bif decide (0 + a1.length ≤ a1.length) then true else false)
              (bif (AtS (List.take a1.length a1) a0.snd.snd.fst).snd != 0 then
                some
                  (PV.sc (Value.bool (costV a0 (List.take a1.length a1) a3 == -1)),
                    [Blk.row false
                        (((Kd.int IntKind.i64).pair
                              (((Kd.int IntKind.i64).pair (Kd.int IntKind.i64)).pair (Kd.int IntKind.i64))).pair
                          ((Kd.int IntKind.i64).pair (Kd.int IntKind.i64)))
                        a1])
              else
                bif
                    decide
                      (sqr (AtS (List.take a1.length a1) a0.snd.snd.fst).fst.fst.snd.fst.fst
                          (AtS (List.take a1.length a1) a0.snd.snd.fst).fst.fst.snd.fst.snd a0.snd.snd.snd.fst.fst
                          a0.snd.snd.snd.fst.snd >
                        IntKind.i64.wrap
                          (IntKind.i64.wrap
                              ((AtS (List.take a1.length a1) a0.snd.snd.fst).fst.snd.fst +
                                a0.snd.snd.snd.snd.snd.snd.snd.fst) *
                            IntKind.i64.wrap
                              ((AtS (List.take a1.length a1) a0.snd.snd.fst).fst.snd.fst +
                                a0.snd.snd.snd.snd.snd.snd.snd.fst))) then
                  some
                    (PV.sc (Value.bool (costV a0 (List.take a1.length a1) a3 == -1)),
                      [Blk.row false
                          (((Kd.int IntKind.i64).pair
                                (((Kd.int IntKind.i64).pair (Kd.int IntKind.i64)).pair (Kd.int IntKind.i64))).pair
                            ((Kd.int IntKind.i64).pair (Kd.int IntKind.i64)))
                          a1])
                else
                  bif
                      decide
                        (aptR (AtS (List.take a1.length a1) a0.snd.snd.fst).fst.fst.snd.snd a0.snd.snd.snd.snd.snd.fst >
                          IntKind.i64.wrap ((AtS (List.take a1.length a1) a0.snd.snd.fst).fst.snd.snd + 100)) then
                    some
                      (PV.sc (Value.bool (costV a0 (List.take a1.length a1) a3 == -1)),
                        [Blk.row false
                            (((Kd.int IntKind.i64).pair
                                  (((Kd.int IntKind.i64).pair (Kd.int IntKind.i64)).pair (Kd.int IntKind.i64))).pair
                              ((Kd.int IntKind.i64).pair (Kd.int IntKind.i64)))
                            a1])
                  else
                    bif a0.snd.snd.snd.snd.snd.snd.snd.snd.fst != -1 then
                      bif a0.snd.snd.snd.snd.snd.snd.snd.snd.fst != a3 then
                        some
                          (PV.sc (Value.bool (costV a0 (List.take a1.length a1) a3 == -1)),
                            [Blk.row false
                                (((Kd.int IntKind.i64).pair
                                      (((Kd.int IntKind.i64).pair (Kd.int IntKind.i64)).pair (Kd.int IntKind.i64))).pair
                                  ((Kd.int IntKind.i64).pair (Kd.int IntKind.i64)))
                                a1])
                      else
                        bif a0.snd.snd.snd.snd.snd.snd.snd.snd.fst == -1 then
                          some
                            (PV.sc
                                (Value.bool
                                  (costV a0 (List.take a1.length a1) a3 ==
                                    IntKind.i64.wrap
                                      (IntKind.i64.wrap
                                          ((sqr (AtS (List.take a1.length a1) a0.snd.snd.fst).fst.fst.snd.fst.fst
                                                (AtS (List.take a1.length a1) a0.snd.snd.fst).fst.fst.snd.fst.snd
                                                a0.snd.snd.snd.fst.fst a0.snd.snd.snd.fst.snd).tdiv
                                            10000) +
                                        1048576))),
                              [Blk.row false
                                  (((Kd.int IntKind.i64).pair
                                        (((Kd.int IntKind.i64).pair (Kd.int IntKind.i64)).pair
                                          (Kd.int IntKind.i64))).pair
                                    ((Kd.int IntKind.i64).pair (Kd.int IntKind.i64)))
                                  a1])
                        else
                          some
                            (PV.sc
                                (Value.bool
                                  (costV a0 (List.take a1.length a1) a3 ==
                                    IntKind.i64.wrap
                                      ((sqr (AtS (List.take a1.length a1) a0.snd.snd.fst).fst.fst.snd.fst.fst
                                            (AtS (List.take a1.length a1) a0.snd.snd.fst).fst.fst.snd.fst.snd
                                            a0.snd.snd.snd.fst.fst a0.snd.snd.snd.fst.snd).tdiv
                                        10000))),
                              [Blk.row false
                                  (((Kd.int IntKind.i64).pair
                                        (((Kd.int IntKind.i64).pair (Kd.int IntKind.i64)).pair
                                          (Kd.int IntKind.i64))).pair
                                    ((Kd.int IntKind.i64).pair (Kd.int IntKind.i64)))
                                  a1])
                    else
                      bif a0.snd.snd.snd.snd.snd.snd.snd.snd.fst == -1 then
                        some
                          (PV.sc
                              (Value.bool
                                (costV a0 (List.take a1.length a1) a3 ==
                                  IntKind.i64.wrap
                                    (IntKind.i64.wrap
                                        ((sqr (AtS (List.take a1.length a1) a0.snd.snd.fst).fst.fst.snd.fst.fst
                                              (AtS (List.take a1.length a1) a0.snd.snd.fst).fst.fst.snd.fst.snd
                                              a0.snd.snd.snd.fst.fst a0.snd.snd.snd.fst.snd).tdiv
                                          10000) +
                                      1048576))),
                            [Blk.row false
                                (((Kd.int IntKind.i64).pair
                                      (((Kd.int IntKind.i64).pair (Kd.int IntKind.i64)).pair (Kd.int IntKind.i64))).pair
                                  ((Kd.int IntKind.i64).pair (Kd.int IntKind.i64)))
                                a1])
                      else
                        some
                          (PV.sc
                              (Value.bool
                                (costV a0 (List.take a1.length a1) a3 ==
                                  IntKind.i64.wrap
                                    ((sqr (AtS (List.take a1.length a1) a0.snd.snd.fst).fst.fst.snd.fst.fst
                                          (AtS (List.take a1.length a1) a0.snd.snd.fst).fst.fst.snd.fst.snd
                                          a0.snd.snd.snd.fst.fst a0.snd.snd.snd.fst.snd).tdiv
                                      10000))),
                            [Blk.row false
                                (((Kd.int IntKind.i64).pair
                                      (((Kd.int IntKind.i64).pair (Kd.int IntKind.i64)).pair (Kd.int IntKind.i64))).pair
                                  ((Kd.int IntKind.i64).pair (Kd.int IntKind.i64)))
                                a1])))
  else
    guardB (bif decide (0 + a1.length ≤ a1.length) then true else false)
      (bif chkT (List.take a1.length a1) == 0 then
        bif !inS a3 0 4095 then
          bif costE a0 (List.take a1.length a1) a3 == 4 then
            some
              (PV.sc (Value.bool true),
                [Blk.row false
                    (((Kd.int IntKind.i64).pair
                          (((Kd.int IntKind.i64).pair (Kd.int IntKind.i64)).pair (Kd.int IntKind.i64))).pair
                      ((Kd.int IntKind.i64).pair (Kd.int IntKind.i64)))
                    a1])
          else
            some
              (PV.sc (Value.bool false),
                [Blk.row false
                    (((Kd.int IntKind.i64).pair
                          (((Kd.int IntKind.i64).pair (Kd.int IntKind.i64)).pair (Kd.int IntKind.i64))).pair
                      ((Kd.int IntKind.i64).pair (Kd.int IntKind.i64)))
                    a1])
        else
          bif chkT (List.take a1.length a1) == 0 then
            bif
                partE a0.snd.snd.fst a0.snd.snd.snd.fst.fst a0.snd.snd.snd.fst.snd a0.snd.snd.snd.snd.snd.fst
                    a0.snd.snd.snd.snd.snd.snd.snd.fst a0.snd.snd.snd.snd.snd.snd.snd.snd.fst !=
                  0 then
              bif
                  costE a0 (List.take a1.length a1) a3 ==
                    partE a0.snd.snd.fst a0.snd.snd.snd.fst.fst a0.snd.snd.snd.fst.snd a0.snd.snd.snd.snd.snd.fst
                      a0.snd.snd.snd.snd.snd.snd.snd.fst a0.snd.snd.snd.snd.snd.snd.snd.snd.fst then
                some
                  (PV.sc (Value.bool true),
                    [Blk.row false
                        (((Kd.int IntKind.i64).pair
                              (((Kd.int IntKind.i64).pair (Kd.int IntKind.i64)).pair (Kd.int IntKind.i64))).pair
                          ((Kd.int IntKind.i64).pair (Kd.int IntKind.i64)))
                        a1])
              else
                some
                  (PV.sc (Value.bool false),
                    [Blk.row false
                        (((Kd.int IntKind.i64).pair
                              (((Kd.int IntKind.i64).pair (Kd.int IntKind.i64)).pair (Kd.int IntKind.i64))).pair
                          ((Kd.int IntKind.i64).pair (Kd.int IntKind.i64)))
                        a1])
            else
              bif costE a0 (List.take a1.length a1) a3 != 0 then
                some
                  (PV.sc (Value.bool false),
                    [Blk.row false
                        (((Kd.int IntKind.i64).pair
                              (((Kd.int IntKind.i64).pair (Kd.int IntKind.i64)).pair (Kd.int IntKind.i64))).pair
                          ((Kd.int IntKind.i64).pair (Kd.int IntKind.i64)))
                        a1])
              else
                some
                  (PV.sc (Value.bool false),
                    [Blk.row false
                        (((Kd.int IntKind.i64).pair
                              (((Kd.int IntKind.i64).pair (Kd.int IntKind.i64)).pair (Kd.int IntKind.i64))).pair
                          ((Kd.int IntKind.i64).pair (Kd.int IntKind.i64)))
                        a1])
          else
            bif chkT (List.take a1.length a1) != 0 then
              bif costE a0 (List.take a1.length a1) a3 == chkT (List.take a1.length a1) then
                some
                  (PV.sc (Value.bool true),
                    [Blk.row false
                        (((Kd.int IntKind.i64).pair
                              (((Kd.int IntKind.i64).pair (Kd.int IntKind.i64)).pair (Kd.int IntKind.i64))).pair
                          ((Kd.int IntKind.i64).pair (Kd.int IntKind.i64)))
                        a1])
              else
                some
                  (PV.sc (Value.bool false),
                    [Blk.row false
                        (((Kd.int IntKind.i64).pair
                              (((Kd.int IntKind.i64).pair (Kd.int IntKind.i64)).pair (Kd.int IntKind.i64))).pair
                          ((Kd.int IntKind.i64).pair (Kd.int IntKind.i64)))
                        a1])
            else
              bif costE a0 (List.take a1.length a1) a3 != 0 then
                some
                  (PV.sc (Value.bool false),
                    [Blk.row false
                        (((Kd.int IntKind.i64).pair
                              (((Kd.int IntKind.i64).pair (Kd.int IntKind.i64)).pair (Kd.int IntKind.i64))).pair
                          ((Kd.int IntKind.i64).pair (Kd.int IntKind.i64)))
                        a1])
              else
                some
                  (PV.sc (Value.bool false),
                    [Blk.row false
                        (((Kd.int IntKind.i64).pair
                              (((Kd.int IntKind.i64).pair (Kd.int IntKind.i64)).pair (Kd.int IntKind.i64))).pair
                          ((Kd.int IntKind.i64).pair (Kd.int IntKind.i64)))
                        a1])
      else
        bif chkT (List.take a1.length a1) == 0 then
          bif
              partE a0.snd.snd.fst a0.snd.snd.snd.fst.fst a0.snd.snd.snd.fst.snd a0.snd.snd.snd.snd.snd.fst
                  a0.snd.snd.snd.snd.snd.snd.snd.fst a0.snd.snd.snd.snd.snd.snd.snd.snd.fst !=
                0 then
            bif
                costE a0 (List.take a1.length a1) a3 ==
                  partE a0.snd.snd.fst a0.snd.snd.snd.fst.fst a0.snd.snd.snd.fst.snd a0.snd.snd.snd.snd.snd.fst
                    a0.snd.snd.snd.snd.snd.snd.snd.fst a0.snd.snd.snd.snd.snd.snd.snd.snd.fst then
              some
                (PV.sc (Value.bool true),
                  [Blk.row false
                      (((Kd.int IntKind.i64).pair
                            (((Kd.int IntKind.i64).pair (Kd.int IntKind.i64)).pair (Kd.int IntKind.i64))).pair
                        ((Kd.int IntKind.i64).pair (Kd.int IntKind.i64)))
                      a1])
            else
              some
                (PV.sc (Value.bool false),
                  [Blk.row false
                      (((Kd.int IntKind.i64).pair
                            (((Kd.int IntKind.i64).pair (Kd.int IntKind.i64)).pair (Kd.int IntKind.i64))).pair
                        ((Kd.int IntKind.i64).pair (Kd.int IntKind.i64)))
                      a1])
          else
            bif costE a0 (List.take a1.length a1) a3 != 0 then
              some
                (PV.sc (Value.bool false),
                  [Blk.row false
                      (((Kd.int IntKind.i64).pair
                            (((Kd.int IntKind.i64).pair (Kd.int IntKind.i64)).pair (Kd.int IntKind.i64))).pair
                        ((Kd.int IntKind.i64).pair (Kd.int IntKind.i64)))
                      a1])
            else
              some
                (PV.sc (Value.bool false),
                  [Blk.row false
                      (((Kd.int IntKind.i64).pair
                            (((Kd.int IntKind.i64).pair (Kd.int IntKind.i64)).pair (Kd.int IntKind.i64))).pair
                        ((Kd.int IntKind.i64).pair (Kd.int IntKind.i64)))
                      a1])
        else
          bif chkT (List.take a1.length a1) != 0 then
            bif costE a0 (List.take a1.length a1) a3 == chkT (List.take a1.length a1) then
              some
                (PV.sc (Value.bool true),
                  [Blk.row false
                      (((Kd.int IntKind.i64).pair
                            (((Kd.int IntKind.i64).pair (Kd.int IntKind.i64)).pair (Kd.int IntKind.i64))).pair
                        ((Kd.int IntKind.i64).pair (Kd.int IntKind.i64)))
                      a1])
            else
              some
                (PV.sc (Value.bool false),
                  [Blk.row false
                      (((Kd.int IntKind.i64).pair
                            (((Kd.int IntKind.i64).pair (Kd.int IntKind.i64)).pair (Kd.int IntKind.i64))).pair
                        ((Kd.int IntKind.i64).pair (Kd.int IntKind.i64)))
                      a1])
          else
            bif costE a0 (List.take a1.length a1) a3 != 0 then
              some
                (PV.sc (Value.bool false),
                  [Blk.row false
                      (((Kd.int IntKind.i64).pair
                            (((Kd.int IntKind.i64).pair (Kd.int IntKind.i64)).pair (Kd.int IntKind.i64))).pair
                        ((Kd.int IntKind.i64).pair (Kd.int IntKind.i64)))
                      a1])
            else
              some
                (PV.sc (Value.bool false),
                  [Blk.row false
                      (((Kd.int IntKind.i64).pair
                            (((Kd.int IntKind.i64).pair (Kd.int IntKind.i64)).pair (Kd.int IntKind.i64))).pair
                        ((Kd.int IntKind.i64).pair (Kd.int IntKind.i64)))
                      a1])))) := by kernel_rfl
theorem no {b : Bool} (h : b = true) (k : b = false) {p : Prop} : p := by rw [h] at k; cases k
theorem p9 (t : Tr) (l : List TN) (nl : Bool) (c : Int) : u9L t l nl c = some (.sc (.bool true), [.row false kTN l]) := by
  rw [u9]
  simp only [List.take_length, Nat.zero_add, len_true, cond_true]
  refine guard_split rfl ?_
  have e0 : partE t.2.2.1 t.2.2.2.1.1 t.2.2.2.1.2 t.2.2.2.2.2.1 t.2.2.2.2.2.2.2.1 t.2.2.2.2.2.2.2.2.1 = trE t := rfl
  have z0 : ((0 : Int) == 0) = true := rfl
  have z1 : ((0 : Int) != 0) = false := rfl
  rw [e0]
  by_cases h1 : chkT l = 0
  · by_cases h2 : 0 ≤ c ∧ c ≤ 4095
    · have hc : chkC l c = 0 := by unfold chkC; rw [if_pos h1, if_neg (by omega)]
      have hin : inS c 0 4095 = true := decide_eq_true h2
      by_cases h3 : trE t = 0
      · have hE : costE t l c = 0 := by unfold costE; rw [if_pos hc, h3]
        simp only [h1, hin, h3, hE, z0, z1, decide_true, Bool.not_true, cond_true, cond_false]
        refine guard_split rfl (guard_split rfl ?_)
        unfold costV fitsS
        rw [h1, h3]
        simp only [decide_true, cond_true]
        have htr := tr_in h3
        refine cond_split (fun h4 => ?_) (fun h4 => ?_)
        · rw [decide_eq_false (show ¬ (AtS l (tT t)).2 = 0 from ne_of_bne h4)]; rfl
        have h4 : (AtS l (tT t)).2 = 0 := eq_of_bne h4
        have hv := at_in h1 h4
        rw [decide_eq_true h4]
        simp only [cond_true]
        unfold nearB
        rw [← apt_eq (a := Hh (AtS l (tT t)).1) (b := tH t) (by omega) (by omega) (by omega) (by omega)]
        refine cond_split (fun h5 => ?_) (fun h5 => ?_)
        · have h5 := of_decide_eq_true h5
          rw [decide_eq_false (show ¬ sqr (X (AtS l (tT t)).1) (Y (AtS l (tT t)).1) (tX t) (tY t) ≤ W (W (Rd (AtS l (tT t)).1 + tR t) * W (Rd (AtS l (tT t)).1 + tR t)) from Int.not_le.2 h5)]; rfl
        have h5 := of_decide_eq_false h5
        rw [decide_eq_true (show sqr (X (AtS l (tT t)).1) (Y (AtS l (tT t)).1) (tX t) (tY t) ≤ W (W (Rd (AtS l (tT t)).1 + tR t) * W (Rd (AtS l (tT t)).1 + tR t)) from Int.not_lt.1 h5)]
        refine cond_split (fun h6 => ?_) (fun h6 => ?_)
        · have h6 := of_decide_eq_true h6
          rw [decide_eq_false (show ¬ aptR (Hh (AtS l (tT t)).1) (tH t) ≤ W (Bn (AtS l (tT t)).1 + 100) from Int.not_le.2 h6)]; rfl
        have h6 := of_decide_eq_false h6
        rw [decide_eq_true (show aptR (Hh (AtS l (tT t)).1) (tH t) ≤ W (Bn (AtS l (tT t)).1 + 100) from Int.not_lt.1 h6)]
        simp only [Bool.true_and]
        have hd : W ((sqr (AtS l t.2.2.1).1.1.2.1.1 (AtS l t.2.2.1).1.1.2.1.2 t.2.2.2.1.1 t.2.2.2.1.2).tdiv 10000) = dist t l := rfl
        refine cond_split (fun h7 => ?_) (fun h7 => ?_)
        · have h7 : tC t ≠ -1 := ne_of_bne h7
          rw [decide_eq_false (show ¬ tC t < 0 by omega)]
          refine cond_split (fun h8 => ?_) (fun h8 => ?_)
          · have h8 : tC t ≠ c := ne_of_bne h8
            rw [show (tC t == c) = false by simpa using h8]; rfl
          · have h8 : tC t = c := eq_of_bne h8
            rw [show (tC t == c) = true by simpa using h8]
            refine cond_split (fun h9 => ?_) (fun h9 => ?_)
            · have h9 : (tC t == -1) = true := h9
              exact absurd (by simpa using h9) h7
            · simp only [Bool.false_or, cond_true, cond_false]
              rw [← hd]
              simp
        · have h7 : tC t = -1 := eq_of_bne h7
          rw [decide_eq_true (show tC t < 0 by omega)]
          refine cond_split (fun h9 => ?_) (fun h9 => ?_)
          · simp only [Bool.true_or, cond_true, cond_false]
            rw [← hd]
            simp
          · have h9 : (tC t == -1) = false := h9
            exact absurd h7 (by simpa using h9)
      · have hE : costE t l c = trE t := by unfold costE; rw [if_pos hc]
        rw [hE]
        simp only [h1, hin, z0, z1, decide_eq_false h3, bne_t h3, Bool.not_true, cond_true, cond_false, beq_self_eq_true]
        exact guard_split rfl rfl
    · have hc : chkC l c = 4 := by unfold chkC; rw [if_pos h1, if_pos (by omega)]
      have hin : inS c 0 4095 = false := decide_eq_false h2
      have hE : costE t l c = 4 := by unfold costE; rw [if_neg (by rw [hc]; decide), hc]
      rw [hE, decide_eq_false (show ¬ (4 : Int) = 0 by decide)]
      simp only [h1, hin, z0, z1, Bool.not_false, cond_true, cond_false, beq_self_eq_true]
      exact guard_split rfl rfl
  · have hc : chkC l c = chkT l := by unfold chkC; rw [if_neg h1]
    have hE : costE t l c = chkT l := by unfold costE; rw [if_neg (by rw [hc]; exact h1), hc]
    rw [hE]
    simp only [decide_eq_false h1, bne_t h1, show (chkT l == 0) = false by simpa using h1, cond_true, cond_false, beq_self_eq_true]
    exact guard_split rfl rfl
theorem lawOK (v : denA [(.s (.v ⟨true, (Kd.pair (Kd.int .i64) (Kd.pair (Kd.int .i64) (Kd.pair (Kd.int .i64) (Kd.pair (Kd.pair (Kd.int .i64) (Kd.int .i64)) (Kd.pair (Kd.pair (Kd.int .i64) (Kd.int .i64)) (Kd.pair (Kd.int .i64) (Kd.pair (Kd.int .i64) (Kd.pair (Kd.int .i64) (Kd.pair (Kd.int .i64) (Kd.pair (Kd.int .i64) (Kd.int .i64)))))))))))⟩)), (.s (.ro (Kd.pair (Kd.pair (Kd.int .i64) (Kd.pair (Kd.pair (Kd.int .i64) (Kd.int .i64)) (Kd.int .i64))) (Kd.pair (Kd.int .i64) (Kd.int .i64))))), (.s (.v ⟨false, (Kd.int .i64)⟩))]) (h : (both (gInt .i64) (both (gInt .i64) (both (gInt .i64) (both (both (gInt .i64) (gInt .i64)) (both (both (gInt .i64) (gInt .i64)) (both (gInt .i64) (both (gInt .i64) (both (gInt .i64) (both (gInt .i64) (both (gInt .i64) (gInt .i64))))))))))) v.1 ∧ (gSlice (k := (Kd.pair (Kd.pair (Kd.int .i64) (Kd.pair (Kd.pair (Kd.int .i64) (Kd.int .i64)) (Kd.int .i64))) (Kd.pair (Kd.int .i64) (Kd.int .i64)))) 48 (both (both (gInt .i64) (both (both (gInt .i64) (gInt .i64)) (gInt .i64))) (both (gInt .i64) (gInt .i64)))) v.2.1 ∧ (gInt .i64) v.2.2.1 ∧ True) : ∃ H', CallOK Try.prog 9 (showA 0 [(.s (.v ⟨true, (Kd.pair (Kd.int .i64) (Kd.pair (Kd.int .i64) (Kd.pair (Kd.int .i64) (Kd.pair (Kd.pair (Kd.int .i64) (Kd.int .i64)) (Kd.pair (Kd.pair (Kd.int .i64) (Kd.int .i64)) (Kd.pair (Kd.int .i64) (Kd.pair (Kd.int .i64) (Kd.pair (Kd.int .i64) (Kd.pair (Kd.int .i64) (Kd.pair (Kd.int .i64) (Kd.int .i64)))))))))))⟩)), (.s (.ro (Kd.pair (Kd.pair (Kd.int .i64) (Kd.pair (Kd.pair (Kd.int .i64) (Kd.int .i64)) (Kd.int .i64))) (Kd.pair (Kd.int .i64) (Kd.int .i64))))), (.s (.v ⟨false, (Kd.int .i64)⟩))] v).1 (showA 0 [(.s (.v ⟨true, (Kd.pair (Kd.int .i64) (Kd.pair (Kd.int .i64) (Kd.pair (Kd.int .i64) (Kd.pair (Kd.pair (Kd.int .i64) (Kd.int .i64)) (Kd.pair (Kd.pair (Kd.int .i64) (Kd.int .i64)) (Kd.pair (Kd.int .i64) (Kd.pair (Kd.int .i64) (Kd.pair (Kd.int .i64) (Kd.pair (Kd.int .i64) (Kd.pair (Kd.int .i64) (Kd.int .i64)))))))))))⟩)), (.s (.ro (Kd.pair (Kd.pair (Kd.int .i64) (Kd.pair (Kd.pair (Kd.int .i64) (Kd.int .i64)) (Kd.int .i64))) (Kd.pair (Kd.int .i64) (Kd.int .i64))))), (.s (.v ⟨false, (Kd.int .i64)⟩))] v).2 (.sc (.bool true)) H' := by
  exact ⟨_, evFuncV_sound TU8_ok mixed Try.func9 (show Try.f9.body = some (bodyF Try.f9) from rfl) (noCuts_ok _) (p9 v.1 v.2.1.1 v.2.1.2 v.2.2.1) (by rw [showA_len]; decide)⟩
end Go.Proofs.YtpndjpjpmcehbaaTu
